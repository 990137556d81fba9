/- Lemmas for the claims of this seat, without a condition: part 33 (V18, V19, V16, S21, S22, S23, S24, S25, S30, S32, S33, S34). -/
import Derived.Test.YtddfphmpfnmknaaGreatDoorGA32
set_option maxHeartbeats 8000000
namespace Go.Eng
open Go.Proofs
variable {p:ByteArray}{L M:List (List Cd)}{i:Nat}{α:Type}(x:List Rl)(ifs:List (List AV))(s:List Sl)(roots:List Rq)(f:Rl→List (List Cd))(y:Bool)(n:Nat)(F:List (List Sl))(r:Rl)(l:List Sl)(m k:Nat)(dec:List Cd)
def yb(p:Sl→Bool)(r:Rl):Bool:=if p (D2 r)=true then y else r.yanked
theorem tn:yb y (JY (l.take 0)) r=r.yanked:=by
 unfold yb;rw[Ae];simp
theorem YM{y:Bool}{l:List Sl}{k:Nat}(h:k<l.length)(r:Rl):yb y (JY (l.take (k+1))) r=if l[k]=D2 r then y else yb y (JY (l.take k)) r:=by
 unfold yb
 by_cases e:l[k]=D2 r
 ·rw[Al e,Al (Aq (by rw[←e,Ep h];exact Bj _ (Ar.2 rfl)))]
 ·rw[Ae e]
  by_cases c:D2 r∈l.take k
  ·rw[Al (Aq (by rw[Ep h];exact Bp _ c)),Al (Aq c)]
  ·rw[Ae (fun q=>by
    have q:=A4 q;rw[Ep h]at q;rcases AY.1 q with q | q
    ·exact c q
    ·exact e (Ar.1 q).symm),Ae (fun q=>c (A4 q))]
theorem fq{y:Bool}{p:Sl→Bool}{x:List Rl}(h:i<x.length):yk y p (x.take (i+1))=yk y p (x.take i)++[{ x[i]with yanked:=yb y p x[i] }]:=by
 unfold yk yb;rw[Ep h,As,List.map_singleton]
 congr 2
 split<;>rfl
theorem xJ(y:Bool)(hl:Cy l)(hx:Cy x)(tW:Cy ifs)(his:∀c∈ifs,c.length=5):PC 52 [.agg (Ic x ifs),sl Ac l,vb y] (EZ (yk y (JY l) x) ifs):=by
 have hl:l.length≤1073741824:=hl;have hx:x.length≤1073741824:=hx;have tW:ifs.length≤1073741824:=tW;refine Ps ⟨[3],[],[],[],[],[],[],[(8,(7,0,61,9))],[],[],[]⟩ Tryz.func52 rfl (Nz rfl) ?_;have b1:Cf 5 ifs∧([]:List (List AV)).length=0∧(([]:List (List AV)).length+(ifs:List (List AV)).length)*112≤140737488355328∧([]:List (List AV)).length+(ifs:List (List AV)).length≤9223372036854775807:=⟨(IR his),(by first | (simp;done) | (rw[Lm];assumption)),(by simp only[Ax];omega),(by simp only[Ax];omega)⟩
 refine Yi b1 (yN (Xi {q:Nat // q≤x.length} (Xi (fun q=>⟨[(1,sl Ac l),(2,vb y),(3,.ref 3 0),(6,.ref 6 0),(7,.ref 7 0),(8,vi q.1)],[(3,.ro (Ic x ifs)),(6,.cells [Ce,Ce]),(7,.cells [.slice (.id 61 9) ((yk y (JY l) (x.take q.1)).map At),.slice (.id 11 5) ([]++ifs)]),(11,.tok 5 (([]:List (List AV)).length+(ifs:List (List AV)).length)),(61,.tok 9 (yk y (JY l) (x.take q.1)).length)],Af⟩) (Xi (fun q=>x.length-q.1) (Yi (Xi ⟨0,AA _⟩ ?_) ?_)))))
 ·exact⟨Z6,Z5,Fh,Tv⟩
 intro⟨i,i1⟩;have i1:i≤x.length:=i1;have i2:(yk y (JY l) (x.take i)).length≤i:=by rw[K9,AB];omega
 refine Yi (fun h2=>?_) (fun h2=>?_)
 ·have h2:(i:Int)<((x.map At).length:Int):=h2;have n2:=GI h2;refine Xi (At x[i]) (Yi (Hb n2) (Yi rfl (yN (yN (Xi {q:Nat // q≤l.length} (Xi (fun q=>⟨[(1,sl Ac l),(2,vb y),(3,.ref 3 0),(6,.ref 6 0),(7,.ref 7 0),(8,vi i),(9,.ref 9 0),(10,vi q.1)],[(3,.ro (Ic x ifs)),(6,.cells [Ce,Ce]),(7,.cells [.slice (.id 61 9) ((yk y (JY l) (x.take i)).map At),.slice (.id 11 5) ([]++ifs)]),(9,.cells [vs x[i].path,vi x[i].ver.a,vi x[i].ver.b,vi x[i].ver.c,sl AH x[i].reqs,vs x[i].arch,vs x[i].ifc,vs x[i].cert,vb (yb y (JY (l.take q.1)) x[i])]),(11,.tok 5 (([]:List (List AV)).length+(ifs:List (List AV)).length)),(61,.tok 9 (yk y (JY l) (x.take i)).length)],Af⟩) (Xi (fun q=>l.length-q.1) (Yi (Xi ⟨0,AA _⟩ ?_) ?_))))))))
  ·exact⟨Z8,⟨Zr,Zr,Zr,⟨(show HO.cells (At x[i])=.cells [vs x[i].path,vi x[i].ver.a,vi x[i].ver.b,vi x[i].ver.c,sl AH x[i].reqs,vs x[i].arch,vs x[i].ifc,vs x[i].cert,vb (yb y (JY (l.take 0)) x[i])] by rw[tn]),rfl⟩,Zr,Zr,Tv⟩,Fh,Tv⟩
  intro⟨k,k1⟩;have k1:k≤l.length:=k1;refine Yi (fun h3=>?_) (fun h3=>?_)
  ·have h3:(k:Int)<((l.map Ac).length:Int):=h3;have n3:=GI h3;refine Xi (Ac l[k]) (Yi (Hb n3) (Yi rfl (Yi (fun h4=>?_) (fun h4=>?_))))
   ·have h4:(l[k].path:ByteArray)=x[i].path:=h4;refine Xi (Ac l[k]) (Yi (Hb n3) (Yi rfl (yN (yN (Yi (fun h5=>?_) (fun h5=>?_))))))
    ·have h5:(l[k].ver.a:Int)=x[i].ver.a∧(l[k].ver.b:Int)=x[i].ver.b∧(l[k].ver.c:Int)=x[i].ver.c∧True:=h5;refine Yi Wk (yN (Yi (Ii k ch) ?_));have ny:=YM (y:=y) n3 x[i];rw[Al (bf (a:=l[k]) (b:=D2 x[i]) ⟨h4,h5⟩)]at ny;refine Xi ⟨k+1,n3⟩ ?_;exact⟨Dl l.length k ch,Z8,⟨Zr,Zr,Zr,⟨(show HO.cells [vs x[i].path,vi x[i].ver.a,vi x[i].ver.b,vi x[i].ver.c,sl AH x[i].reqs,vs x[i].arch,vs x[i].ifc,vs x[i].cert,vb y]=.cells [vs x[i].path,vi x[i].ver.a,vi x[i].ver.b,vi x[i].ver.c,sl AH x[i].reqs,vs x[i].arch,vs x[i].ifc,vs x[i].cert,vb (yb y (JY (l.take (k+1))) x[i])] by rw[ny]),rfl⟩,Zr,Zr,Tv⟩,Fh,Tv⟩
    have h5:¬((l[k].ver.a:Int)=x[i].ver.a∧(l[k].ver.b:Int)=x[i].ver.b∧(l[k].ver.c:Int)=x[i].ver.c∧True):=h5;refine Yi Wk (Yi (Ii k ch) ?_);have ny:=YM (y:=y) n3 x[i];rw[Ae (fun q=>h5 (by rw[q];exact⟨rfl,rfl,rfl,trivial⟩))]at ny;refine Xi ⟨k+1,n3⟩ ?_;exact⟨Dl l.length k ch,Z8,⟨Zr,Zr,Zr,⟨(show HO.cells [vs x[i].path,vi x[i].ver.a,vi x[i].ver.b,vi x[i].ver.c,sl AH x[i].reqs,vs x[i].arch,vs x[i].ifc,vs x[i].cert,vb (yb y (JY (l.take k)) x[i])]=.cells [vs x[i].path,vi x[i].ver.a,vi x[i].ver.b,vi x[i].ver.c,sl AH x[i].reqs,vs x[i].arch,vs x[i].ifc,vs x[i].cert,vb (yb y (JY (l.take (k+1))) x[i])] by rw[ny]),rfl⟩,Zr,Zr,Tv⟩,Fh,Tv⟩
   have h4:¬(l[k].path:ByteArray)=x[i].path:=h4;refine Yi Wk (Yi (Ii k ch) ?_);have ny:=YM (y:=y) n3 x[i];rw[Ae (fun q=>h4 (Ab Sl.path q))]at ny;refine Xi ⟨k+1,n3⟩ ?_;exact⟨Dl l.length k ch,Z8,⟨Zr,Zr,Zr,⟨(show HO.cells [vs x[i].path,vi x[i].ver.a,vi x[i].ver.b,vi x[i].ver.c,sl AH x[i].reqs,vs x[i].arch,vs x[i].ifc,vs x[i].cert,vb (yb y (JY (l.take k)) x[i])]=.cells [vs x[i].path,vi x[i].ver.a,vi x[i].ver.b,vi x[i].ver.c,sl AH x[i].reqs,vs x[i].arch,vs x[i].ifc,vs x[i].cert,vb (yb y (JY (l.take (k+1))) x[i])] by rw[ny]),rfl⟩,Zr,Zr,Tv⟩,Fh,Tv⟩
  have h3:¬((k:Int)<((l.map Ac).length:Int)):=h3;have n3:=GH h3;refine yN (Yi (Wt rfl ch Cl) (yN (Yi (Ii i ch) ?_)));have ek:l.take k=l:=Au ch;refine Xi ⟨i+1,n2⟩ ?_;exact⟨Dl x.length i ch,Z6,⟨Zr,Zr,⟨(show HO.cells [AV.slice (.id 61 9) ((yk y (JY l) (x.take i)).map At++[[vs x[i].path,vi x[i].ver.a,vi x[i].ver.b,vi x[i].ver.c,sl AH x[i].reqs,vs x[i].arch,vs x[i].ifc,vs x[i].cert,vb (yb y (JY (l.take k)) x[i])]]),AV.slice (.id 11 5) (([]:List (List AV))++ifs)]=.cells [.slice (.id 61 9) ((yk y (JY l) (x.take (i+1))).map At),.slice (.id 11 5) (([]:List (List AV))++ifs)] by rw[fq n2,As,ek];rfl),rfl⟩,Zr,⟨(show HO.tok 9 (((yk y (JY l) (x.take i)).map At).length+([[vs x[i].path,vi x[i].ver.a,vi x[i].ver.b,vi x[i].ver.c,sl AH x[i].reqs,vs x[i].arch,vs x[i].ifc,vs x[i].cert,vb (yb y (JY (l.take k)) x[i])]]:List (List AV)).length)=.tok 9 (yk y (JY l) (x.take (i+1))).length by rw[fq n2,Ad,Lm];rfl),rfl⟩,Tv⟩,Fh,Tv⟩
 have h2:¬((i:Int)<((x.map At).length:Int)):=h2;have n2:=GH h2;refine yN (yN (yN ?_));have ei:x.take i=x:=Au ch;exact .of_eq (show AV.agg [sl At (yk y (JY l) (x.take i)),.slice .none (([]:List (List AV))++ifs)]=EZ (yk y (JY l) x) ifs by rw[ei];rfl)
theorem xI(s:Sl)(hk:PC 47 [EZ x ifs] (vi (AN x)))(hf:∀z:Sl,PC 49 [EZ x ifs,vs z.path,.agg (Fu z.ver)] (My (CY x z)))(z6:PC 52 [EZ x ifs,sl Ac [s],vb true] (EZ (yk true (Kv s) x) ifs)):PC 45 [.agg (Ic x ifs),.agg (Ac s),vb true] (Kq x ifs s true):=by
 refine Ps (pC [3,4,8] [4]) Tryz.func45 rfl (Nz rfl) (yN (Xi .pure (Xi _ (Yi hk (Yi (fun h1=>?_) (fun h1=>?_))))))
 ·have h1:((AN x):Int)≠(0:Int):=h1;refine yN (yN ?_);exact IF (Al h1) Cl
 have h1:((AN x):Int)=(0:Int):=AC h1;refine yN (yN (BF (RJ (CY x s)) (fun h3=>?_) (fun h3=>?_)))
 ·refine Ba h3 (fun r h3=>?_);have WP:=(hf s);rw[h3]at WP;refine Xi .pure (Xi _ (Yi WP (yN (cU [(2,vb true),(3,.ref 3 0),(4,.ref 4 0),(6,.ref 6 0),(8,.ref 8 0),(9,vb true)] [(3,.ro (Ic x ifs)),(4,.ro (Ac s)),(6,.cells [Ce,Ce]),(8,.ro (At r))] Z6 Z4 (Yi (fun h4=>?_) (fun h4=>?_))))))
  ·have h4:r.yanked=true:=h4;refine yN (yN ?_);have e0:F5 x s true=(match CY x s with | none=>6 | some r=>if r.yanked=true then 8 else 0):=Ae (fun q=>q h1);rw[h3]at e0;exact IF (e0.trans (Al (by rw[h4]))) Cl
  have h4:r.yanked=false:=h4;refine yN (yN (Xi .pure (Xi _ (Yi z6 (yN (yN ?_))))));have e0:F5 x s true=(match CY x s with | none=>6 | some r=>if r.yanked=true then 8 else 0):=Ae (fun q=>q h1);rw[h3]at e0;exact .of_eq (TE (e0.trans (Ae (by rw[h4];decide)))).symm
 have WP:=(hf s);rw[h3]at WP;refine Xi .pure (Xi _ (Yi WP (yN (cU [(2,vb true),(3,.ref 3 0),(4,.ref 4 0),(6,.ref 6 0),(8,.ref 8 0),(9,vb false)] [(3,.ro (Ic x ifs)),(4,.ro (Ac s)),(6,.cells [Ce,Ce]),(8,.ro [vs ⟨#[]⟩,vi 0,vi 0,vi 0,Ce,vs ⟨#[]⟩,vs ⟨#[]⟩,vs ⟨#[]⟩,vb false])] Z6 Z4 (yN (yN ?_))))));have e0:F5 x s true=(match CY x s with | none=>6 | some r=>if r.yanked=true then 8 else 0):=Ae (fun q=>q h1);rw[h3]at e0;exact IF e0 Cl
theorem Acx(s:Sl)(h45:PC 45 [EZ x ifs,.agg (Ac s),vb true] (Kq x ifs s true)):PC 20 [.agg (Ic x ifs),.agg (Ac s)] (Kq x ifs s true):=by
 refine Ps (pC [2,3] []) Tryz.func20 rfl (Nz rfl) (yN (yN (Xi .pure (Xi _ (Yi h45 (yN (yN ?_)))))));exact .refl _
theorem Acy(hk:PC 47 [EZ x ifs] (vi (AN x)))(hi:PC 48 [sl Ac l] (vb (DG l)))(z6:PC 52 [EZ x ifs,sl Ac l,vb false] (EZ (yk false (JY l) x) ifs)):PC 25 [.agg (Ic x ifs),sl Ac l] (M9 x ifs l):=by
 refine Ps (pC [2] []) Tryz.func25 rfl (Nz rfl) (yN (Xi .pure (Xi _ (Yi hk (Yi (fun h1=>?_) (fun h1=>?_))))))
 ·have h1:((AN x):Int)≠(0:Int):=h1;refine yN (yN ?_);exact Ry (Xk h1)
 have h1:((AN x):Int)=(0:Int):=AC h1;refine BF (Bt (DG l)) (fun h3=>?_) (fun h3=>?_)
 ·have h3:(DG l)=true:=h3;refine Xi .pure (Xi _ (Yi (cb h3 hi) (yN (Xi .pure (Xi _ (Yi z6 (yN (yN ?_))))))));exact .of_eq (ac (Xl h1 h3)).symm
 have h3:(DG l)=false:=h3;refine Xi .pure (Xi _ (Yi (cb h3 hi) (yN (yN ?_))));exact Ry (Ap (fun q=>by have z:=(Qk q).2;rw[h3]at z;cases z))
theorem Acn(a b:List Sl)(ha:Cy a):PC 19 [sl Ac a,sl Ac b] (vb (decide (a=b))):=by
 have xY:a.length≤1073741824:=ha;refine Ps D3 Tryz.func19 rfl (Nz rfl) (Yi (fun h1=>?_) (fun h1=>?_))
 ·have h1:((a.map Ac).length:Int)≠((b.map Ac).length:Int):=h1;exact .of_eq (show vb false=vb (decide (a=b)) by rw[Ap (fun e=>absurd (Ab (fun z=>((z.map Ac).length:Int)) e) h1)])
 have h1:((a.map Ac).length:Int)=((b.map Ac).length:Int):=AC h1;have hl:a.length=b.length:=by have q:=h1;rw[Lm,Lm]at q;omega
 refine Xi {q:Nat // q≤a.length∧∀j (hj:j<a.length),j<q→a[j]=b[j]'(hl▸hj)} (Xi (fun q=>⟨[(0,sl Ac a),(1,sl Ac b),(12,vi (a.map Ac).length),(13,vi q.1)],[],Af⟩) (Xi (fun q=>a.length-q.1) (Yi (Xi ⟨0,AA _,fun _ _ h=>absurd h (F2 _)⟩ ?_) ?_)))
 ·exact⟨Z4,Tv,Fh,Tv⟩
 intro⟨i,i1,i2⟩;have i1:i≤a.length:=i1;have i2:∀j (hj:j<a.length),j<i→a[j]=b[j]'(hl▸hj):=i2;refine Yi (fun h3=>?_) (fun h3=>?_)
 ·have h3:(i:Int)<((a.map Ac).length:Int):=h3;have n3:=GI h3;have qq:i<b.length:=by have q:=h3;rw[Lm]at q;omega
  refine Xi (Ac a[i]) (Yi (Hb n3) (Yi rfl (yN (Xi (Ac b[i]) (Yi (Hb qq) (Yi rfl (yN (Yi (fun h4=>?_) (fun h4=>?_)))))))))
  ·have h4:(a[i].path:ByteArray)=b[i].path∧(a[i].ver.a:Int)=b[i].ver.a∧(a[i].ver.b:Int)=b[i].ver.b∧(a[i].ver.c:Int)=b[i].ver.c∧True:=h4;refine Yi Wk (Yi (Ii i ch) ?_);refine Xi ⟨i+1,n3,fun j hj Iq=>if e:j<i then i2 j hj e else by
     have e:j=i:=by omega
     subst e;exact bf h4⟩ ?_
   exact⟨Dl a.length i ch,Z4,Tv,Fh,Tv⟩
  have h4:¬((a[i].path:ByteArray)=b[i].path∧(a[i].ver.a:Int)=b[i].ver.a∧(a[i].ver.b:Int)=b[i].ver.b∧(a[i].ver.c:Int)=b[i].ver.c∧True):=h4;refine Yi Wk ?_;exact .of_eq (show vb false=vb (decide (a=b)) by rw[Ap (jv (i:=i) (ha:=n3) (hb:=qq) (qJ h4))])
 have h3:¬((i:Int)<((a.map Ac).length:Int)):=h3;have n3:=GH h3;exact .of_eq (show vb true=vb (decide (a=b)) by rw[Aq (Yr hl fun j hj=>i2 j hj (by have q:=h3;rw[Lm]at q;omega))])
theorem nW{x:List Rl}(hx:x.length≤16):Cy (Fb x roots):=by
 by_cases h:DT x roots=0
 ·have:=(QI h).2.1
  show _≤1073741824;omega
 ·unfold Fb;rw[Ae h];exact AA _
theorem RU{x:List Rl}{roots:List Rq}(h:(FE x 16&&Ff roots)=true):FE x 16=true:=(Bool.and_eq_true_iff.1 h).1
abbrev E8:List AV:=[sl Ac l]
abbrev jh(l:List (List Cd)):List (List Sl):=l.map fun d=>Ey (AD d)
abbrev ud(N:List Nd)(c:Cd):List (List Cd):=if aK dec N c then CG x roots n (dec++[c])else []
theorem cB{x:List Rl}{roots:List Rq}{n:Nat}{dec:List Cd}(h:(Em roots dec).2=[]):CG x roots (n+1) dec=[dec]:=by unfold CG;rw[h]
def GW(m:Int):Int:=if Ck x roots=false∨m<0∨1024<m then 1 else 0
def H5(m:Int):List (List Sl):=if GW x roots m=0 then(jh (CG x roots (x.length+1) [])).take m.toNat else []
section
variable {x:List Rl}{roots:List Rq}
def TM(x:List Rl)(roots:List Rq):Prop:=∃s,qb x roots s
theorem bh(hv:Ck x roots=true)(hx:x.length≤16):Gu x roots=0:=by
 unfold Gu;rw[Al hv,I2 hx];rfl
theorem Xs(hv:Ck x roots=true)(hx:x.length≤16):GL x roots=SY x roots:=by
 unfold GL;rw[Al ⟨hv,I2 hx⟩]
theorem WK(hv:Ck x roots=true)(hx:x.length≤16):(GL x roots).found=true↔TM x roots:=by
 obtain⟨h0,h1⟩:=II hv;have hR:=I3 h0 h1;have hf:=I2 (roots:=roots) hx;rw[Xs hv hx];unfold SY;generalize DU x roots=o at *
 constructor
 ·intro h
  by_cases LN:o.found=true
  ·obtain⟨_,t,sl,y2,y3,y4,y5⟩:=hR.yes LN;have hm:o.dec∈CG x roots (x.length+1) []:=Li y5;exact⟨_,(HW (.nil x) (.nil roots) _ hm).sol h0⟩
  ·rw[Ae LN]at h;cases h
 ·rintro⟨s,hs⟩
  by_cases LN:o.found=true
  ·rw[Al LN]
  ·have LN:o.found=false:=by simpa using LN
   obtain⟨n4,n5⟩:=(hR.no LN).2.2 hf;have kO:D7 o.ss o.res=[]:=by
    cases h:D7 o.ss o.res with
    |nil=>rfl
    |cons u l =>
     rw[h]at n5
     have:=(KH.1 n5).2 u (Aa ..)
     cases this
   have ZN:D7 o.ss o.res∈o.ss.drv:=Ay (EY n4)
   have:=Ih hs (fun _ h=>by cases h) hR.der.der _ ZN
   rw[kO]at this;cases this
theorem pL(hv:Ck x roots=true)(hx:x.length≤16):(DT x roots=0↔TM x roots)∧(DT x roots=17↔¬TM x roots):=by
 unfold DT;rw[bh hv hx,Ae (fun h=>h rfl),←WK hv hx]
 by_cases h:(GL x roots).found=true
 ·rw[Al h];simp[h]
 ·rw[Ae h];simp[h]
end
theorem LH:∀cs∈s.map Ac,cs.length=4:=fun cs h=>by
 obtain⟨x,_,rfl⟩:=Am.1 h;rfl
abbrev Np:List (List AV):=((s.map Ac).take (((s.map Ac).length:Nat):Int).toNat).drop ((k:Nat):Int).toNat
abbrev ZF:List (List AV):=((s.map Ac).take ((k:Nat):Int).toNat).drop ((0:Int)).toNat
theorem Vm:Np s k=(s.drop k).map Ac:=by
 unfold Np;rw[A7,A7,Au (Ao _),List.map_drop]
theorem dO:ZF s k=(s.take k).map Ac:=by
 unfold ZF;rw[A7,show(0:Int).toNat=0 from rfl,Lg,SX]
theorem qd(x:Sl)(k:Nat)(h:s.length≤1073741824):Cf 4 (Np s k)∧[Ac x].length=1∧([Ac x].length+(Np s k).length)*40≤140737488355328∧[Ac x].length+(Np s k).length≤9223372036854775807:=by
 rw[Vm];refine⟨IR (LH _),rfl,?_,?_⟩<;>rw[Lm,B3,AG]<;>omega
theorem qe(x:Sl)(k:Nat)(hk:k≤s.length)(h:s.length≤1073741824):Cf 4 ([Ac x]++Np s k)∧(ZF s k).length=((k:Nat):Int).toNat-((0:Int)).toNat∧((ZF s k).length+([Ac x]++Np s k).length)*40≤140737488355328∧(ZF s k).length+([Ac x]++Np s k).length≤9223372036854775807:=by
 rw[Vm,dO];refine⟨⟨rfl,IR (LH _)⟩,?_,?_,?_⟩
 ·rw[Lm,AB,A7];show min k s.length=k-0;omega
 ·rw[Ad,Lm,Lm,AB,B3,AG];omega
 ·rw[Ad,Lm,Lm,AB,B3,AG];omega
theorem qA(x:Sl)(k:Nat):ZF s k++([Ac x]++Np s k)=(s.take k++([x]++s.drop k)).map Ac:=by
 rw[Vm,dO,As,As];rfl
theorem Z0{s:List Sl}{x:Sl}{k:Nat}(hs:QY s)(hn:∀y∈s,y.path≠x.path)(h1:∀j (hj:j<s.length),k≤j→DL x.path s[j].path=true)(h2:k=0∨∃h:k-1<s.length,DL x.path s[k-1].path=false)(hk:k≤s.length) :
  QY (s.take k++([x]++s.drop k)):=by
 have VH : s.Pairwise fun a b=>DL a.path b.path=true:=hs;have ht:∀y∈s.take k,DL y.path x.path=true:=fun y hy=>by
  obtain⟨j,hj,rfl⟩:=BR.1 hy;rw[E4];rw[AB]at hj;have hjs:j<s.length:=by omega
  rcases h2 with h | ⟨h,hb⟩
  ·omega
  ·have DJ:DL s[k-1].path x.path=true:=by
    cases e:DL s[k-1].path x.path with
    |true=>rfl
    |false=>exact absurd (G6 e hb) (hn _ (Aj h))
   rcases BY j (k-1)with z | z
   ·exact DQ ((AS.1 VH) j (k-1) hjs h z) DJ
   ·have:j=k-1:=by omega
    subst this;exact DJ
 have hd:∀y∈s.drop k,DL x.path y.path=true:=fun y hy=>by
  obtain⟨j,hj,rfl⟩:=BR.1 hy;rw[B3]at hj;rw[List.getElem_drop];exact h1 _ ch ch
 show(s.take k++([x]++s.drop k)).Pairwise _;rw[List.pairwise_append];refine⟨VH.sublist (List.take_sublist _ _),?_,fun a ha b hb=>?_⟩
 ·rw[IK,Bz];exact⟨hd,VH.sublist (List.drop_sublist _ _)⟩
 ·rw[IK]at hb;rcases AF.1 hb with rfl | hb
  ·exact ht a ha
  ·exact DQ (ht a ha) (hd b hb)
theorem UK(x:Sl)(k:Nat):(s.take k++([x]++s.drop k)).Perm (x::s):=by
 have:=List.perm_middle (a:=x) (l₁:=s.take k) (l₂:=s.drop k)
 rw[Fr]at this;exact this
def MQ:Bool:=r.reqs.any fun q=>l.any fun y=>decide (y.path=q.path)&&!has q.set (place y.ver)
theorem qG{l s:List Sl}(hn:(l.map (·.path)).Nodup)(hp:s.Perm (l.take i))(hi:i<l.length):∀y∈s,y.path≠l[i].path:=fun y hy e=>by
 obtain⟨j,hj,rfl⟩:=BR.1 (hp.mem_iff.1 hy);rw[E4]at e;rw[AB]at hj
 have:=(AS.1 hn) j i (by rw[Lm];omega) (by rw[Lm];exact hi) ch
 rw[TN,TN]at this;exact this e
theorem s74(hl:Cy l)(hn:(l.map (·.path)).Nodup):PC 145 [sl Ac l] (sl Ac (Ey l)):=by
 have hl:l.length≤1073741824:=hl;refine Ps (pT [] [(3,0)] []) Tryz.func145 rfl (Nz rfl) (Xi {q:Nat×List Sl // q.1≤l.length∧q.2.Perm (l.take q.1)∧QY q.2} (Xi (fun q=>⟨[(0,sl Ac l),(3,sl Ac q.1.2),(4,vi q.1.1)],[],Af⟩) (Xi (fun q=>l.length-q.1.1) (Yi (Xi ⟨(0,[]),AA _,.refl _,.nil⟩ ?_) ?_))))
 ·exact⟨Z3,Tv,Fh,Tv⟩
 intro⟨⟨i,s⟩,i1,i2,i3⟩;have i1:i≤l.length:=i1;have i2:s.Perm (l.take i):=i2;have i3:QY s:=i3;have WR:s.length≤l.length:=by have q:=i2.length_eq;rw[AB]at q;omega
 refine Yi (fun h1=>?_) (fun h1=>?_)
 ·have h1:(i:Int)<((l.map Ac).length:Int):=h1;have n1:=GI h1;refine Xi {q:Nat // q≤s.length∧∀j (hj:j<s.length),q≤j→DL l[i].path s[j].path=true} (Xi (fun q=>⟨[(0,sl Ac l),(3,sl Ac s),(4,vi i),(5,vi q.1)],[],Af⟩) (Xi (fun q=>q.1) (Yi (Xi ⟨s.length,Ao _,fun j hj Iq=>by omega⟩ ?_) ?_)))
  ·exact⟨⟨Zr,Zr,Zr,⟨(show vi ((s.map Ac).length:Int)=vi (s.length:Int) by rw[Lm]),rfl⟩,Tv⟩,Tv,Fh,Tv⟩
  intro⟨k,k1,k2⟩;have k1:k≤s.length:=k1;have k2:∀j (hj:j<s.length),k≤j→DL l[i].path s[j].path=true:=k2;refine Yi (fun h2=>?_) (fun h2=>?_)
  ·have h2:(0:Int)<(k:Int):=h2;refine Yi (by show Bc ((k:Int)-(1:Int));unfold Bc;omega) ?_;have tX:k-1<s.length:=by omega
   refine Xi (Ac (s[k-1])) (Yi (Yi (show(0:Int)≤(k:Int)-1 by omega) (by rw[show((k:Int)-1).toNat=k-1 by omega];exact CR (Ge tX))) (Yi rfl ?_));refine Xi (Ac l[i]) (Yi (Hb n1) (Yi rfl (Yi (fun h3=>?_) (fun h3=>?_))))
   ·have h3:DL l[i].path (s[k-1]).path=true:=(Ed _ _).trans h3;refine Yi Wk (Yi (by show Bc ((k:Int)-(1:Int));unfold Bc;omega) ?_);refine Xi ⟨k-1,by omega,fun j hj Iq=>by
      rcases BY j k with z | z
      ·have e:j=k-1:=by omega
       subst e;exact h3
      ·exact k2 j hj z⟩ ?_
    exact⟨by show(k-1:Nat)<k;omega,⟨Zr,Zr,Zr,⟨(show vi ((k:Int)-1)=vi ((k-1:Nat):Int)from Ab vi ch),rfl⟩,Tv⟩,Tv,Fh,Tv⟩
   have h3:DL l[i].path (s[k-1]).path=false:=(Ed _ _).trans (AI.2 h3);have H6:k=0∨∃h:k-1<s.length,DL l[i].path s[k-1].path=false:=.inr ⟨tX,h3⟩;refine Yi Wk (Yi (show(0:Int)≤0∧(0:Int)≤k∧(k:Int)=k∧(k:Int)≤((s.map Ac).length:Nat) by rw[Lm];omega) (Yi (LH s) (Xi (Ac l[i]) (Yi (Hb n1) (Yi rfl (yN (Yi (show(0:Int)≤k∧(k:Int)≤((s.map Ac).length:Nat)∧(((s.map Ac).length:Nat):Int)≤((s.map Ac).length:Nat) by rw[Lm];omega) (Yi (LH s) ?_))))))));refine Yi (qd s l[i] k ch) (Yi (qe s l[i] k k1 ch) (Yi Wk (Yi (Ii i ch) ?_)));have m9:l.take (i+1)=l.take i++[l[i]]:=D6 n1;have dT:∀y∈s,y.path≠l[i].path:=qG hn i2 n1;refine Xi ⟨(i+1,s.take k++([l[i]]++s.drop k)),n1,by show(s.take k++([l[i]]++s.drop k)).Perm (l.take (i+1));rw[m9];exact(UK s _ k).trans ((i2.cons _).trans (Pr _ _).symm),Z0 i3 dT k2 H6 k1⟩ ?_;exact⟨Dl l.length i ch,⟨Zr,⟨(show AV.slice .none (ZF s k++([Ac l[i]]++Np s k))=sl Ac (s.take k++([l[i]]++s.drop k))from Ab (AV.slice .none) (qA s l[i] k)),rfl⟩,Zr,Tv⟩,Tv,Fh,Tv⟩
  have h2:¬((0:Int)<(k:Int)):=h2;have H6:k=0∨∃h:k-1<s.length,DL l[i].path s[k-1].path=false:=.inl ch;refine Yi Wk (Yi (show(0:Int)≤0∧(0:Int)≤k∧(k:Int)=k∧(k:Int)≤((s.map Ac).length:Nat) by rw[Lm];omega) (Yi (LH s) (Xi (Ac l[i]) (Yi (Hb n1) (Yi rfl (yN (Yi (show(0:Int)≤k∧(k:Int)≤((s.map Ac).length:Nat)∧(((s.map Ac).length:Nat):Int)≤((s.map Ac).length:Nat) by rw[Lm];omega) (Yi (LH s) ?_))))))));refine Yi (qd s l[i] k ch) (Yi (qe s l[i] k k1 ch) (Yi Wk (Yi (Ii i ch) ?_)));have m9:l.take (i+1)=l.take i++[l[i]]:=D6 n1;have dT:∀y∈s,y.path≠l[i].path:=qG hn i2 n1;refine Xi ⟨(i+1,s.take k++([l[i]]++s.drop k)),n1,by show(s.take k++([l[i]]++s.drop k)).Perm (l.take (i+1));rw[m9];exact(UK s _ k).trans ((i2.cons _).trans (Pr _ _).symm),Z0 i3 dT k2 H6 k1⟩ ?_;exact⟨Dl l.length i ch,⟨Zr,⟨(show AV.slice .none (ZF s k++([Ac l[i]]++Np s k))=sl Ac (s.take k++([l[i]]++s.drop k))from Ab (AV.slice .none) (qA s l[i] k)),rfl⟩,Zr,Tv⟩,Tv,Fh,Tv⟩
 have h1:¬((i:Int)<((l.map Ac).length:Int)):=h1;have n1:=GH h1;have hi:l.take i=l:=Au (by have q:=h1;rw[Lm]at q;omega);exact .of_eq (Ab (fun z=>sl Ac z) (Ox i3 (NU hn) fun y=>by rw[He,i2.mem_iff,hi]))
def UY(q:Rq)(y:Sl):Bool:=decide (y.path=q.path)&&!has q.set (place y.ver)
def ly(q:Rq):Bool:=l.any (UY q)
theorem oV{l:List Sl}{l0:List Sl}{y:Sl}(h:l=l0++[y]):(0:Int)≤((l.map Ac).length:Int)-1∧(l.map Ac)[(((l.map Ac).length:Int)-1).toNat]?=some (Ac y):=by
 subst h;rw[Lm,Ad,AG];refine⟨by omega,?_⟩;rw[show(((l0.length+1:Nat):Int)-1).toNat=l0.length by omega,As,AR (by rw[Lm];exact Ao _),Lm,EF];rfl
theorem s77(l0:List Sl)(y:Sl)(r:Rl)(hx:∀r∈x,Gv r)(VV:Cy x)(hl:l.length≤100000)(hly:l=l0++[y])(hr:CY x ⟨y.path,y.ver⟩=some r)(hv:∀y∈l,Cj y.ver=true)(hq:∀q∈r.reqs,Cy q.set)(hrl:r.reqs.length≤100000) :
  PC 147 [EZ x ifs,sl Ac l] (vb (MQ r l)):=by
 have hml:(l.map Ac).length=l.length:=Lm _;have u5:=zQ x ifs y.path y.ver hx VV;rw[hr]at u5;refine Ps (pC [2] []) Tryz.func147 rfl (Nz rfl) (Yi (by show Bc (((l.map Ac).length:Int)-(1:Int));unfold Bc;omega) ?_);refine Xi (Ac y) (Yi (oV hly) (Yi rfl (yN (yN (yN (yN (Xi .pure (Xi _ (Yi u5 (yN (Xi {q:Nat // q≤r.reqs.length∧∀j (hj:j<r.reqs.length),j<q→ly l r.reqs[j]=false} (Xi (fun q=>⟨[(1,sl Ac l),(6,.ref 6 0),(8,vi q.1)],[(6,.cells (At r))],Af⟩) (Xi (fun q=>r.reqs.length-q.1) (Yi (Xi ⟨0,AA _,fun _ _ h=>absurd h (F2 _)⟩ ?_) ?_))))))))))))))
 ·exact⟨Z3,Z1,Fh,Tv⟩
 intro⟨i,i1,i2⟩;have i1:i≤r.reqs.length:=i1;have i2:∀j (hj:j<r.reqs.length),j<i→ly l r.reqs[j]=false:=i2;refine Yi (fun h1=>?_) (fun h1=>?_)
 ·have h1:(i:Int)<((r.reqs.map AH).length:Int):=h1;have n1:=GI h1;refine Xi {q:Nat // q≤l.length∧∀j (hj:j<l.length),j<q→UY r.reqs[i] l[j]=false} (Xi (fun q=>⟨[(1,sl Ac l),(6,.ref 6 0),(8,vi i),(9,vi q.1)],[(6,.cells (At r))],Af⟩) (Xi (fun q=>l.length-q.1) (Yi (Xi ⟨0,AA _,fun _ _ h=>absurd h (F2 _)⟩ ?_) ?_)))
  ·exact⟨Z4,Z1,Fh,Tv⟩
  intro⟨k,k1,k2⟩;have k1:k≤l.length:=k1;have k2:∀j (hj:j<l.length),j<k→UY r.reqs[i] l[j]=false:=k2;refine Yi (fun h2=>?_) (fun h2=>?_)
  ·have h2:(k:Int)<((l.map Ac).length:Int):=h2;have n2:=GI h2;refine Xi (Ac l[k]) (Yi (Hb n2) (Yi rfl (Xi (AH r.reqs[i]) (Yi (Hb n1) (Yi rfl (Yi (fun h3=>?_) (fun h3=>?_)))))))
   ·have h3:(l[k].path:ByteArray)=r.reqs[i].path:=h3;refine Xi (AH r.reqs[i]) (Yi (Hb n1) (Yi rfl (Xi (Ac l[k]) (Yi (Hb n2) (Yi rfl (yN (Xi _ (Yi (mX l[k].ver (hv _ (Aj n2))) (BF (Bt (has r.reqs[i].set (place l[k].ver))) (fun h4=>?_) (fun h4=>?_))))))))))
    ·have h4:(has r.reqs[i].set (place l[k].ver))=true:=h4;refine Xi _ (Yi (cb h4 (nK r.reqs[i].set (place l[k].ver) (hq _ (Aj n1)))) (Yi Wk (Yi (Ii k ch) ?_)));have vY:UY r.reqs[i] l[k]=false:=by unfold UY;rw[Aq h3,h4];rfl
     refine Xi ⟨k+1,n2,fun j hj Iq=>if e:j<k then k2 j hj e else by
       have e:j=k:=by omega
       subst e;exact vY⟩ ?_
     exact⟨Dl l.length k ch,Z4,Z1,Fh,Tv⟩
    have h4:(has r.reqs[i].set (place l[k].ver))=false:=h4;refine Xi _ (Yi (cb h4 (nK r.reqs[i].set (place l[k].ver) (hq _ (Aj n1)))) (Yi Wk ?_));exact .of_eq (Ab vb (show true=MQ r l from(A5.2 ⟨r.reqs[i],Aj n1,A5.2 ⟨l[k],Aj n2,by rw[Aq h3,h4];rfl⟩⟩).symm))
   have h3:¬(l[k].path:ByteArray)=r.reqs[i].path:=h3;refine Yi Wk (Yi (Ii k ch) ?_);have vY:UY r.reqs[i] l[k]=false:=by unfold UY;rw[Ap h3];rfl
   refine Xi ⟨k+1,n2,fun j hj Iq=>if e:j<k then k2 j hj e else by
     have e:j=k:=by omega
     subst e;exact vY⟩ ?_
   exact⟨Dl l.length k ch,Z4,Z1,Fh,Tv⟩
  have h2:¬((k:Int)<((l.map Ac).length:Int)):=h2;have n2:=GH h2;refine Yi (Ii i ch) ?_;refine Xi ⟨i+1,n1,fun j hj Iq=>if e:j<i then i2 j hj e else by
    have e:j=i:=by omega
    subst e;exact De.2 fun y hy=>by
     obtain⟨m,hm,rfl⟩:=BR.1 hy;rw[k2 m hm (by have q:=h2;rw[Lm]at q;omega)];decide⟩ ?_
  exact⟨Dl r.reqs.length i ch,Z3,Z1,Fh,Tv⟩
 have h1:¬((i:Int)<((r.reqs.map AH).length:Int)):=h1;have n1:=GH h1;have hcf:MQ r l=false:=De.2 fun q hq=>by
  obtain⟨m,hm,rfl⟩:=BR.1 hq;show ¬ly l r.reqs[m]=true;rw[i2 m hm (by have q:=h1;rw[Lm]at q;omega)];decide
 exact .of_eq (Ab vb hcf.symm)
def tk(L:List (List Cd))(m:Nat):List (List Sl):=F++(jh L).take (m-F.length)
theorem mI:tk F [] m=F:=by unfold tk;simp
theorem dp{F:List (List Sl)}{m:Nat}(h:(tk F L m).length<m):tk F (L++M) m=tk (tk F L m) M m:=by
 have hl:(jh L).length≤m-F.length:=by
  unfold tk at h;rw[Ad,AB]at h;omega
 have e:tk F L m=F++jh L:=by unfold tk;rw[Au hl]
 rw[e];unfold tk;rw[show jh (L++M)=jh L++jh M from As,List.take_append,Au hl,Ad,Bx,Nat.sub_sub]
theorem fg{F:List (List Sl)}{m:Nat}(h:m≤(tk F L m).length)(hF:F.length≤m):tk F (L++M) m=tk F L m:=by
 unfold tk at h⊢;rw[Ad,AB]at h;rw[show jh (L++M)=jh L++jh M from As,FJ ch]
def Mx(N:List Nd)(p:ByteArray)(r:Rl):List (List Cd):=if r.path=p∧r.yanked=false then ud x roots n dec N ⟨plc r.ver,r⟩else []
def Xz(x:List Rl)(i:Nat):List (List Cd):=((x.take i).map f).flatten
theorem bm(x:List Rl):Xz f x 0=[]:=rfl
theorem QP{f:Rl→List (List Cd)}{x:List Rl}(h:i<x.length):Xz f x (i+1)=Xz f x i++f x[i]:=by
 unfold Xz;rw[D6 h,As,Cn];simp
theorem JF{f:Rl→List (List Cd)}{x:List Rl}(h:i<x.length)(hf:f x[i]=[]):Xz f x (i+1)=Xz f x i:=by rw[QP h,hf,BL]
theorem XA(x:List Rl)(i:Nat):Xz f x x.length=Xz f x i++((x.drop i).map f).flatten:=by
 unfold Xz;rw[Dp,←Cn,←As,Fr]
theorem bN(p:ByteArray)(g:Cd→List α):((BJ x p).map g).flatten=(x.map fun r=>if r.path=p∧r.yanked=false then g ⟨plc r.ver,r⟩else []).flatten:=by
 induction x with
 |nil=>rfl
 |cons r x ih =>
  unfold BJ at ih⊢
  by_cases h:r.path=p∧r.yanked=false
  ·rw[KC (by simp[h.1,h.2]),AJ,AJ,Bm,ih,AJ,Bm,Al h]
  ·rw[KB (by simpa using h),ih,AJ,Bm,Ae h];rfl
theorem cC{x:List Rl}{roots:List Rq}{n:Nat}{dec:List Cd}{n0:Nd}{l:List Nd}(h:(Em roots dec).2=n0::l) :
  CG x roots (n+1) dec=Xz (Mx x roots n dec (n0::l) (Em roots dec).1) x x.length:=by
 unfold CG Xz;rw[h,Dp];exact bN x _ _
theorem TU{α:Type}{f g:α→Bool}:∀{l:List α},(∀a∈l,f a=g a)→l.any f=l.any g
 | [],_=>rfl
 |a::l,h=>by rw[BX,BX,h a (Aa ..),TU fun b hb=>h b (Ah _ hb)]
section
variable {x:List Rl}{roots:List Rq}{dec:List Cd}
theorem U0(hx:AN x=0)(hd:Ef x dec):EU x roots (AD dec)=Eo roots dec:=by
 unfold EU Eo
 congr 2
 rw[BE];refine Bd fun c hc=>?_;have h:=G9 hx (hd.cand c hc).1;show HH x (N1 c)=c.rel.reqs;unfold HH;rw[show N1 c=Fa c.rel from rfl,h]
theorem PP{N:List Nd}(hN:ns roots dec p N)(k:Int):Jh (Eo roots dec) p k=false↔∀n∈N,has n.rq.set k=true:=by
 unfold Jh;rw[De,←Ly];constructor
 ·intro h n hn;obtain⟨h1,h2⟩:=(hN.mem n).1 hn
  have:=h n.rq (Am.2 ⟨n,h1,rfl⟩)
  rw[Aq h2]at this;simpa using this
 ·intro h q hq;obtain⟨n,h1,rfl⟩:=Am.1 hq
  by_cases h2:n.rq.path=p
  ·rw[h n ((hN.mem n).2 ⟨h1,h2⟩)];simp
  ·rw[Ap h2];simp
theorem T7(hx:AN x=0){c:Cd}(hd:Ef x (dec++[c])):MQ c.rel (AD (dec++[c]))=(Dc dec c).isSome:=by
 have se:∀d∈dec++[c],d.place=place d.rel.ver:=fun d h=>by
  have h1:=hd.cand d h;rw[h1.2.2,((Ct hx).1 _ h1.1).plc]
 have hm:∀n:Nd,UW (dec++[c]) n=(AD (dec++[c])).any fun y=>decide (y.path=n.rq.path)&&!has n.rq.set (place y.ver):=fun n=>by
  unfold UW;rw[List.any_map];exact TU fun d h=>by
   show _=(decide (d.rel.path=n.rq.path)&&!has n.rq.set (place d.rel.ver));rw[se d h]
 unfold Dc;rw[List.isSome_find?];unfold MQ QA;have key:∀(l:List Rq) (i:Nat),((Ma (fun q i=>(⟨q,c.rel.path,c.place,i⟩:Nd)) i l).any (UW (dec++[c])))=l.any fun q=>(AD (dec++[c])).any fun y=>decide (y.path=q.path)&&!has q.set (place y.ver):=fun l=>by
  induction l with
  |nil=>intro i;rfl
  |cons q l ih =>
   intro i;unfold Ma;rw[BX,BX,ih,hm]
 exact(key _ _).symm
end
def BT:Prop:=∀(F:List (List Sl)) (m:Nat),F.length<m→m≤1024 →
 A1 Tryz.prog 107 [EZ x ifs,sl AH roots,sl Ac (AD dec),.slice (.id 1000 1) (F.map E8),vi (m:Nat)] (Ak [(1000,.tok 1 F.length)] Af) fun r h' =>
  r=.slice (.id 1000 1) ((tk F (CG x roots n dec) m).map E8)∧h'=Ak [(1000,.tok 1 (tk F (CG x roots n dec) m).length)] Af
def RN(o:List (List Sl))(r:AV)(h' : Nat→HO):Prop:=match o with
 | []=>r=Ce∧h'=Ak [] Af
 |y::ys=>r=.slice (.id 2000 1) ((y::ys).map E8)∧h'=Ak [(2000,.tok 1 (y::ys).length)] Af
def BN:Prop:=∀(m:Nat),0<m→m≤1024 →
 A1 Tryz.prog 107 [EZ x ifs,sl AH roots,sl Ac (AD dec),Ce,vi (m:Nat)] (Ak [] Af) (RN (tk [] (CG x roots n dec) m))
structure yJ(x:List Rl)(ifs:List (List AV))(roots:List Rq)(n:Nat)(dec:List Cd)(p:ByteArray)(n0:Nd)(l:List Nd):Prop where
 hE0:AN x=0
 hx:∀r∈x,Gv r
 hxf:Cy x
 hr:∀q∈roots,J8 q
 hrn:roots.length≤1000
 hdl:dec.length≤1000
 hv:∀r∈x,Cj r.ver=true
 hplc:∀r∈x,plc r.ver=place r.ver
 hrl:∀r∈x,r.reqs.length≤100000
 hneeds:EU x roots (AD dec)=Eo roots dec
 hNx:ns roots dec p (n0::l)
 hDec:∀c∈BJ x p,Ef x (dec++[c])
 hval:∀c∈BJ x p,∀y∈AD (dec++[c]),Cj y.ver=true
 ihT:∀c∈BJ x p,BT x ifs roots n (dec++[c])
 ihN:∀c∈BJ x p,BN x ifs roots n (dec++[c])
theorem Ys{x:List Rl}{roots:List Rq}{n:Nat}{dec:List Cd}{N:List Nd}{r:Rl}(hN:ns roots dec p N)(hp:plc r.ver=place r.ver)(h:Jh (Eo roots dec) p (place r.ver)=true):Mx x roots n dec N p r=[]:=by
 unfold Mx;split
 ·unfold ud;rw[Ae];intro hc;have q:=(PP hN (place r.ver)).2 fun m hm=>by have z:=(I9.1 hc).1 m hm;rw[←hp];exact z
  rw[h]at q;cases q
 ·rfl
theorem lr{x:List Rl}{roots:List Rq}{n:Nat}{dec:List Cd}{N:List Nd}{r:Rl}(h:(Dc dec ⟨plc r.ver,r⟩).isSome=true):Mx x roots n dec N p r=[]:=by
 unfold Mx;split
 ·unfold ud;rw[Ae];intro hc;rw[(I9.1 hc).2]at h;cases h
 ·rfl
theorem NJ{dec:List Cd}{r:Rl}(h:r.path=p):(AD dec).map Ac++[[vs p,vi r.ver.a,vi r.ver.b,vi r.ver.c]]=(AD (dec++[(⟨plc r.ver,r⟩:Cd)])).map Ac:=by
 subst h;unfold AD;rw[As,As];rfl
theorem Yw(o:List α):o=[]∨∃y ys,o=y::ys:=by cases o with | nil=>exact .inl rfl | cons y ys=>exact .inr ⟨y,ys,rfl⟩
theorem Ac6(p:ByteArray)(n0:Nd)(l:List Nd)(m:Nat)(F:List (List Sl))(hF:F.length<m)(hL:yJ x ifs roots n dec p n0 l)(gC:CG x roots (n+1) dec=Xz (Mx x roots n dec (n0::l) p) x x.length)(Rt:m≤1024) :
  A1 Tryz.prog 107 [.agg (Ic x ifs),sl AH roots,sl Ac (AD dec),.slice (.id 1000 1) (F.map E8),vi (m:Nat)] (Ak [(1000,.tok 1 F.length)] Af) (fun r h'=>r=.slice (.id 1000 1) ((tk F (CG x roots (n+1) dec) m).map E8)∧h'=Ak [(1000,.tok 1 (tk F (CG x roots (n+1) dec) m).length)] Af):=by
 obtain⟨hE0,hx,hxf,hr,hrn,hdl,hv,hplc,hrl,hneeds,hNx,hDec,hval,ihT,ihN⟩:=hL;have Ab2:x.length≤1073741824:=hxf;have Rt:m≤1024:=Rt;have L5:=xP x ifs roots (AD dec) hx hxf ch (by rw[Lm];omega);rw[hneeds]at L5;unfold Qt at L5;rw[hNx.next]at L5
 have cf:∀(q:ByteArray) (k:Int),PC 146 [EZ x ifs,sl AH roots,sl Ac (AD dec),vs q,vi k] (vb (Jh (Eo roots dec) q k)):=fun q k=>by
  have:=uz x ifs roots (AD dec) q k hx hxf (fun q hq=>(hr q hq).1) ch (by rw[Lm];omega)
  rw[hneeds]at this;exact this
 refine BW (KV (pC [5,14] [10])) [(1000,1000)] rfl Co hm rfl Tryz.func107 Wk rfl (Nz rfl) Wk rfl (yN (Xi .pure (Xi _ (Yi L5 (Xi {q:Nat×List (List Sl) // q.1≤x.length∧q.2=tk F (Xz (Mx x roots n dec (n0::l) p) x q.1) m} (Xi (fun q=>⟨[(1,sl AH roots),(2,sl Ac (AD dec)),(3,.slice (.id 1000 1) (q.1.2.map E8)),(4,vi (m:Nat)),(5,.ref 5 0),(11,vs p),(13,vi q.1.1)],[(5,.ro (Ic x ifs)),(1000,.tok 1 q.1.2.length)],Af⟩) (Xi (fun q=>x.length-q.1.1) (Yi (Xi ⟨(0,F),AA _,by rw[bm,mI]⟩ ?_) ?_))))))))
 ·exact⟨Z7,Z2,Fh,Bo Wk⟩
 intro⟨⟨i,o⟩,i1,i2⟩;have i1:i≤x.length:=i1;have i2:o=tk F (Xz (Mx x roots n dec (n0::l) p) x i) m:=i2;refine Yi (fun h1=>?_) (fun h1=>?_)
 ·have h1:(i:Int)<((x.map At).length:Int):=h1;have n1:=GI h1;refine Yi (fun h2=>?_) (fun h2=>?_)
  ·have h2:((o.map E8).length:Int)<((m:Nat):Int):=h2;have wd:o.length<m:=by have q:=h2;rw[Lm]at q;omega
   refine Xi (At x[i]) (Yi (Hb n1) (Yi rfl (yN (yN (Yi (fun h4=>?_) (fun h4=>?_))))))
   ·have h4:(x[i].path:ByteArray)≠p:=h4;refine Yi Wk (Yi (Ii i ch) ?_);have Ms:(Mx x roots n dec (n0::l) p) x[i]=[]:=by unfold Mx;rw[Ae (fun h=>h4 h.1)]
    refine Xi ⟨(i+1,o),n1,by rw[i2,JF n1 Ms]⟩ ?_;exact⟨Dl x.length i ch,Z7,Z2,Fh,Bo Wk⟩
   have h4:(x[i].path:ByteArray)=p:=AC h4;refine Yi (fun h6=>?_) (fun h6=>?_)
   ·have h6:x[i].yanked=true:=h6;refine Yi Wk (Yi (Ii i ch) ?_);have Ms:(Mx x roots n dec (n0::l) p) x[i]=[]:=by unfold Mx;rw[Ae (fun h=>by rw[h6]at h;cases h.2)]
    refine Xi ⟨(i+1,o),n1,by rw[i2,JF n1 Ms]⟩ ?_;exact⟨Dl x.length i ch,Z7,Z2,Fh,Bo Wk⟩
   have h6:x[i].yanked=false:=h6;refine yN (yN (Xi _ (Yi (mX x[i].ver (hv _ (Aj n1))) (BF (Bt (Jh (Eo roots dec) p (place x[i].ver))) (fun h8=>?_) (fun h8=>?_)))))
   ·have h8:(Jh (Eo roots dec) p (place x[i].ver))=true:=h8;refine Xi _ (Yi (cb h8 (cf p (place x[i].ver))) (Yi Wk (Yi (Ii i ch) ?_)));have Ms:(Mx x roots n dec (n0::l) p) x[i]=[]:=Ys hNx (hplc _ (Aj n1)) h8;refine Xi ⟨(i+1,o),n1,by rw[i2,JF n1 Ms]⟩ ?_;exact⟨Dl x.length i ch,Z7,Z2,Fh,Bo Wk⟩
   have h8:(Jh (Eo roots dec) p (place x[i].ver))=false:=h8;refine Xi _ (Yi (cb h8 (cf p (place x[i].ver))) (Yi Wk ?_));have YO:Cf 4 ((AD dec).map Ac)∧([]:List (List AV)).length=0∧(([]:List (List AV)).length+((AD dec).map Ac).length)*40≤140737488355328∧([]:List (List AV)).length+((AD dec).map Ac).length≤9223372036854775807:=⟨(DW (enc:=Ac) (n:=4) (fun _=>rfl) (AD dec)),(by first | (simp;done) | (rw[Lm];assumption)),(by simp only[Lm,Ax];omega),(by simp only[Lm,Ax];omega)⟩
   refine Yi YO (yN ?_);have jw:Cf 4 [[vs p,vi x[i].ver.a,vi x[i].ver.b,vi x[i].ver.c]]∧(([]++((AD dec).map Ac)):List (List AV)).length=(([]:List (List AV)).length+((AD dec).map Ac).length)∧((([]++((AD dec).map Ac)):List (List AV)).length+([[vs p,vi x[i].ver.a,vi x[i].ver.b,vi x[i].ver.c]]:List (List AV)).length)*40≤140737488355328∧(([]++((AD dec).map Ac)):List (List AV)).length+([[vs p,vi x[i].ver.a,vi x[i].ver.b,vi x[i].ver.c]]:List (List AV)).length≤9223372036854775807:=⟨⟨rfl,trivial⟩,(by first | (simp;done) | (rw[Lm];assumption)),(by simp only[Lm,Ad,Av,Ax];omega),(by simp only[Lm,Ad,Av,Ax];omega)⟩
   refine Yi jw (Yi Wk ?_);have Td:x[i].path=p:=h4;have ZD:(⟨plc x[i].ver,x[i]⟩:Cd)∈BJ x p:=HA.2 ⟨x[i],Aj n1,Td,h6,rfl⟩;have hD:=hDec (⟨plc x[i].ver,x[i]⟩:Cd) ZD;refine cU [(1,sl AH roots),(2,sl Ac (AD dec)),(3,.slice (.id 1000 1) (o.map E8)),(4,vi (m:Nat)),(5,.ref 5 0),(11,vs p),(13,vi i),(15,.slice (.id 66 4) ((AD (dec++[(⟨plc x[i].ver,x[i]⟩:Cd)])).map Ac))] [(5,.ro (Ic x ifs)),(66,.tok 4 ((AD (dec++[(⟨plc x[i].ver,x[i]⟩:Cd)])).map Ac).length),(1000,.tok 1 o.length)] ⟨Zr,Zr,Zr,Zr,Zr,Zr,Zr,⟨(show(.slice (.id 66 4) (([]++((AD dec).map Ac))++[[vs p,vi x[i].ver.a,vi x[i].ver.b,vi x[i].ver.c]]):AV)=.slice (.id 66 4) ((AD (dec++[(⟨plc x[i].ver,x[i]⟩:Cd)])).map Ac)from Ab (AV.slice (.id 66 4)) (NJ Td)),rfl⟩,Tv⟩ ⟨Zr,⟨(show(.tok 4 ((([]++((AD dec).map Ac)):List (List AV)).length+([[vs p,vi x[i].ver.a,vi x[i].ver.b,vi x[i].ver.c]]:List (List AV)).length):HO)=.tok 4 ((AD (dec++[(⟨plc x[i].ver,x[i]⟩:Cd)])).map Ac).length by rw[←NJ (dec:=dec) Td];simp),rfl⟩,Zr,Tv⟩ ?_
   refine yN ?_;have UA:=s77 x ifs (AD (dec++[(⟨plc x[i].ver,x[i]⟩:Cd)])) (AD dec) (N1 (⟨plc x[i].ver,x[i]⟩:Cd)) x[i] hx hxf (by rw[Lm,Ad,AG];omega) (by unfold AD;rw[As];rfl) (G9 hE0 (Aj n1)) (fun y hy=>hval (⟨plc x[i].ver,x[i]⟩:Cd) ZD y hy) (fun q hq=>((hx _ (Aj n1)).2 q hq).1) (hrl _ (Aj n1));have hcl:MQ x[i] (AD (dec++[(⟨plc x[i].ver,x[i]⟩:Cd)]))=(Dc dec (⟨plc x[i].ver,x[i]⟩:Cd)).isSome:=T7 hE0 hD;rw[hcl]at UA;refine BF (Bt (Dc dec (⟨plc x[i].ver,x[i]⟩:Cd)).isSome) (fun L3=>?_) (fun L3=>?_)
   ·have L3:(Dc dec (⟨plc x[i].ver,x[i]⟩:Cd)).isSome=true:=L3;refine Xi .pure (Xi _ (Yi (cb L3 UA) (Yi (Ii i ch) ?_)));have Ms:(Mx x roots n dec (n0::l) p) x[i]=[]:=lr L3;refine Xi ⟨(i+1,o),n1,by rw[i2,JF n1 Ms]⟩ ?_;exact⟨Dl x.length i ch,Z7,Z2,Fh,Bo Wk⟩
   have L3:(Dc dec (⟨plc x[i].ver,x[i]⟩:Cd)).isSome=false:=L3;refine Xi .pure (Xi _ (Yi (cb L3 UA) (yN ?_)));have Gs:aK dec (n0::l) (⟨plc x[i].ver,x[i]⟩:Cd)=true:=I9.2 ⟨fun m hm=>by have q:=(PP hNx (place x[i].ver)).1 h8 m hm;rw[←hplc _ (Aj n1)]at q;exact q,by have q:=L3;simpa using q⟩;have Ms:(Mx x roots n dec (n0::l) p) x[i]=(CG x roots n (dec++[(⟨plc x[i].ver,x[i]⟩:Cd)])):=by unfold Mx ud;rw[Al ⟨Td,h6⟩,Al Gs]
   have YR:=ihT (⟨plc x[i].ver,x[i]⟩:Cd) ZD o m wd Rt;refine Xi (.gen [(1000,1000)] 0) (Yi rfl (A1.imp YR ?_));intro v14 g14 wO;have sW:=wO.1;have sX:=wO.2;subst sW;subst sX;refine Yi (Ii i ch) (Xi ⟨(i+1,(tk o (CG x roots n (dec++[(⟨plc x[i].ver,x[i]⟩:Cd)])) m)),n1,by rw[QP n1,Ms,dp (by rw[←i2];exact wd),←i2]⟩ ?_);exact⟨Dl x.length i ch,Z7,Z2,Fh,Bo Wk⟩
  have h2:¬(((o.map E8).length:Int)<((m:Nat):Int)):=h2;have eo:o=tk F (CG x roots (n+1) dec) m:=by
   rw[i2,gC,XA _ x i,fg (by rw[←i2];have q:=h2;rw[Lm]at q;omega) ch]
  rw[←eo];exact Xi _ (Yi (.refl _) Zr)
 have h1:¬((i:Int)<((x.map At).length:Int)):=h1;have n1:=GH h1;have eo:o=tk F (CG x roots (n+1) dec) m:=by
  rw[i2,gC,show i=x.length by have q:=h1;rw[Lm]at q;omega]
 rw[←eo];exact Xi _ (Yi (.refl _) Zr)
end Go.Eng
