/- Lemmas 32. -/
import Derived.Test.YteaiieomnhbmgaaGreatDoorBA31
set_option maxHeartbeats 4000000
namespace Go.Eng
open Go.Proofs Go.Proofs.Tryz
variable {p:CS}{v:Ver}{i:Nat}(A x sx:List Rl)(ifs:C0)(a:Ad)(l:List Ad)(rq:List Rq)(k:Nat)
theorem WR{a b:Rl}:0<BU a b↔BU b a<0:=by
 constructor
 .intro h;exact ME.2 (sD (a:=a) (b:=b) ch fun e=>by rw[T0 e.symm]at h;omega)
 .intro h;have h1:=sC (ME.1 h);have h2:BU a b≠0:=fun e=>Hi (ME.1 h) (QJ e).symm;omega
theorem Zn:∀(n:Nat) (A:List Rl) (a:Rl) (B:List Rl) (p:Nat),A.length=n->p<=n->(∀j (hj:j<A.length),p<=j->0<BU A[j] a)->(p=0\/∃h:p-1<A.length,¬0<BU A[p-1] a)->Jh BU n (A++a::B)=A.take p++(a::A.drop p)++B
 |0,A,a,B,p,hn,hp,_,_=>by
  rw[Fm.1 hn,show p=0 by omega];rfl
 |n+1,A,a,B,p,hn,hp,h1,h2=>by
  obtain⟨A',z,rfl⟩:∃A' z,A=A'++[z]:=⟨A.dropLast,A.getLast (fun e=>by rw[e]at hn;cases hn),(List.dropLast_concat_getLast _).symm⟩;have hl:A'.length=n:=by simpa using hn
  have eL:(A'++[z])++a::B=A'++z::a::B:=by simp
  have g1:(A'++z::a::B)[n+1]?=some a:=by rw[<-hl];simp
  have g2:(A'++z::a::B)[n+1-1]?=some z:=by rw[<-hl];simp
  have gz:(A'++[z])[n]'(by simp[hl])=z:=by simp[<-hl]
  rw[eL]
  by_cases e:p=n+1
  .subst e;have hc:¬BU a z<0:=by
    rcases h2 with h2 | ⟨h,h2⟩
    .omega
    .intro c;apply h2
     have:(A'++[z])[n+1-1]=z:=gz
     rw[this];exact WR.2 c
   rw[OO BU (Nat.succ_pos _) g1 g2 hc,Au (by rw[hn];exact Ap _),Bq (by rw[hn];exact Ap _)];simp
  .have qH : p<=n:=by omega
   have hc:BU a z<0:=WR.1 (by have q:=h1 n (by rw[hn];omega) qH;rw[gz]at q;exact q);have es:((A'++z::a::B).set (n+1) z).set (n+1-1) a=A'++a::z::B:=by rw[<-hl];simp
   rw[VA BU (Nat.succ_pos _) g1 g2 hc,es,show n.succ-1=n from rfl,Zn n A' a (z::B) p hl qH (fun j hj hpj=>by
    have q:=h1 j (by rw[hn];omega) hpj
    rwa [List.getElem_append_left hj]at q) (by
    rcases h2 with h2 | ⟨h,h2⟩
    .exact .inl h2
    .by_cases h0:p=0
     .exact .inl h0
     .refine .inr ⟨by omega,?_⟩
      rwa [List.getElem_append_left ch]at h2)]
   rw[Mw ch,List.drop_append_of_le_length ch];simp
abbrev Rs:C0:=((A.map Ah).take (((A.map Ah).length:Nat):Int).toNat).drop ((k:Nat):Int).toNat
theorem Zk:Rs A k=(A.drop k).map Ah:=by
 unfold Rs;rw[Dq,Dq,Au (Ap _),List.map_drop]
abbrev qA:C0:=((A.map Ah).take ((k:Nat):Int).toNat).drop ((0:Int)).toNat
theorem nA:qA A k=(A.take k).map Ah:=by
 unfold qA;rw[Dq,show(0:Int).toNat=0 from rfl,List.drop_zero,Mr]
theorem l8(x:Rl)(k:Nat)(h:A.length<=1073741):Bi 9 (Rs A k)/\[Ah x].length=1/\([Ah x].length+(Rs A k).length)*120<=140737488355328/\[Ah x].length+(Rs A k).length<=9223372036854775807:=by
 rw[Zk];refine⟨GI (LD (enc:=Ah) (n:=9) (fun _=>rfl) _),rfl,?_,?_⟩<;>rw[Lm,DE,DJ]<;>omega
theorem ma(x:Rl)(k:Nat)(h:A.length<=1073741)(hk:k<=A.length):Bi 9 ([Ah x]++Rs A k)/\(qA A k).length=((k:Nat):Int).toNat-((0:Int)).toNat/\((qA A k).length+([Ah x]++Rs A k).length)*120<=140737488355328/\(qA A k).length+([Ah x]++Rs A k).length<=9223372036854775807:=by
 rw[Zk,nA];refine⟨⟨rfl,GI (LD (enc:=Ah) (n:=9) (fun _=>rfl) _)⟩,by rw[Lm,AD,Dq,show(0:Int).toNat=0 from rfl];omega,?_,?_⟩
 .rw[Ak,Lm,Lm,AD,DE,DJ];omega
 .rw[Ak,Lm,Lm,AD,DE,DJ];omega
theorem uU(x:Rl)(k:Nat):qA A k++([Ah x]++Rs A k)=(A.take k++([x]++A.drop k)).map Ah:=by
 rw[Zk,nA,AF,AF];rfl
theorem yy(hx:∀r∈x,CT r)(hl:x.length<=1000000):PC 123 [sl Ah x] (.tup [sl Ah (GZ x),vi (AC (Dp BU x.length x))]):=by
 refine Ps (pT [] [(4,0)] [4,8,9]) func123 rfl (Nz rfl) (Xi {q:Nat×List Rl // q.1<=x.length/\q.2.length=q.1/\Dp BU q.1 x=q.2++x.drop q.1} (Xi (fun q=>⟨[(0,sl Ah x),(4,sl Ah q.1.2),(5,vi q.1.1)],[],Ac⟩) (Xi (fun q=>x.length-q.1.1) (Yi (Xi ⟨(0,[]),Al _,rfl,rfl⟩ ?_) ?_))))
 .exact⟨Z3,Tv,Fh,Tv⟩
 intro⟨⟨i,A⟩,i1,i2,i3⟩;have i1:i<=x.length:=i1;have i2:A.length=i:=i2;have i3:Dp BU i x=A++x.drop i:=i3;refine Yi (fun h1=>?_) (fun h1=>?_)
 .have h1:(i:Int)<((x.map Ah).length:Int):=h1;have n1:=DK h1;refine Xi {q:Nat // q<=A.length/\∀j (hj:j<A.length),q<=j->0<BU A[j] x[i]} (Xi (fun q=>⟨[(0,sl Ah x),(4,sl Ah A),(5,vi i),(6,vi q.1)],[],Ac⟩) (Xi (fun q=>q.1) (Yi (Xi ⟨A.length,Ap _,fun j hj h=>absurd hj ch⟩ ?_) ?_)))
  .exact⟨⟨Zr,Zr,Zr,⟨(show vi ((A.map Ah).length:Nat)=vi (A.length:Nat) by rw[Lm]),rfl⟩,Tv⟩,Tv,Fh,Tv⟩
  intro⟨k,k1,k2⟩;have k1:k<=A.length:=k1;have k2:∀j (hj:j<A.length),k<=j->0<BU A[j] x[i]:=k2;refine Yi (fun h2=>?_) (fun h2=>?_)
  .have h2:(0:Int)<(k:Int):=h2;refine Yi (by show Av ((k:Int)-(1:Int));unfold Av;omega) (Xi (Ah (A[k-1]' ch)) (Yi (Yi (show(0:Int)<=(k:Int)-1 by omega) (by rw[show((k:Int)-1).toNat=k-1 by omega];exact Ed (Ge ch))) (Yi rfl ?_)));refine yN (Xi (Ah x[i]) (Yi (FJ n1) (Yi rfl (yN (C2 (zx (A[k-1]' ch) x[i]) (Yi (fun h3=>?_) (fun h3=>?_)))))))
   .have h3:(0:Int)<((BU (A[k-1]' ch) x[i]):Int):=h3;refine Yi Wk (Yi (by show Av ((k:Int)-(1:Int));unfold Av;omega) ?_);refine Xi ⟨k-1,by omega,fun j hj hkj=>by
      rcases B2 j k with e | e
      .have e:j=k-1:=by omega
       subst e;exact h3
      .exact k2 j hj e⟩ ?_
    exact⟨by show k-1<k;omega,⟨Zr,Zr,Zr,⟨(Aa vi (show(k:Int)-1=((k-1:Nat):Int) by omega)),rfl⟩,Tv⟩,Tv,Fh,Tv⟩
   have h3:¬((0:Int)<((BU (A[k-1]' ch) x[i]):Int)):=h3;refine Yi Wk (cU [(0,sl Ah x),(4,sl Ah A),(5,vi i),(6,vi k)] [] Z4 Tv ?_)
   have wO:Dp BU (i+1) x=(A.take k++([x[i]]++A.drop k))++x.drop (i+1):=by rw[Jy,i3,A2 n1,Zn i A x[i] _ k i2 ch k2 (.inr ⟨by omega,fun q=>h3 q⟩)];rfl
   refine Yi (show(0:Int)<=0/\(0:Int)<=k/\(k:Int)=k/\(k:Int)<=((A.map Ah).length:Nat) by rw[Lm];omega) (Yi (LD (enc:=Ah) (n:=9) (fun _=>rfl) A) (Xi (Ah x[i]) (Yi (FJ n1) (Yi rfl (yN (Yi (show(0:Int)<=k/\(k:Int)<=((A.map Ah).length:Nat)/\(((A.map Ah).length:Nat):Int)<=((A.map Ah).length:Nat) by rw[Lm];omega) (Yi (LD (enc:=Ah) (n:=9) (fun _=>rfl) A) ?_)))))));refine Yi (l8 A x[i] k ch) (Yi (ma A x[i] k ch k1) (Yi Wk (cU [(0,sl Ah x),(4,.slice .none (qA A k++([Ah x[i]]++Rs A k))),(5,vi i)] [] Z3 Tv (Yi (Ii i ch) (Xi ⟨(i+1,(A.take k++([x[i]]++A.drop k))),n1,by simp only[Ak,AD,DE,DJ];omega,wO⟩ ?_)))));exact⟨Dl x.length i ch,⟨Zr,⟨(show AV.slice .none (qA A k++([Ah x[i]]++Rs A k))=sl Ah (A.take k++([x[i]]++A.drop k)) by rw[uU]),rfl⟩,Zr,Tv⟩,Tv,Fh,Tv⟩
  have h2:¬((0:Int)<(k:Int)):=h2;refine Yi Wk (cU [(0,sl Ah x),(4,sl Ah A),(5,vi i),(6,vi k)] [] Z4 Tv ?_)
  have wO:Dp BU (i+1) x=(A.take k++([x[i]]++A.drop k))++x.drop (i+1):=by rw[Jy,i3,A2 n1,Zn i A x[i] _ k i2 ch k2 (.inl (by have q:=h2;omega))];rfl
  refine Yi (show(0:Int)<=0/\(0:Int)<=k/\(k:Int)=k/\(k:Int)<=((A.map Ah).length:Nat) by rw[Lm];omega) (Yi (LD (enc:=Ah) (n:=9) (fun _=>rfl) A) (Xi (Ah x[i]) (Yi (FJ n1) (Yi rfl (yN (Yi (show(0:Int)<=k/\(k:Int)<=((A.map Ah).length:Nat)/\(((A.map Ah).length:Nat):Int)<=((A.map Ah).length:Nat) by rw[Lm];omega) (Yi (LD (enc:=Ah) (n:=9) (fun _=>rfl) A) ?_)))))));refine Yi (l8 A x[i] k ch) (Yi (ma A x[i] k ch k1) (Yi Wk (cU [(0,sl Ah x),(4,.slice .none (qA A k++([Ah x[i]]++Rs A k))),(5,vi i)] [] Z3 Tv (Yi (Ii i ch) (Xi ⟨(i+1,(A.take k++([x[i]]++A.drop k))),n1,by simp only[Ak,AD,DE,DJ];omega,wO⟩ ?_)))));exact⟨Dl x.length i ch,⟨Zr,⟨(show AV.slice .none (qA A k++([Ah x[i]]++Rs A k))=sl Ah (A.take k++([x[i]]++A.drop k)) by rw[uU]),rfl⟩,Zr,Tv⟩,Tv,Fh,Tv⟩
 have h1:¬((i:Int)<((x.map Ah).length:Int)):=h1;have n1:=B5 h1;have hAf:∀r∈A,CT r:=fun r hr=>hx r (La BU i x r (by rw[i3];exact Cv _ hr));refine cU [(4,sl Ah A)] [] Z1 Tv (C1 (C2 ((yH A [] hAf).args (args':=[.agg [sl Ah A,BE]]) ⟨.agg ⟨.refl _,.nil,trivial⟩,trivial⟩) (Yi (fun h7=>?_) (fun h7=>?_))))
 .have h7:((AC A):Int)≠(0:Int):=h7;have ei:i=x.length:=by have q:=B5 h1;omega
  have hA:Dp BU x.length x=A:=by rw[<-ei,i3,Bq ch,BG]
  exact BM.trans (show BM _ (.tup [sl Ah [],vi (AC A)])from BM.tup (show Il [BE,vi (AC A)] [sl Ah [],vi (AC A)]from⟨BM.nil,BM.refl _,trivial⟩)) (BM.of_eq (by rw[GZ,hA,Az h7]))
 have h7:((AC A):Int)=(0:Int):=Aq h7;have ei:i=x.length:=by have q:=B5 h1;omega
 have hA:Dp BU x.length x=A:=by rw[<-ei,i3,Bq ch,BG]
 exact BM.of_eq (show AV.tup [sl Ah A,vi 0]=_ by rw[GZ,hA,Ay h7,h7])
theorem ui(hx:BJ x)(hxf:∀r∈x,CT r)(hl:BJ l)(SI:∀a∈l,FL a)(lA:BJ ifs)(uL:∀c∈ifs,c.length=5)(c0:AC x=0)(c1:Gj l=0):PC 69 [Fr x ifs,sl AM l] (.tup [Fr (yk true (IT l) x) ifs,vi 0]):=by
 have hx:x.length<=1073741824:=hx;have lA:ifs.length<=1073741824:=lA;refine Ps ⟨[2],[],[],[],[],[],[],[(8,(7,0,61,9))],[],[],[4,7,9,11]⟩ func69 rfl (Nz rfl) (yN (C1 (C2 (by have q:=yH x ifs hxf;rw[c0]at q;exact q) ?_)));refine Yi (fun h=>absurd h Cl) (fun _=>?_);refine C1 (C2 (by have q:=iK l hl SI;rw[c1]at q;exact q) ?_);refine cU [(1,sl AM l),(2,.ref 2 0),(4,.ref 4 0),(6,vi 0)] [(2,.ro (Ic x ifs)),(4,.cells [BE,BE])] Z4 Z2 (Yi (fun h=>absurd h Cl) (fun _=>?_));have b1:Bi 5 ifs/\([]:C0).length=0/\(([]:C0).length+(ifs:C0).length)*112<=140737488355328/\([]:C0).length+(ifs:C0).length<=9223372036854775807:=⟨(GI uL),(by first | (simp;done) | (rw[Lm];assumption)),(by simp only[AE];omega),(by simp only[AE];omega)⟩
 refine Yi b1 (yN (cU [(1,sl AM l),(2,.ref 2 0),(4,.ref 4 0),(7,.ref 7 0)] [(2,.ro (Ic x ifs)),(4,.cells [BE,BE]),(7,.cells [BE,.slice (.id 20 5) ([]++ifs)]),(20,.tok 5 (([]:C0).length+(ifs:C0).length))] Z4 Z4 (Xi {q:Nat // q<=x.length} (Xi (fun q=>⟨[(1,sl AM l),(2,.ref 2 0),(4,.ref 4 0),(7,.ref 7 0),(8,vi q.1)],[(2,.ro (Ic x ifs)),(4,.cells [BE,BE]),(7,.cells [.slice (.id 61 9) ((yk true (IT l) (x.take q.1)).map Ah),.slice (.id 20 5) ([]++ifs)]),(20,.tok 5 (([]:C0).length+(ifs:C0).length)),(61,.tok 9 (yk true (IT l) (x.take q.1)).length)],Ac⟩) (Xi (fun q=>x.length-q.1) (Yi (Xi ⟨0,Al _⟩ ?_) ?_))))))
 .exact⟨Z5,Z5,Fh,Tv⟩
 intro⟨i,i1⟩;have i1:i<=x.length:=i1;have i2:(yk true (IT l) (x.take i)).length<=i:=by rw[RH,AD];omega
 refine Yi (fun h2=>?_) (fun h2=>?_)
 .have h2:(i:Int)<((x.map Ah).length:Int):=h2;have n2:=DK h2;refine Xi (Ah x[i]) (Yi (FJ n2) (Yi rfl (yN (yN (cU [(1,sl AM l),(2,.ref 2 0),(4,.ref 4 0),(7,.ref 7 0),(8,vi i),(9,.ref 9 0)] [(2,.ro (Ic x ifs)),(4,.cells [BE,BE]),(7,.cells [.slice (.id 61 9) ((yk true (IT l) (x.take i)).map Ah),.slice (.id 20 5) ([]++ifs)]),(9,.cells (Ah x[i])),(20,.tok 5 (([]:C0).length+(ifs:C0).length)),(61,.tok 9 (yk true (IT l) (x.take i)).length)] Z6 Z6 (Yi (fun h3=>?_) (fun h3=>?_)))))))
  .have h3:x[i].yanked=true:=h3;refine yN (yN (Yi (cI rfl ch Cl) (yN (cU [(1,sl AM l),(2,.ref 2 0),(4,.ref 4 0),(7,.ref 7 0),(8,vi i)] [(2,.ro (Ic x ifs)),(4,.cells [BE,BE]),(7,.cells [.slice (.id 61 9) (((yk true (IT l) (x.take i)).map Ah)++[[vs x[i].path,vi x[i].ver.a,vi x[i].ver.b,vi x[i].ver.c,sl As x[i].reqs,vs x[i].arch,vs x[i].ifc,vs x[i].cert,vb true]]),.slice (.id 20 5) ([]++ifs)]),(20,.tok 5 (([]:C0).length+(ifs:C0).length)),(61,.tok 9 (((yk true (IT l) (x.take i)).map Ah).length+([[vs x[i].path,vi x[i].ver.a,vi x[i].ver.b,vi x[i].ver.c,sl As x[i].reqs,vs x[i].arch,vs x[i].ifc,vs x[i].cert,vb true]]:C0).length))] Z5 Z5 (Yi (Ii i ch) ?_)))));have ny:yb true (IT l) x[i]=true:=by unfold yb;rw[h3];split<;>rfl
   refine Xi ⟨i+1,n2⟩ ?_;exact⟨Dl x.length i ch,Z5,⟨Zr,Zr,⟨(show HO.cells [AV.slice (.id 61 9) ((yk true (IT l) (x.take i)).map Ah++[[vs x[i].path,vi x[i].ver.a,vi x[i].ver.b,vi x[i].ver.c,sl As x[i].reqs,vs x[i].arch,vs x[i].ifc,vs x[i].cert,vb true]]),AV.slice (.id 20 5) (([]:C0)++ifs)]=.cells [.slice (.id 61 9) ((yk true (IT l) (x.take (i+1))).map Ah),.slice (.id 20 5) (([]:C0)++ifs)] by rw[NK n2,AF,ny];rfl),rfl⟩,Zr,⟨(show HO.tok 9 (((yk true (IT l) (x.take i)).map Ah).length+([[vs x[i].path,vi x[i].ver.a,vi x[i].ver.b,vi x[i].ver.c,sl As x[i].reqs,vs x[i].arch,vs x[i].ifc,vs x[i].cert,vb true]]:C0).length)=.tok 9 (yk true (IT l) (x.take (i+1))).length by rw[NK n2,Ak,Lm];rfl),rfl⟩,Tv⟩,Fh,Tv⟩
  have h3:x[i].yanked=false:=h3;refine yN (AN (Bt (IT l (OY x[i]))) (fun h6=>?_) (fun h6=>?_))
  .have h6:(IT l (OY x[i]))=true:=h6;refine C1 (C2 (cb h6 (iL x[i] l hl SI (po ((Hp.1 c0).2.1 _ (Ae n2))).2.1)) (yN (yN (Yi (cI rfl ch Cl) (yN (cU [(1,sl AM l),(2,.ref 2 0),(4,.ref 4 0),(7,.ref 7 0),(8,vi i)] [(2,.ro (Ic x ifs)),(4,.cells [BE,BE]),(7,.cells [.slice (.id 61 9) (((yk true (IT l) (x.take i)).map Ah)++[[vs x[i].path,vi x[i].ver.a,vi x[i].ver.b,vi x[i].ver.c,sl As x[i].reqs,vs x[i].arch,vs x[i].ifc,vs x[i].cert,vb true]]),.slice (.id 20 5) ([]++ifs)]),(20,.tok 5 (([]:C0).length+(ifs:C0).length)),(61,.tok 9 (((yk true (IT l) (x.take i)).map Ah).length+([[vs x[i].path,vi x[i].ver.a,vi x[i].ver.b,vi x[i].ver.c,sl As x[i].reqs,vs x[i].arch,vs x[i].ifc,vs x[i].cert,vb true]]:C0).length))] Z5 Z5 (Yi (Ii i ch) ?_)))))));have ny:yb true (IT l) x[i]=true:=by unfold yb;rw[Ay h6]
   refine Xi ⟨i+1,n2⟩ ?_;exact⟨Dl x.length i ch,Z5,⟨Zr,Zr,⟨(show HO.cells [AV.slice (.id 61 9) ((yk true (IT l) (x.take i)).map Ah++[[vs x[i].path,vi x[i].ver.a,vi x[i].ver.b,vi x[i].ver.c,sl As x[i].reqs,vs x[i].arch,vs x[i].ifc,vs x[i].cert,vb true]]),AV.slice (.id 20 5) (([]:C0)++ifs)]=.cells [.slice (.id 61 9) ((yk true (IT l) (x.take (i+1))).map Ah),.slice (.id 20 5) (([]:C0)++ifs)] by rw[NK n2,AF,ny];rfl),rfl⟩,Zr,⟨(show HO.tok 9 (((yk true (IT l) (x.take i)).map Ah).length+([[vs x[i].path,vi x[i].ver.a,vi x[i].ver.b,vi x[i].ver.c,sl As x[i].reqs,vs x[i].arch,vs x[i].ifc,vs x[i].cert,vb true]]:C0).length)=.tok 9 (yk true (IT l) (x.take (i+1))).length by rw[NK n2,Ak,Lm];rfl),rfl⟩,Tv⟩,Fh,Tv⟩
  have h6:(IT l (OY x[i]))=false:=h6;refine C1 (C2 (cb h6 (iL x[i] l hl SI (po ((Hp.1 c0).2.1 _ (Ae n2))).2.1)) (yN (yN (Yi (cI rfl ch Cl) (yN (cU [(1,sl AM l),(2,.ref 2 0),(4,.ref 4 0),(7,.ref 7 0),(8,vi i)] [(2,.ro (Ic x ifs)),(4,.cells [BE,BE]),(7,.cells [.slice (.id 61 9) (((yk true (IT l) (x.take i)).map Ah)++[[vs x[i].path,vi x[i].ver.a,vi x[i].ver.b,vi x[i].ver.c,sl As x[i].reqs,vs x[i].arch,vs x[i].ifc,vs x[i].cert,vb false]]),.slice (.id 20 5) ([]++ifs)]),(20,.tok 5 (([]:C0).length+(ifs:C0).length)),(61,.tok 9 (((yk true (IT l) (x.take i)).map Ah).length+([[vs x[i].path,vi x[i].ver.a,vi x[i].ver.b,vi x[i].ver.c,sl As x[i].reqs,vs x[i].arch,vs x[i].ifc,vs x[i].cert,vb false]]:C0).length))] Z5 Z5 (Yi (Ii i ch) ?_)))))));have ny:yb true (IT l) x[i]=false:=by unfold yb;rw[Az (by rw[h6];exact B7),h3]
  refine Xi ⟨i+1,n2⟩ ?_;exact⟨Dl x.length i ch,Z5,⟨Zr,Zr,⟨(show HO.cells [AV.slice (.id 61 9) ((yk true (IT l) (x.take i)).map Ah++[[vs x[i].path,vi x[i].ver.a,vi x[i].ver.b,vi x[i].ver.c,sl As x[i].reqs,vs x[i].arch,vs x[i].ifc,vs x[i].cert,vb false]]),AV.slice (.id 20 5) (([]:C0)++ifs)]=.cells [.slice (.id 61 9) ((yk true (IT l) (x.take (i+1))).map Ah),.slice (.id 20 5) (([]:C0)++ifs)] by rw[NK n2,AF,ny];rfl),rfl⟩,Zr,⟨(show HO.tok 9 (((yk true (IT l) (x.take i)).map Ah).length+([[vs x[i].path,vi x[i].ver.a,vi x[i].ver.b,vi x[i].ver.c,sl As x[i].reqs,vs x[i].arch,vs x[i].ifc,vs x[i].cert,vb false]]:C0).length)=.tok 9 (yk true (IT l) (x.take (i+1))).length by rw[NK n2,Ak,Lm];rfl),rfl⟩,Tv⟩,Fh,Tv⟩
 have h2:¬((i:Int)<((x.map Ah).length:Int)):=h2;have n2:=B5 h2;refine yN (yN (yN ?_));have ei:x.take i=x:=Au (by have q:=B5 h2;omega);exact BM.of_eq (show AV.tup [.agg [sl Ah (yk true (IT l) (x.take i)),.slice .none (([]:C0)++ifs)],vi 0]=.tup [Fr (yk true (IT l) x) ifs,vi 0] by rw[ei];rfl)
theorem uh(hxf:∀r∈x,CT r)(c0:¬AC x=0):PC 69 [Fr x ifs,sl AM l] (.tup [.agg [BE,BE],vi 1]):=by
 refine Ps (pC [2] []) func69 rfl (Nz rfl) (yN (C1 (C2 (yH x ifs hxf) (Yi (fun h1=>?_) (fun h1=>?_)))))
 .have h1:((AC x):Int)≠(0:Int):=h1;refine yN (yN ?_);exact .refl _
 have h1:((AC x):Int)=(0:Int):=Aq h1;exact absurd h1 c0
theorem ug(hxf:∀r∈x,CT r)(hl:BJ l)(SI:∀a∈l,FL a)(c0:AC x=0)(c1:¬Gj l=0):PC 69 [Fr x ifs,sl AM l] (.tup [.agg [BE,BE],vi (Gj l)]):=by
 refine Ps (pC [2] []) func69 rfl (Nz rfl) (yN (C1 (C2 (by have q:=yH x ifs hxf;rw[c0]at q;exact q) ?_)));refine Yi (fun h=>absurd h Cl) (fun _=>?_);refine C1 (C2 (iK l hl SI) (Yi (fun h1=>?_) (fun h1=>?_)))
 .have h1:((Gj l):Int)≠(0:Int):=h1;refine yN (yN ?_);exact .refl _
 have h1:((Gj l):Int)=(0:Int):=Aq h1;exact absurd h1 c1
theorem yx(hx:BJ x)(hxf:∀r∈x,CT r)(hl:BJ l)(SI:∀a∈l,FL a)(lA:BJ ifs)(uL:∀c∈ifs,c.length=5):PC 69 [Fr x ifs,sl AM l] (pG x ifs l):=by
 unfold pG NH
 by_cases c0:AC x=0
 .rw[Ay c0]
  by_cases c1:Gj l=0
  .rw[Ay c1];exact ui x ifs l hx hxf hl SI lA uL c0 c1
  .rw[Az c1];exact ug x ifs l hxf hl SI c0 c1
 .rw[Az c0,Az Cl];exact uh x ifs l hxf c0
theorem vw(s:List Sl)(p:CS)(R:Rl)(k:Nat)(hx:BJ x)(hxf:∀r∈x,CT r)(hs:BJ s)(hk:k<s.length)(hp:s[k].path=p)(hb:∀j (h:j<k),¬s[j].path=p)(hr:BQ x ⟨s[k].path,s[k].ver⟩=some R):PC 121 [Fr x ifs,sl Ab s,vs p] (.agg (Ah R)):=by
 have hs:s.length<=1073741824:=hs;refine Ps (pC [3] []) func121 rfl (Nz rfl) (Xi {q:Nat // q<=k} (Xi (fun q=>⟨[(1,sl Ab s),(2,vs p),(3,.ref 3 0),(6,.ref 6 0),(7,vi q.1)],[(3,.ro (Ic x ifs)),(6,.cells [vs ⟨#[]⟩,vi 0,vi 0,vi 0,BE,vs ⟨#[]⟩,vs ⟨#[]⟩,vs ⟨#[]⟩,vb false])],Ac⟩) (Xi (fun q=>s.length-q.1) (Yi (Xi ⟨0,Al _⟩ ?_) ?_))))
 .exact⟨Z5,Z2,Fh,Tv⟩
 intro⟨i,i1⟩;have i1:i<=k:=i1;refine Yi (fun h1=>?_) (fun h1=>?_)
 .have h1:(i:Int)<((s.map Ab).length:Int):=h1;have n1:=DK h1;refine Xi (Ab s[i]) (Yi (FJ n1) (Yi rfl (Yi (fun h2=>?_) (fun h2=>?_))))
  .have h2:(s[i].path:CS)=p:=h2;refine yN (Xi (Ab s[i]) (Yi (FJ n1) (Yi rfl (yN (C2 (show PC 163 [Fr x ifs,vs p,.agg (CC s[i].ver)] (N5 (some R)) by have q:=c83 x ifs p s[i].ver hxf hx;rw[show BQ x ⟨p,s[i].ver⟩=some R by rcases B2 i k with e | e;exact absurd h2 (hb i e);have e:i=k:=ch;subst e;rw[<-hp];exact hr]at q;exact q) (yN (Yi Wk (yN (yN (yN ?_))))))))));exact .refl _
  have h2:¬(s[i].path:CS)=p:=h2;refine Yi (Ii i ch) (Xi ⟨i+1,(by rcases B2 i k with e | e;exact e;have e:i=k:=ch;subst e;exact absurd hp h2)⟩ ?_);exact⟨Dl s.length i ch,Z5,Z2,Fh,Tv⟩
 have h1:¬((i:Int)<((s.map Ab).length:Int)):=h1;have n1:=B5 h1;exact absurd hk (by have q:=B5 h1;omega)
abbrev zBk:List AV:=[vi 0,vi 0,vi 0,vi 0,vb false]
theorem bR{x:List Rl}(h:i<x.length):Xx (x.take (i+1)) p=Xx (x.take i) p++if x[i].path=p then [x[i]]else []:=by
 show List.filter (fun r:Rl=>decide (r.path=p)) _=List.filter (fun r:Rl=>decide (r.path=p)) _++_;rw[By h,List.filter_append]
 by_cases c:x[i].path=p
 .rw[Ay c];congr 1;simp[c]
 .rw[Az c];congr 1;simp[c]
def mG(p:CS)(v:Ver)(i:Nat):Int:=(IE (Xx (x.take i) p)).foldl (cN v.b) v.c
theorem uZ{x:List Rl}(h:i<x.length)(c:¬x[i].path=p):mG x p v (i+1)=mG x p v i:=by
 rw[mG,bR h,Az c,BG];rfl
theorem Y1{x:List Rl}(h:i<x.length)(c:x[i].path=p):mG x p v (i+1)=cN v.b (mG x p v i) x[i].ver:=by
 rw[mG,bR h,Ay c,IE,AF,RJ];rfl
theorem UU{x:List Rl}{a:Ad}(h:x.length<=i):mG x a.path v i=Xt x a v:=by rw[mG,Au h];rfl
theorem oo{x:List Rl}(hx:AC x=0)(hv:0<=v.c/\v.c<=999)(i:Nat):0<=mG x p v i/\mG x p v i<=999:=
 Uk _ _ (fun u hu=>by
  obtain⟨r,hr,rfl⟩:=Ax.1 hu;exact xK ((Hp.1 hx).2.1 r (Db (Dm.1 hr).1))) hv
def Yw:Bool:=decide (DD (GZ (sx++[nwR a (Kg x a (CH x a rq).ver) (CH x a rq)])) rq=0)&&!has a.set (plc (Kg x a (CH x a rq).ver))
def lZ:AV:=if Ji x sx a rq=true then(if 999<Xt x a (CH x a rq).ver+1 then .tup [.agg zBk,vb false,vi 2]else .tup [.agg (A9 ⟨0,Kg x a (CH x a rq).ver,Yw x sx a rq⟩),vb true,vi 0])else .tup [.agg zBk,vb false,vi 0]
theorem Ah7(h:Be v=true):v.c<=999:=(E2 h).2.2.2.2.2
theorem xq{c:Int}(h:Be v=true)(h1:c+1<=999)(h0:0<=c):Be (⟨v.a,v.b,c+1⟩:Ver)=true:=by
 simp only[Be,Am,Bd]at h⊢;exact⟨h.1,⟨by show 0<=c+1;omega,h1⟩⟩
theorem Acj(HX:G1 x)(KM:G1 sx)(ha:FL a)(hq:∀z∈rq,FA z)(OX:Ji x sx a rq=false):PC 71 [Fr x ifs,Fr sx ifs,.agg (AM a),sl As rq] (.tup [.agg zBk,vb false,vi 0]):=by
 have Ou:BJ (Cf x rq):=show(Cf x rq).length<=1073741824 by have k:=Vv (x:=x) rq;have k2:=HX.len;omega
 have hx6:x.length<=16:=HX.len;have hs6:sx.length<=16:=KM.len;refine Ps (pC [4,5,6,15,18,19] [2,3,4,5,8,9,11,13,15,16,19,20,21,22,23]) func71 rfl (Nz rfl) (yN (C1 (C2 (Rt x ifs rq HX hq) (cU [(3,sl As rq),(4,.ref 4 0),(5,.ref 5 0),(6,.ref 6 0),(8,.ref 8 0),(11,sl Ab (Cf x rq)),(12,vi (DD x rq))] [(4,.ro (Ic x ifs)),(5,.ro (Ic sx ifs)),(6,.ro (AM a)),(8,.cells [vi 0,vi 0,vi 0,vi 0,vb false])] Z7 Z4 (Yi (fun h1=>?_) (fun h1=>?_))))))
 .have h1:((DD x rq):Int)≠(0:Int):=h1;refine cU [(8,.ref 8 0)] [(8,.cells [vi 0,vi 0,vi 0,vi 0,vb false])] Z1 Z1 (yN (yN ?_));exact .refl _
 have h1:((DD x rq):Int)=(0:Int):=Aq h1;refine yN (AN (Bt ((Cf x rq).any (Hg a))) (fun h3=>?_) (fun h3=>?_))
 .have h3:((Cf x rq).any (Hg a))=true:=h3;refine C1 (C2 (cb h3 (ZA a (Cf x rq) ha.set Ou)) (cU [(3,sl As rq),(4,.ref 4 0),(5,.ref 5 0),(6,.ref 6 0),(8,.ref 8 0),(11,sl Ab (Cf x rq))] [(4,.ro (Ic x ifs)),(5,.ro (Ic sx ifs)),(6,.ro (AM a)),(8,.cells [vi 0,vi 0,vi 0,vi 0,vb false])] Z6 Z4 (yN (C1 (C2 (Rt sx ifs rq KM hq) (cU [(3,sl As rq),(4,.ref 4 0),(5,.ref 5 0),(6,.ref 6 0),(8,.ref 8 0),(11,sl Ab (Cf x rq)),(14,vi (DD sx rq))] [(4,.ro (Ic x ifs)),(5,.ro (Ic sx ifs)),(6,.ro (AM a)),(8,.cells [vi 0,vi 0,vi 0,vi 0,vb false])] Z7 Z4 (Yi (fun h4=>?_) (fun h4=>?_))))))))
  .have h4:((DD sx rq):Int)=(0:Int):=h4;refine yN (yN ?_);exact .refl _
  have h4:¬(((DD sx rq):Int)=(0:Int)):=h4;exact absurd OX (by rw[Ji,At h1,h3,Aj h4];decide)
 have h3:((Cf x rq).any (Hg a))=false:=h3;refine C1 (C2 (cb h3 (ZA a (Cf x rq) ha.set Ou)) (cU [(8,.ref 8 0)] [(8,.cells [vi 0,vi 0,vi 0,vi 0,vb false])] Z1 Z1 (yN (yN ?_))));exact .refl _
theorem Aci(HX:G1 x)(KM:G1 sx)(ha:FL a)(hq:∀z∈rq,FA z)(R:Rl)(k:Nat)(c1:DD x rq=0)(c2:(Cf x rq).any (Hg a)=true)(c3:¬DD sx rq=0)(h0x:AC x=0)(_hR:CH x a rq=R)(hRv:Be R.ver=true)(_hRq:∀z∈R.reqs,FA z)(hk:k<(Cf x rq).length)(HF:(Cf x rq)[k].path=a.path)(yS:∀j (h:j<k),¬(Cf x rq)[j].path=a.path)(hkr:BQ x ⟨(Cf x rq)[k].path,(Cf x rq)[k].ver⟩=some R)(c4:999<Xt x a R.ver+1):PC 71 [Fr x ifs,Fr sx ifs,.agg (AM a),sl As rq] (.tup [.agg zBk,vb false,vi 2]):=by
 have Ou:BJ (Cf x rq):=show(Cf x rq).length<=1073741824 by have k:=Vv (x:=x) rq;have k2:=HX.len;omega
 have hx6:x.length<=16:=HX.len;have hs6:sx.length<=16:=KM.len;have Wc:BJ x:=show x.length<=1073741824 by omega
 have hRc:0<=R.ver.c/\R.ver.c<=999:=(E2 hRv).2.2.2.2;refine Ps (pC [4,5,6,15,18,19] [2,3,4,5,8,9,11,13,15,16,19,20,21,22,23]) func71 rfl (Nz rfl) (yN (C1 (C2 (Rt x ifs rq HX hq) (cU [(3,sl As rq),(4,.ref 4 0),(5,.ref 5 0),(6,.ref 6 0),(8,.ref 8 0),(11,sl Ab (Cf x rq)),(12,vi (DD x rq))] [(4,.ro (Ic x ifs)),(5,.ro (Ic sx ifs)),(6,.ro (AM a)),(8,.cells [vi 0,vi 0,vi 0,vi 0,vb false])] Z7 Z4 (Yi (fun h1=>?_) (fun h1=>?_))))))
 .have h1:((DD x rq):Int)≠(0:Int):=h1;exact absurd c1 h1
 have h1:((DD x rq):Int)=(0:Int):=Aq h1;refine yN (AN (Bt ((Cf x rq).any (Hg a))) (fun h2=>?_) (fun h2=>?_))
 .have h2:((Cf x rq).any (Hg a))=true:=h2;refine C1 (C2 (cb h2 (ZA a (Cf x rq) ha.set Ou)) (cU [(3,sl As rq),(4,.ref 4 0),(5,.ref 5 0),(6,.ref 6 0),(8,.ref 8 0),(11,sl Ab (Cf x rq))] [(4,.ro (Ic x ifs)),(5,.ro (Ic sx ifs)),(6,.ro (AM a)),(8,.cells [vi 0,vi 0,vi 0,vi 0,vb false])] Z6 Z4 (yN (C1 (C2 (Rt sx ifs rq KM hq) (cU [(3,sl As rq),(4,.ref 4 0),(5,.ref 5 0),(6,.ref 6 0),(8,.ref 8 0),(11,sl Ab (Cf x rq)),(14,vi (DD sx rq))] [(4,.ro (Ic x ifs)),(5,.ro (Ic sx ifs)),(6,.ro (AM a)),(8,.cells [vi 0,vi 0,vi 0,vi 0,vb false])] Z7 Z4 (Yi (fun h3=>?_) (fun h3=>?_))))))))
  .have h3:((DD sx rq):Int)=(0:Int):=h3;exact absurd h3 c3
  have h3:¬(((DD sx rq):Int)=(0:Int)):=h3;refine Yi (fun h4=>?_) (fun h4=>?_)
  .have h4:(256:Int)<=((x.map Ah).length:Int):=h4;exact absurd HX.len (by have rq:=h4;rw[Lm]at rq;omega)
  have h4:¬((256:Int)<=((x.map Ah).length:Int)):=h4;refine cU [(3,sl As rq),(4,.ref 4 0),(5,.ref 5 0),(6,.ref 6 0),(8,.ref 8 0),(11,sl Ab (Cf x rq))] [(4,.ro (Ic x ifs)),(5,.ro (Ic sx ifs)),(6,.ro (AM a)),(8,.cells [vi 0,vi 0,vi 0,vi 0,vb false])] Z6 Z4 (yN (C1 (C2 (vw x ifs (Cf x rq) a.path R k Wc HX.few Ou hk HF yS hkr) (yN (yN (yN (cU [(3,sl As rq),(4,.ref 4 0),(5,.ref 5 0),(6,.ref 6 0),(8,.ref 8 0),(15,.ref 15 0),(16,.ref 16 0)] [(4,.ro (Ic x ifs)),(5,.ro (Ic sx ifs)),(6,.ro (AM a)),(8,.cells [vi 0,vi 0,vi 0,vi 0,vb false]),(15,.ro (Ah R)),(16,.cells [vi R.ver.a,vi R.ver.b,vi R.ver.c])] Z7 Z6 (Xi {rq:Nat // rq<=x.length} (Xi (fun q=>⟨[(3,sl As rq),(4,.ref 4 0),(5,.ref 5 0),(6,.ref 6 0),(8,.ref 8 0),(15,.ref 15 0),(16,.ref 16 0),(17,vi q.1)],[(4,.ro (Ic x ifs)),(5,.ro (Ic sx ifs)),(6,.ro (AM a)),(8,.cells [vi 0,vi 0,vi 0,vi 0,vb false]),(15,.ro (Ah R)),(16,.cells [vi R.ver.a,vi R.ver.b,vi (mG x a.path R.ver q.1)])],Ac⟩) (Xi (fun q=>x.length-q.1) (Yi (Xi ⟨0,Al _⟩ ?_) ?_)))))))))))
  .exact⟨Z8,Z6,Fh,Tv⟩
  intro⟨i,i1⟩;have i1:i<=x.length:=i1;have hg:=oo (p:=a.path) h0x hRc i;refine Yi (fun h5=>?_) (fun h5=>?_)
  .have h5:(i:Int)<((x.map Ah).length:Int):=h5;have n5:=DK h5;refine Xi (Ah x[i]) (Yi (FJ n5) (Yi rfl (yN (yN (cU [(3,sl As rq),(4,.ref 4 0),(5,.ref 5 0),(6,.ref 6 0),(8,.ref 8 0),(15,.ref 15 0),(16,.ref 16 0),(17,vi i),(18,.ref 18 0)] [(4,.ro (Ic x ifs)),(5,.ro (Ic sx ifs)),(6,.ro (AM a)),(8,.cells [vi 0,vi 0,vi 0,vi 0,vb false]),(15,.ro (Ah R)),(16,.cells [vi R.ver.a,vi R.ver.b,vi (mG x a.path R.ver i)]),(18,.ro (Ah x[i]))] Z9 Z7 (Yi (fun h6=>?_) (fun h6=>?_)))))))
   .have h6:(x[i].path:CS)=a.path:=h6;refine Yi (fun h7=>?_) (fun h7=>?_)
    .have h7:(x[i].ver.b:Int)=(R.ver.b:Int):=h7;refine cU [(3,sl As rq),(4,.ref 4 0),(5,.ref 5 0),(6,.ref 6 0),(8,.ref 8 0),(15,.ref 15 0),(16,.ref 16 0),(17,vi i),(18,.ref 18 0)] [(4,.ro (Ic x ifs)),(5,.ro (Ic sx ifs)),(6,.ro (AM a)),(8,.cells [vi 0,vi 0,vi 0,vi 0,vb false]),(15,.ro (Ah R)),(16,.cells [vi R.ver.a,vi R.ver.b,vi (mG x a.path R.ver i)]),(18,.ro (Ah x[i]))] Z9 Z7 (yN (cU [(3,sl As rq),(4,.ref 4 0),(5,.ref 5 0),(6,.ref 6 0),(8,.ref 8 0),(15,.ref 15 0),(16,.ref 16 0),(17,vi i)] [(4,.ro (Ic x ifs)),(5,.ro (Ic sx ifs)),(6,.ro (AM a)),(8,.cells [vi 0,vi 0,vi 0,vi 0,vb false]),(15,.ro (Ah R)),(16,.cells [vi R.ver.a,vi R.ver.b,vi (max (mG x a.path R.ver i) x[i].ver.c)])] Z8 Z6 (Yi (Ii i ch) (Xi ⟨i+1,n5⟩ ?_))));exact⟨Dl x.length i ch,Z8,⟨Zr,Zr,Zr,Zr,Zr,⟨(show HO.cells [vi R.ver.a,vi R.ver.b,vi (max (mG x a.path R.ver i) x[i].ver.c)]=.cells [vi R.ver.a,vi R.ver.b,vi (mG x a.path R.ver (i+1))] by rw[Y1 n5 h6,cN,Ay h7]),rfl⟩,Tv⟩,Fh,Tv⟩
    have h7:¬((x[i].ver.b:Int)=(R.ver.b:Int)):=h7;refine cU [(3,sl As rq),(4,.ref 4 0),(5,.ref 5 0),(6,.ref 6 0),(8,.ref 8 0),(15,.ref 15 0),(16,.ref 16 0),(17,vi i)] [(4,.ro (Ic x ifs)),(5,.ro (Ic sx ifs)),(6,.ro (AM a)),(8,.cells [vi 0,vi 0,vi 0,vi 0,vb false]),(15,.ro (Ah R)),(16,.cells [vi R.ver.a,vi R.ver.b,vi (mG x a.path R.ver i)])] Z8 Z6 (Yi (Ii i ch) (Xi ⟨i+1,n5⟩ ?_));exact⟨Dl x.length i ch,Z8,⟨Zr,Zr,Zr,Zr,Zr,⟨(show HO.cells [vi R.ver.a,vi R.ver.b,vi (mG x a.path R.ver i)]=.cells [vi R.ver.a,vi R.ver.b,vi (mG x a.path R.ver (i+1))] by rw[Y1 n5 h6,cN,Az h7]),rfl⟩,Tv⟩,Fh,Tv⟩
   have h6:¬(x[i].path:CS)=a.path:=h6;refine cU [(3,sl As rq),(4,.ref 4 0),(5,.ref 5 0),(6,.ref 6 0),(8,.ref 8 0),(15,.ref 15 0),(16,.ref 16 0),(17,vi i)] [(4,.ro (Ic x ifs)),(5,.ro (Ic sx ifs)),(6,.ro (AM a)),(8,.cells [vi 0,vi 0,vi 0,vi 0,vb false]),(15,.ro (Ah R)),(16,.cells [vi R.ver.a,vi R.ver.b,vi (mG x a.path R.ver i)])] Z8 Z6 (Yi (Ii i ch) (Xi ⟨i+1,n5⟩ ?_));exact⟨Dl x.length i ch,Z8,⟨Zr,Zr,Zr,Zr,Zr,⟨(show HO.cells [vi R.ver.a,vi R.ver.b,vi (mG x a.path R.ver i)]=.cells [vi R.ver.a,vi R.ver.b,vi (mG x a.path R.ver (i+1))] by rw[uZ n5 h6]),rfl⟩,Tv⟩,Fh,Tv⟩
  have h5:¬((i:Int)<((x.map Ah).length:Int)):=h5;have n5:=B5 h5;refine Yi (by show Av (((mG x a.path R.ver i):Int)+(1:Int));unfold Av;omega) ?_;refine yN (yN (AN (Bt (Be (⟨R.ver.a,R.ver.b,mG x a.path R.ver i+1⟩:Ver))) (fun FH=>?_) (fun FH=>?_)))
  .have FH:(Be (⟨R.ver.a,R.ver.b,mG x a.path R.ver i+1⟩:Ver))=true:=FH;exact absurd (Ah7 FH) (by have e:=(show mG x a.path R.ver i=Xt x a R.ver from UU (by have rq:=h5;rw[Lm]at rq;omega));have g:mG x a.path R.ver i+1<=999->False:=ch;exact g)
  have FH:(Be (⟨R.ver.a,R.ver.b,mG x a.path R.ver i+1⟩:Ver))=false:=FH;refine C1 (C2 (cb FH (md (⟨R.ver.a,R.ver.b,mG x a.path R.ver i+1⟩:Ver))) (cU [(8,.ref 8 0)] [(8,.cells [vi 0,vi 0,vi 0,vi 0,vb false])] Z1 Z1 (yN (yN ?_))));exact .refl _
 have h2:((Cf x rq).any (Hg a))=false:=h2;exact absurd c2 (by rw[h2];exact B7)
theorem Ack(HX:G1 x)(KM:G1 sx)(ha:FL a)(hq:∀z∈rq,FA z)(R:Rl)(k:Nat)(c1:DD x rq=0)(c2:(Cf x rq).any (Hg a)=true)(c3:¬DD sx rq=0)(h0x:AC x=0)(hR:CH x a rq=R)(hRv:Be R.ver=true)(hRq:∀z∈R.reqs,FA z)(hk:k<(Cf x rq).length)(HF:(Cf x rq)[k].path=a.path)(yS:∀j (h:j<k),¬(Cf x rq)[j].path=a.path)(hkr:BQ x ⟨(Cf x rq)[k].path,(Cf x rq)[k].ver⟩=some R)(c4:¬999<Xt x a R.ver+1):PC 71 [Fr x ifs,Fr sx ifs,.agg (AM a),sl As rq] (.tup [.agg (A9 ⟨0,Kg x a R.ver,Yw x sx a rq⟩),vb true,vi 0]):=by
 have Ou:BJ (Cf x rq):=show(Cf x rq).length<=1073741824 by have k:=Vv (x:=x) rq;have k2:=HX.len;omega
 have hx6:x.length<=16:=HX.len;have hs6:sx.length<=16:=KM.len;have Wc:BJ x:=show x.length<=1073741824 by omega
 have hRc:0<=R.ver.c/\R.ver.c<=999:=(E2 hRv).2.2.2.2;refine Ps (pC [4,5,6,15,18,19] [2,3,4,5,8,9,11,13,15,16,19,20,21,22,23]) func71 rfl (Nz rfl) (yN (C1 (C2 (Rt x ifs rq HX hq) (cU [(3,sl As rq),(4,.ref 4 0),(5,.ref 5 0),(6,.ref 6 0),(8,.ref 8 0),(11,sl Ab (Cf x rq)),(12,vi (DD x rq))] [(4,.ro (Ic x ifs)),(5,.ro (Ic sx ifs)),(6,.ro (AM a)),(8,.cells [vi 0,vi 0,vi 0,vi 0,vb false])] Z7 Z4 (Yi (fun h1=>?_) (fun h1=>?_))))))
 .have h1:((DD x rq):Int)≠(0:Int):=h1;exact absurd c1 h1
 have h1:((DD x rq):Int)=(0:Int):=Aq h1;refine yN (AN (Bt ((Cf x rq).any (Hg a))) (fun h2=>?_) (fun h2=>?_))
 .have h2:((Cf x rq).any (Hg a))=true:=h2;refine C1 (C2 (cb h2 (ZA a (Cf x rq) ha.set Ou)) (cU [(3,sl As rq),(4,.ref 4 0),(5,.ref 5 0),(6,.ref 6 0),(8,.ref 8 0),(11,sl Ab (Cf x rq))] [(4,.ro (Ic x ifs)),(5,.ro (Ic sx ifs)),(6,.ro (AM a)),(8,.cells [vi 0,vi 0,vi 0,vi 0,vb false])] Z6 Z4 (yN (C1 (C2 (Rt sx ifs rq KM hq) (cU [(3,sl As rq),(4,.ref 4 0),(5,.ref 5 0),(6,.ref 6 0),(8,.ref 8 0),(11,sl Ab (Cf x rq)),(14,vi (DD sx rq))] [(4,.ro (Ic x ifs)),(5,.ro (Ic sx ifs)),(6,.ro (AM a)),(8,.cells [vi 0,vi 0,vi 0,vi 0,vb false])] Z7 Z4 (Yi (fun h3=>?_) (fun h3=>?_))))))))
  .have h3:((DD sx rq):Int)=(0:Int):=h3;exact absurd h3 c3
  have h3:¬(((DD sx rq):Int)=(0:Int)):=h3;refine Yi (fun h4=>?_) (fun h4=>?_)
  .have h4:(256:Int)<=((x.map Ah).length:Int):=h4;exact absurd HX.len (by have rq:=h4;rw[Lm]at rq;omega)
  have h4:¬((256:Int)<=((x.map Ah).length:Int)):=h4;refine cU [(3,sl As rq),(4,.ref 4 0),(5,.ref 5 0),(6,.ref 6 0),(8,.ref 8 0),(11,sl Ab (Cf x rq))] [(4,.ro (Ic x ifs)),(5,.ro (Ic sx ifs)),(6,.ro (AM a)),(8,.cells [vi 0,vi 0,vi 0,vi 0,vb false])] Z6 Z4 (yN (C1 (C2 (vw x ifs (Cf x rq) a.path R k Wc HX.few Ou hk HF yS hkr) (yN (yN (yN (cU [(3,sl As rq),(4,.ref 4 0),(5,.ref 5 0),(6,.ref 6 0),(8,.ref 8 0),(15,.ref 15 0),(16,.ref 16 0)] [(4,.ro (Ic x ifs)),(5,.ro (Ic sx ifs)),(6,.ro (AM a)),(8,.cells [vi 0,vi 0,vi 0,vi 0,vb false]),(15,.ro (Ah R)),(16,.cells [vi R.ver.a,vi R.ver.b,vi R.ver.c])] Z7 Z6 (Xi {rq:Nat // rq<=x.length} (Xi (fun q=>⟨[(3,sl As rq),(4,.ref 4 0),(5,.ref 5 0),(6,.ref 6 0),(8,.ref 8 0),(15,.ref 15 0),(16,.ref 16 0),(17,vi q.1)],[(4,.ro (Ic x ifs)),(5,.ro (Ic sx ifs)),(6,.ro (AM a)),(8,.cells [vi 0,vi 0,vi 0,vi 0,vb false]),(15,.ro (Ah R)),(16,.cells [vi R.ver.a,vi R.ver.b,vi (mG x a.path R.ver q.1)])],Ac⟩) (Xi (fun q=>x.length-q.1) (Yi (Xi ⟨0,Al _⟩ ?_) ?_)))))))))))
  .exact⟨Z8,Z6,Fh,Tv⟩
  intro⟨i,i1⟩;have i1:i<=x.length:=i1;have hg:=oo (p:=a.path) h0x hRc i;refine Yi (fun h5=>?_) (fun h5=>?_)
  .have h5:(i:Int)<((x.map Ah).length:Int):=h5;have n5:=DK h5;refine Xi (Ah x[i]) (Yi (FJ n5) (Yi rfl (yN (yN (cU [(3,sl As rq),(4,.ref 4 0),(5,.ref 5 0),(6,.ref 6 0),(8,.ref 8 0),(15,.ref 15 0),(16,.ref 16 0),(17,vi i),(18,.ref 18 0)] [(4,.ro (Ic x ifs)),(5,.ro (Ic sx ifs)),(6,.ro (AM a)),(8,.cells [vi 0,vi 0,vi 0,vi 0,vb false]),(15,.ro (Ah R)),(16,.cells [vi R.ver.a,vi R.ver.b,vi (mG x a.path R.ver i)]),(18,.ro (Ah x[i]))] Z9 Z7 (Yi (fun h6=>?_) (fun h6=>?_)))))))
   .have h6:(x[i].path:CS)=a.path:=h6;refine Yi (fun h7=>?_) (fun h7=>?_)
    .have h7:(x[i].ver.b:Int)=(R.ver.b:Int):=h7;refine cU [(3,sl As rq),(4,.ref 4 0),(5,.ref 5 0),(6,.ref 6 0),(8,.ref 8 0),(15,.ref 15 0),(16,.ref 16 0),(17,vi i),(18,.ref 18 0)] [(4,.ro (Ic x ifs)),(5,.ro (Ic sx ifs)),(6,.ro (AM a)),(8,.cells [vi 0,vi 0,vi 0,vi 0,vb false]),(15,.ro (Ah R)),(16,.cells [vi R.ver.a,vi R.ver.b,vi (mG x a.path R.ver i)]),(18,.ro (Ah x[i]))] Z9 Z7 (yN (cU [(3,sl As rq),(4,.ref 4 0),(5,.ref 5 0),(6,.ref 6 0),(8,.ref 8 0),(15,.ref 15 0),(16,.ref 16 0),(17,vi i)] [(4,.ro (Ic x ifs)),(5,.ro (Ic sx ifs)),(6,.ro (AM a)),(8,.cells [vi 0,vi 0,vi 0,vi 0,vb false]),(15,.ro (Ah R)),(16,.cells [vi R.ver.a,vi R.ver.b,vi (max (mG x a.path R.ver i) x[i].ver.c)])] Z8 Z6 (Yi (Ii i ch) (Xi ⟨i+1,n5⟩ ?_))));exact⟨Dl x.length i ch,Z8,⟨Zr,Zr,Zr,Zr,Zr,⟨(show HO.cells [vi R.ver.a,vi R.ver.b,vi (max (mG x a.path R.ver i) x[i].ver.c)]=.cells [vi R.ver.a,vi R.ver.b,vi (mG x a.path R.ver (i+1))] by rw[Y1 n5 h6,cN,Ay h7]),rfl⟩,Tv⟩,Fh,Tv⟩
    have h7:¬((x[i].ver.b:Int)=(R.ver.b:Int)):=h7;refine cU [(3,sl As rq),(4,.ref 4 0),(5,.ref 5 0),(6,.ref 6 0),(8,.ref 8 0),(15,.ref 15 0),(16,.ref 16 0),(17,vi i)] [(4,.ro (Ic x ifs)),(5,.ro (Ic sx ifs)),(6,.ro (AM a)),(8,.cells [vi 0,vi 0,vi 0,vi 0,vb false]),(15,.ro (Ah R)),(16,.cells [vi R.ver.a,vi R.ver.b,vi (mG x a.path R.ver i)])] Z8 Z6 (Yi (Ii i ch) (Xi ⟨i+1,n5⟩ ?_));exact⟨Dl x.length i ch,Z8,⟨Zr,Zr,Zr,Zr,Zr,⟨(show HO.cells [vi R.ver.a,vi R.ver.b,vi (mG x a.path R.ver i)]=.cells [vi R.ver.a,vi R.ver.b,vi (mG x a.path R.ver (i+1))] by rw[Y1 n5 h6,cN,Az h7]),rfl⟩,Tv⟩,Fh,Tv⟩
   have h6:¬(x[i].path:CS)=a.path:=h6;refine cU [(3,sl As rq),(4,.ref 4 0),(5,.ref 5 0),(6,.ref 6 0),(8,.ref 8 0),(15,.ref 15 0),(16,.ref 16 0),(17,vi i)] [(4,.ro (Ic x ifs)),(5,.ro (Ic sx ifs)),(6,.ro (AM a)),(8,.cells [vi 0,vi 0,vi 0,vi 0,vb false]),(15,.ro (Ah R)),(16,.cells [vi R.ver.a,vi R.ver.b,vi (mG x a.path R.ver i)])] Z8 Z6 (Yi (Ii i ch) (Xi ⟨i+1,n5⟩ ?_));exact⟨Dl x.length i ch,Z8,⟨Zr,Zr,Zr,Zr,Zr,⟨(show HO.cells [vi R.ver.a,vi R.ver.b,vi (mG x a.path R.ver i)]=.cells [vi R.ver.a,vi R.ver.b,vi (mG x a.path R.ver (i+1))] by rw[uZ n5 h6]),rfl⟩,Tv⟩,Fh,Tv⟩
  have h5:¬((i:Int)<((x.map Ah).length:Int)):=h5;have n5:=B5 h5;refine Yi (by show Av (((mG x a.path R.ver i):Int)+(1:Int));unfold Av;omega) ?_;refine yN (yN (AN (Bt (Be (⟨R.ver.a,R.ver.b,mG x a.path R.ver i+1⟩:Ver))) (fun FH=>?_) (fun FH=>?_)))
  .have FH:(Be (⟨R.ver.a,R.ver.b,mG x a.path R.ver i+1⟩:Ver))=true:=FH;have hvv:Be (⟨R.ver.a,R.ver.b,mG x a.path R.ver i+1⟩:Ver)=true:=FH;have hXf:∀r∈sx++[(⟨a.path,(⟨R.ver.a,R.ver.b,mG x a.path R.ver i+1⟩:Ver),R.reqs,⟨#[]⟩,⟨#[]⟩,⟨#[]⟩,false⟩:Rl)],CT r:=UZ KM.few ha.path hRq;have hMf:∀r∈(GZ (sx++[(⟨a.path,(⟨R.ver.a,R.ver.b,mG x a.path R.ver i+1⟩:Ver),R.reqs,⟨#[]⟩,⟨#[]⟩,⟨#[]⟩,false⟩:Rl)])),CT r:=iq hXf;have hMl:((GZ (sx++[(⟨a.path,(⟨R.ver.a,R.ver.b,mG x a.path R.ver i+1⟩:Ver),R.reqs,⟨#[]⟩,⟨#[]⟩,⟨#[]⟩,false⟩:Rl)]))).length<=17:=by have z:=tC (sx++[(⟨a.path,(⟨R.ver.a,R.ver.b,mG x a.path R.ver i+1⟩:Ver),R.reqs,⟨#[]⟩,⟨#[]⟩,⟨#[]⟩,false⟩:Rl)]);rw[Ak]at z;have z:_<=sx.length+1:=z;have z2:=KM.len;omega
   refine C1 (C2 (cb FH (md (⟨R.ver.a,R.ver.b,mG x a.path R.ver i+1⟩:Ver))) (cU [(3,sl As rq),(5,.ref 5 0),(6,.ref 6 0),(8,.ref 8 0),(15,.ref 15 0),(16,.ref 16 0)] [(5,.ro (Ic sx ifs)),(6,.ro (AM a)),(8,.cells [vi 0,vi 0,vi 0,vi 0,vb false]),(15,.ro (Ah R)),(16,.cells [vi R.ver.a,vi R.ver.b,vi ((mG x a.path R.ver i)+1)])] Z6 Z5 (yN (yN (cU [(3,sl As rq),(5,.ref 5 0),(6,.ref 6 0),(8,.ref 8 0),(16,.ref 16 0),(19,.ref 19 0)] [(5,.ro (Ic sx ifs)),(6,.ro (AM a)),(8,.cells [vi 0,vi 0,vi 0,vi 0,vb false]),(16,.cells [vi R.ver.a,vi R.ver.b,vi ((mG x a.path R.ver i)+1)]),(19,.ro [vs a.path,vi R.ver.a,vi R.ver.b,vi ((mG x a.path R.ver i)+1),sl As R.reqs,vs ⟨#[]⟩,vs ⟨#[]⟩,vs ⟨#[]⟩,vb false])] Z6 Z5 ?_)))))
   have qx:Bi 9 (sx.map Ah)/\([]:C0).length=0/\(([]:C0).length+(sx.map Ah).length)*120<=140737488355328/\([]:C0).length+(sx.map Ah).length<=9223372036854775807:=⟨(CJ (enc:=Ah) (n:=9) (fun _=>rfl) sx),(by first | (simp;done) | (rw[Lm];assumption)),(by simp only[Lm,AE];omega),(by simp only[Lm,AE];omega)⟩
   refine Yi qx (yN ?_);have b13:Bi 9 [[vs a.path,vi R.ver.a,vi R.ver.b,vi ((mG x a.path R.ver i)+1),sl As R.reqs,vs ⟨#[]⟩,vs ⟨#[]⟩,vs ⟨#[]⟩,vb false]]/\(([]++(sx.map Ah)):C0).length=(([]:C0).length+(sx.map Ah).length)/\((([]++(sx.map Ah)):C0).length+([[vs a.path,vi R.ver.a,vi R.ver.b,vi ((mG x a.path R.ver i)+1),sl As R.reqs,vs ⟨#[]⟩,vs ⟨#[]⟩,vs ⟨#[]⟩,vb false]]:C0).length)*120<=140737488355328/\(([]++(sx.map Ah)):C0).length+([[vs a.path,vi R.ver.a,vi R.ver.b,vi ((mG x a.path R.ver i)+1),sl As R.reqs,vs ⟨#[]⟩,vs ⟨#[]⟩,vs ⟨#[]⟩,vb false]]:C0).length<=9223372036854775807:=⟨⟨rfl,trivial⟩,(by first | (simp;done) | (rw[Lm];assumption)),(by simp only[Lm,Ak,AA,AE];omega),(by simp only[Lm,Ak,AA,AE];omega)⟩
   refine Yi b13 (C2 (show PC 123 [.slice .none (([]++(sx.map Ah))++[[vs a.path,vi R.ver.a,vi R.ver.b,vi ((mG x a.path R.ver i)+1),sl As R.reqs,vs ⟨#[]⟩,vs ⟨#[]⟩,vs ⟨#[]⟩,vb false]])] (.tup [sl Ah (GZ (sx++[(⟨a.path,(⟨R.ver.a,R.ver.b,mG x a.path R.ver i+1⟩:Ver),R.reqs,⟨#[]⟩,⟨#[]⟩,⟨#[]⟩,false⟩:Rl)])),vi (AC (Dp BU (sx++[(⟨a.path,(⟨R.ver.a,R.ver.b,mG x a.path R.ver i+1⟩:Ver),R.reqs,⟨#[]⟩,⟨#[]⟩,⟨#[]⟩,false⟩:Rl)]).length (sx++[(⟨a.path,(⟨R.ver.a,R.ver.b,mG x a.path R.ver i+1⟩:Ver),R.reqs,⟨#[]⟩,⟨#[]⟩,⟨#[]⟩,false⟩:Rl)])))]) by rw[<-show sl Ah (sx++[(⟨a.path,(⟨R.ver.a,R.ver.b,mG x a.path R.ver i+1⟩:Ver),R.reqs,⟨#[]⟩,⟨#[]⟩,⟨#[]⟩,false⟩:Rl)])=.slice .none (([]++(sx.map Ah))++[[vs a.path,vi R.ver.a,vi R.ver.b,vi ((mG x a.path R.ver i)+1),sl As R.reqs,vs ⟨#[]⟩,vs ⟨#[]⟩,vs ⟨#[]⟩,vb false]])from(show AV.slice .none (List.map Ah (sx++[(⟨a.path,(⟨R.ver.a,R.ver.b,mG x a.path R.ver i+1⟩:Ver),R.reqs,⟨#[]⟩,⟨#[]⟩,⟨#[]⟩,false⟩:Rl)]))=_ by rw[AF];rfl)];exact yy (sx++[(⟨a.path,(⟨R.ver.a,R.ver.b,mG x a.path R.ver i+1⟩:Ver),R.reqs,⟨#[]⟩,⟨#[]⟩,⟨#[]⟩,false⟩:Rl)]) hXf (by rw[Ak];show sx.length+1<=1000000;have z:=KM.len;omega)) ?_);refine Yi Wk (cU [(3,sl As rq),(6,.ref 6 0),(8,.ref 8 0),(16,.ref 16 0),(20,sl Ah (GZ (sx++[(⟨a.path,(⟨R.ver.a,R.ver.b,mG x a.path R.ver i+1⟩:Ver),R.reqs,⟨#[]⟩,⟨#[]⟩,⟨#[]⟩,false⟩:Rl)])))] [(6,.ro (AM a)),(8,.cells [vi 0,vi 0,vi 0,vi 0,vb false]),(16,.cells [vi R.ver.a,vi R.ver.b,vi ((mG x a.path R.ver i)+1)])] Z5 Z3 (C1 (C2 (show PC 119 [.agg [sl Ah (GZ (sx++[(⟨a.path,(⟨R.ver.a,R.ver.b,mG x a.path R.ver i+1⟩:Ver),R.reqs,⟨#[]⟩,⟨#[]⟩,⟨#[]⟩,false⟩:Rl)])),BE],sl As rq] (.tup [sl Ab (Ql (GZ (sx++[(⟨a.path,(⟨R.ver.a,R.ver.b,mG x a.path R.ver i+1⟩:Ver),R.reqs,⟨#[]⟩,⟨#[]⟩,⟨#[]⟩,false⟩:Rl)])) rq),vi (DD (GZ (sx++[(⟨a.path,(⟨R.ver.a,R.ver.b,mG x a.path R.ver i+1⟩:Ver),R.reqs,⟨#[]⟩,⟨#[]⟩,⟨#[]⟩,false⟩:Rl)])) rq)]) by have z:=(s37 (GZ (sx++[(⟨a.path,(⟨R.ver.a,R.ver.b,mG x a.path R.ver i+1⟩:Ver),R.reqs,⟨#[]⟩,⟨#[]⟩,⟨#[]⟩,false⟩:Rl)])) [] rq hMf hq).args (args':=[.agg [sl Ah (GZ (sx++[(⟨a.path,(⟨R.ver.a,R.ver.b,mG x a.path R.ver i+1⟩:Ver),R.reqs,⟨#[]⟩,⟨#[]⟩,⟨#[]⟩,false⟩:Rl)])),BE],sl As rq]) ⟨.agg ⟨.refl _,.nil,trivial⟩,.refl _,trivial⟩;rw[Vw hMl]at z;exact z) ?_)));refine cU [(6,.ref 6 0),(8,.ref 8 0),(12,vi (DD (GZ (sx++[(⟨a.path,(⟨R.ver.a,R.ver.b,mG x a.path R.ver i+1⟩:Ver),R.reqs,⟨#[]⟩,⟨#[]⟩,⟨#[]⟩,false⟩:Rl)])) rq)),(16,.ref 16 0)] [(6,.ro (AM a)),(8,.cells [vi 0,vi 0,vi 0,vi 0,vb false]),(16,.cells [vi R.ver.a,vi R.ver.b,vi ((mG x a.path R.ver i)+1)])] Z4 Z3 (yN (Yi (fun Sa=>?_) (fun Sa=>?_)))
   .have Sa:((DD (GZ (sx++[(⟨a.path,(⟨R.ver.a,R.ver.b,mG x a.path R.ver i+1⟩:Ver),R.reqs,⟨#[]⟩,⟨#[]⟩,⟨#[]⟩,false⟩:Rl)])) rq):Int)=(0:Int):=Sa;refine yN (C2 (Acp (⟨R.ver.a,R.ver.b,mG x a.path R.ver i+1⟩:Ver) hvv) (AN (Bt (has a.set (plc (⟨R.ver.a,R.ver.b,mG x a.path R.ver i+1⟩:Ver)))) (fun Tb=>?_) (fun Tb=>?_)))
    .have Tb:(has a.set (plc (⟨R.ver.a,R.ver.b,mG x a.path R.ver i+1⟩:Ver)))=true:=Tb;refine C2 (cb Tb (VX a.set (plc (⟨R.ver.a,R.ver.b,mG x a.path R.ver i+1⟩:Ver)) ha.set)) (yN (Yi Wk (yN ?_)));have eN:(⟨R.ver.a,R.ver.b,mG x a.path R.ver i+1⟩:Ver)=Kg x a R.ver:=by rw[Kg,UU (by have rq:=h5;rw[Lm]at rq;omega)]
     have eE:false=Yw x sx a rq:=by rw[Yw,hR,<-eN];show _=(decide (DD (GZ (sx++[(⟨a.path,(⟨R.ver.a,R.ver.b,mG x a.path R.ver i+1⟩:Ver),R.reqs,⟨#[]⟩,⟨#[]⟩,⟨#[]⟩,false⟩:Rl)])) rq=0)&&!has a.set (plc (⟨R.ver.a,R.ver.b,mG x a.path R.ver i+1⟩:Ver)));rw[At Sa,Tb];rfl
     exact BM.of_eq (show AV.tup [.agg [vi 0,vi R.ver.a,vi R.ver.b,vi ((mG x a.path R.ver i)+1),vb false],vb true,vi 0]=.tup [.agg (A9 ⟨0,Kg x a R.ver,Yw x sx a rq⟩),vb true,vi 0] by rw[<-eN,<-eE];rfl)
    have Tb:(has a.set (plc (⟨R.ver.a,R.ver.b,mG x a.path R.ver i+1⟩:Ver)))=false:=Tb;refine C2 (cb Tb (VX a.set (plc (⟨R.ver.a,R.ver.b,mG x a.path R.ver i+1⟩:Ver)) ha.set)) (yN (Yi Wk (yN ?_)));have eN:(⟨R.ver.a,R.ver.b,mG x a.path R.ver i+1⟩:Ver)=Kg x a R.ver:=by rw[Kg,UU (by have rq:=h5;rw[Lm]at rq;omega)]
    have eE:true=Yw x sx a rq:=by rw[Yw,hR,<-eN];show _=(decide (DD (GZ (sx++[(⟨a.path,(⟨R.ver.a,R.ver.b,mG x a.path R.ver i+1⟩:Ver),R.reqs,⟨#[]⟩,⟨#[]⟩,⟨#[]⟩,false⟩:Rl)])) rq=0)&&!has a.set (plc (⟨R.ver.a,R.ver.b,mG x a.path R.ver i+1⟩:Ver)));rw[At Sa,Tb];rfl
    exact BM.of_eq (show AV.tup [.agg [vi 0,vi R.ver.a,vi R.ver.b,vi ((mG x a.path R.ver i)+1),vb true],vb true,vi 0]=.tup [.agg (A9 ⟨0,Kg x a R.ver,Yw x sx a rq⟩),vb true,vi 0] by rw[<-eN,<-eE];rfl)
   have Sa:¬(((DD (GZ (sx++[(⟨a.path,(⟨R.ver.a,R.ver.b,mG x a.path R.ver i+1⟩:Ver),R.reqs,⟨#[]⟩,⟨#[]⟩,⟨#[]⟩,false⟩:Rl)])) rq):Int)=(0:Int)):=Sa;refine yN (Yi Wk (yN ?_));have eN:(⟨R.ver.a,R.ver.b,mG x a.path R.ver i+1⟩:Ver)=Kg x a R.ver:=by rw[Kg,UU (by have rq:=h5;rw[Lm]at rq;omega)]
   have eE:false=Yw x sx a rq:=by rw[Yw,hR,<-eN];show _=(decide (DD (GZ (sx++[(⟨a.path,(⟨R.ver.a,R.ver.b,mG x a.path R.ver i+1⟩:Ver),R.reqs,⟨#[]⟩,⟨#[]⟩,⟨#[]⟩,false⟩:Rl)])) rq=0)&&!has a.set (plc (⟨R.ver.a,R.ver.b,mG x a.path R.ver i+1⟩:Ver)));rw[Aj Sa];rfl
   exact BM.of_eq (show AV.tup [.agg [vi 0,vi R.ver.a,vi R.ver.b,vi ((mG x a.path R.ver i)+1),vb false],vb true,vi 0]=.tup [.agg (A9 ⟨0,Kg x a R.ver,Yw x sx a rq⟩),vb true,vi 0] by rw[<-eN,<-eE];rfl)
  have FH:(Be (⟨R.ver.a,R.ver.b,mG x a.path R.ver i+1⟩:Ver))=false:=FH;exact absurd (xq hRv (by have e:=(show mG x a.path R.ver i=Xt x a R.ver from UU (by have rq:=h5;rw[Lm]at rq;omega));omega) hg.1) (by rw[FH];exact B7)
 have h2:((Cf x rq).any (Hg a))=false:=h2;exact absurd c2 (by rw[h2];exact B7)
end Go.Eng
