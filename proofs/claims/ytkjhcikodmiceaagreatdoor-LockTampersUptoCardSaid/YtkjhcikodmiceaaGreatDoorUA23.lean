/- Lemmas 23. -/
import Derived.Test.YtkjhcikodmiceaaGreatDoorUA22
set_option maxHeartbeats 4000000
namespace Go.Eng
variable (x:List Rl)
structure Lo where
 path:ByteArray
 ver:Ver
 arch:ByteArray
 ifc:ByteArray
variable (e:Lo)
structure Lk where
 roots:List Rq
 ents:List Lo
 infs:List Nf
 skips:List Sk
variable (l:Lk)
abbrev Dt:Sl:=⟨e.path,e.ver⟩
abbrev Gu:List Sl:=l.ents.map Dt
abbrev Ks:An:=⟨true,Gu l,l.infs,l.skips⟩
def Me:Bool:=decide (Bw e.path=some e.ver.a)&&Cf e.ver&&DW e.arch&&DW e.ifc
def db(i:Nf):Bool:=decide (0<=i.kind/\i.kind<=3/\i.path.size<=64/\0<=i.place/\0<=i.number/\0<=i.left/\0<=i.right)
def TE(s:Sk):Bool:=decide (s.path.size<=64/\0<=s.place/\0<=s.inf)
def Fo:Bool:=decide (A8 l.roots=0)&&(decide (l.ents.length<=1024)&&(decide (l.infs.length<=65536)&&(decide (l.skips.length<=65536)&&(Cq (Gu l)&&(l.ents.all Me&&(l.infs.all db&&l.skips.all TE))))))
def H2:Bool:=match Bg x (Dt e)with
 |none=>false
 |some r=>decide (e.arch=r.arch)&&decide (e.ifc=r.ifc)
def LF:Int:=
 if AC x≠0\/Fo l=false then 1
 else if l.ents.all (fun e=>(Bg x (Dt e)).isSome)=false then 6
 else if l.ents.all (H2 x)=false then 9
 else if Fe x l.roots (Ks l)≠0 then 18 else 0
section
variable {x:List Rl}{l m:Lk}
theorem S8(h:LF x l=0):AC x=0/\Fo l=true/\l.ents.all (H2 x)=true/\Fe x l.roots (Ks l)=0:=by
 unfold LF at h
 grind
def GL(x:List Rl)(y:Sl):Lo:=match Bg x y with
 |none=>⟨y.path,y.ver,⟨#[]⟩,⟨#[]⟩⟩
 |some r=>⟨y.path,y.ver,r.arch,r.ifc⟩
theorem nZ{e:Lo}(h:H2 x e=true):e=GL x (Dt e):=by
 unfold H2 at h;unfold GL;cases e1:Bg x (Dt e)with
 |none=>rw[e1]at h;cases h
 |some r=>
  rw[e1]at h;obtain⟨h1,h2⟩:=Bool.and_eq_true_iff.1 h;cases e;simp_all
theorem Vc(h:LF x l=0):l.ents=(Gu l).map (GL x):=by
 obtain⟨_,_,h3,_⟩:=S8 h;rw[Bx]
 conv=>lhs;rw[<-GI l.ents]
 refine BK fun e he=>?_;exact nZ (AF.1 h3 e he)
theorem WB(h:LF x l=0)(k:LF x m=0)(e:l.roots=m.roots):l.ents=m.ents:=by
 obtain⟨_,_,_,h4⟩:=S8 h;obtain⟨_,_,_,k4⟩:=S8 k;rw[e]at h4;have q:Gu l=Gu m:=(MX h4 k4).2;rw[Vc h,Vc k,q]
def ul(x:List Rl)(roots:List Rq)(a:An):Lk:=⟨roots,a.sel.map (GL x),a.infs,a.skips⟩
theorem ZG(h:LF x l=0){i:Nat}(hi:i<l.ents.length):LF x ⟨l.roots,l.ents.eraseIdx i,l.infs,l.skips⟩=18:=by
 obtain⟨h1,h2,h3,h4⟩:=S8 h;have sub:(l.ents.eraseIdx i).Sublist l.ents:=List.eraseIdx_sublist _ _;have ru:Fo ⟨l.roots,l.ents.eraseIdx i,l.infs,l.skips⟩=true:=by
  unfold Fo at h2⊢;simp only[Ag,A5]at h2⊢;obtain⟨a1,a2,a3,a4,a5,a6,a7⟩:=h2;have a5:Ox (Gu l):=(FR a5).1;exact⟨a1,AH sub.length_le a2,a3,a4,YW (a5.sublist (sub.map Dt)),AF.2 fun e he=>AF.1 a6 e (sub.subset he),a7⟩
 have tH:(l.ents.eraseIdx i).all (H2 x)=true:=AF.2 fun e he=>AF.1 h3 e (sub.subset he);have zt:(l.ents.eraseIdx i).all (fun e=>(Bg x (Dt e)).isSome)=true:=AF.2 fun e he=>by
  have:=AF.1 tH e he
  unfold H2 at this;cases q:Bg x (Dt e)with
  |none=>rw[q]at this;cases this
  |some r=>rfl
 have tL:Fe x l.roots (Ks ⟨l.roots,l.ents.eraseIdx i,l.infs,l.skips⟩)≠0:=fun hc=>by
  have q:(l.ents.eraseIdx i).map Dt=l.ents.map Dt:=(MX hc h4).2;have q:=Aa List.length q;rw[Lm,Lm,Hy hi]at q;omega
 unfold LF;rw[AO (by rw[ru];simp[h1]),AO (by rw[zt];decide),AO (by rw[tH];decide),A1 tL]
end
end Go.Eng
namespace Go.Eng
open Go.Proofs
variable {caps:List AV}{x:List Rl}{fF:Nat}{α:Type}{f:α->Bool}{a b:ByteArray}{i k:Nat}(l:Lk)(e:Lo)(s:Sk)(p:ByteArray)
abbrev A3:List AV:=[vs e.path,vi e.ver.a,vi e.ver.b,vi e.ver.c,vs e.arch,vs e.ifc]
abbrev Dj:List AV:=[sl Ac l.roots,sl A3 l.ents,sl AG l.infs,sl Ay l.skips]
theorem aA{l:List Lo}(h:i<l.length):(l.take (i+1)).map Dt=(l.take i).map Dt++[Dt l[i]]:=by rw[D5 h,Bm];rfl
theorem jp(hl:l.ents.length<=1000000):PC 20 [.agg (Dj l)] (sl Ah (Gu l)):=by
 refine Ps (pT [1] [(3,4)] []) Tryz.func20 rfl (Nz rfl) (Xi {q:Nat // q<=l.ents.length} (Xi (fun q=>⟨[(3,.slice (.id 3 4) (((l.ents.take q.1).map Dt).map Ah)),(7,sl A3 l.ents),(8,vi (l.ents.map A3).length),(9,vi q.1)],[(3,.tok 4 ((l.ents.take q.1).map Dt).length)],Ab⟩) (Xi (fun q=>l.ents.length-q.1) (Yi (Xi ⟨0,Ar _⟩ ?_) ?_))))
 .exact⟨Z4,Z1,Fh,Tv⟩
 intro⟨i,i1⟩;have i1:i<=l.ents.length:=i1;have hT:((l.ents.take i).map Dt).length<=1073741824:=(by rw[Lm,CB];omega);refine Yi (fun h1=>?_) (fun h1=>?_)
 .have h1:(i:Int)<((l.ents.map A3).length:Int):=h1;have n1:=Jb h1;refine Xi (A3 l.ents[i]) (Yi (N0 n1) (Yi rfl (yN (yN (yN (Yi (X2 rfl (show((l.ents.take i).map Dt).length<=2147483647 by omega) Wk) (Yi (Ii i ch) (Xi ⟨i+1,n1⟩ ?_))))))));exact⟨Dl l.ents.length i ch,⟨⟨(show AV.slice (.id 3 4) (((l.ents.take i).map Dt).map Ah++[[vs l.ents[i].path,vi l.ents[i].ver.a,vi l.ents[i].ver.b,vi l.ents[i].ver.c]])=.slice (.id 3 4) (((l.ents.take (i+1)).map Dt).map Ah) by rw[aA n1,Bm];rfl),rfl⟩,Zr,Zr,Zr,Tv⟩,⟨⟨(show HO.tok 4 ((((l.ents.take i).map Dt).map Ah).length+([[vs l.ents[i].path,vi l.ents[i].ver.a,vi l.ents[i].ver.b,vi l.ents[i].ver.c]]:List (List AV)).length)=.tok 4 ((l.ents.take (i+1)).map Dt).length by rw[aA n1];simp),rfl⟩,Tv⟩,Fh,Tv⟩
 have h1:¬((i:Int)<((l.ents.map A3).length:Int)):=h1;have n1:=FS h1;exact DC.of_eq (show sl Ah ((l.ents.take i).map Dt)=sl Ah (Gu l) by rw[Bd (Cj (FS h1))])
theorem tf(hl:l.ents.length<=1000000):PC 50 [.agg (Dj l)] (.agg [vb true,sl Ah (Gu l),sl AG l.infs,sl Ay l.skips]):=by
 refine Ps (pC [1] []) Tryz.func50 rfl (Nz rfl) (yN (Xi _ (Yi (jp l hl) (yN (Yi aa0 (yN ?_))))));exact .refl _
theorem mf(s:ByteArray):PC 102 [vs s] (vb (DW s)):=by
 refine Ps D0 Tryz.func102 rfl (Nz rfl) (Yi (fun h1=>?_) (fun h1=>?_))
 .have h1:(s.size:Int)=(0:Int):=h1;exact DC.of_eq (Aa vb (show true=DW s by unfold DW;rw[As (show s.size=0 by have q:=h1;omega)];rfl))
 have h1:¬((s.size:Int)=(0:Int)):=h1;refine Yi (fun h3=>?_) (fun h3=>?_)
 .have h3:(s.size:Int)=(32:Int):=h3;exact DC.of_eq (Aa vb (show true=DW s by unfold DW;rw[Av (show ¬s.size=0 by have q:=h1;omega)];rw[As (show s.size=32 by have q:=h3;omega)];rfl))
 have h3:¬((s.size:Int)=(32:Int)):=h3;exact DC.of_eq (Aa vb (show false=DW s by unfold DW;rw[Av (show ¬s.size=0 by have q:=h1;omega)];rw[Av (show ¬s.size=32 by have q:=h3;omega)];rfl))
theorem yL(hs:Ct caps)(l:List (Int))(p:Int->Bool)(hF:∀x∈l,PC fF ([vi x]++caps) (vb (p x)))(hl:l.length<9223372036854775807) :
  PC 255 [sl I9 l,.clo fF caps] (vi (IJ p l 0)):=by
 refine Ps D0 Tryz.func255 rfl (Nz rfl) (Xi {i:Nat // i<=l.length/\∀j (hj:j<l.length),j<i->p l[j]=false} (Xi (fun i=>⟨[(0,sl I9 l),(1,.clo fF caps),(7,vi (l.map I9).length),(8,vi i.1)],[],Ab⟩) (Xi (fun i=>l.length-i.1) (Yi (Xi ⟨0,by simp⟩ ?_) ?_))))
 .exact⟨⟨Zr,⟨rfl,hs.ids _⟩,Zr,Zr,Tv⟩,Tv,Fh,Tv⟩
 .intro⟨i,h1,h2⟩;refine Yi ?_ ?_
  .intro h;have h:(i:Int)<(l.map I9).length:=h;have h:i<l.length:=by simpa using h
   have hg:l[i]?=some l[i]:=Ge h;refine Xi (I9 l[i]) (Yi (Yi (Nn i) (by simp[hg])) (Yi rfl ?_));have BX:∀h,PC fF ([vi l[i]]++caps.map (str0 h)) (vb (p l[i])):=fun h=>by rw[hs.map];exact hF l[i] (Ao _)
   cases hp:p l[i]with
   |true=>
    rw[hp]at BX;refine Xi .pure (Xi (vb true) (Yi (BX _) ?_));rw[J9 h (fun j hj Jy=>h2 j hj Jy) hp,FJ];exact .refl _
   |false=>
    rw[hp]at BX;refine Xi .pure (Xi (vb false) (Yi (BX _) (Yi (Ii i ch) (Xi ⟨i+1,by omega,fun j hj Jy=>?_⟩ ?_))))
    .by_cases e:j=i
     .subst e;exact hp
     .exact h2 j hj ch
    .exact⟨Dl l.length i ch,⟨Zr,⟨rfl,hs.ids _⟩,Zr,Zr,Tv⟩,Tv,Fh,Tv⟩
  .intro h;have h:¬(i:Int)<(l.map I9).length:=h;have h:¬i<l.length:=by simpa using h
   rw[G8 fun j hj=>h2 j hj ch];exact .refl _
theorem yJ(hs:Ct caps)(l:List (Int))(p:Int->Bool)(hF:∀x∈l,PC fF ([vi x]++caps) (vb (p x)))(hl:Cr l) :
  PC 179 [sl I9 l,.clo fF caps] (vb (l.any p)):=by
 refine Ps D0 Tryz.func179 rfl (Nz rfl) ?_;have hi:=yL hs l p hF (by unfold Cr at hl;omega);have BX:∀h,PC 255 [sl I9 l,.clo fF (caps.map (str0 h))] (vi (IJ p l 0)):=fun h=>by rw[hs.map];exact hi
 refine Xi .pure (Xi _ (Yi (BX _) ?_));have ha:=IW (p:=p) l 0 (B6 0);refine Yi ?_ ?_
 .intro h;have h:(0:Int)<=IJ p l 0:=h;rw[<-ha,As h];exact .refl _
 .intro h;have h:¬(0:Int)<=IJ p l 0:=h;rw[<-ha,Av h];exact .refl _
theorem yK(hs:Ct caps)(l:List (Sk))(p:Sk->Bool)(hF:∀x∈l,PC fF ([.agg (Ay x)]++caps) (vb (p x)))(hl:l.length<9223372036854775807) :
  PC 181 [sl Ay l,.clo fF caps] (vi (IJ p l 0)):=by
 refine Ps D0 Tryz.func181 rfl (Nz rfl) (Xi {i:Nat // i<=l.length/\∀j (hj:j<l.length),j<i->p l[j]=false} (Xi (fun i=>⟨[(0,sl Ay l),(1,.clo fF caps),(7,vi (l.map Ay).length),(8,vi i.1)],[],Ab⟩) (Xi (fun i=>l.length-i.1) (Yi (Xi ⟨0,by simp⟩ ?_) ?_))))
 .exact⟨⟨Zr,⟨rfl,hs.ids _⟩,Zr,Zr,Tv⟩,Tv,Fh,Tv⟩
 .intro⟨i,h1,h2⟩;refine Yi ?_ ?_
  .intro h;have h:(i:Int)<(l.map Ay).length:=h;have h:i<l.length:=by simpa using h
   have hg:l[i]?=some l[i]:=Ge h;refine Xi (Ay l[i]) (Yi (Yi (Nn i) (by simp[hg])) (Yi rfl (yN ?_)));have BX:∀h,PC fF ([.agg (Ay l[i])]++caps.map (str0 h)) (vb (p l[i])):=fun h=>by rw[hs.map];exact hF l[i] (Ao _)
   cases hp:p l[i]with
   |true=>
    rw[hp]at BX;refine Xi .pure (Xi (vb true) (Yi (BX _) ?_));rw[J9 h (fun j hj Jy=>h2 j hj Jy) hp,FJ];exact .refl _
   |false=>
    rw[hp]at BX;refine Xi .pure (Xi (vb false) (Yi (BX _) (Yi (Ii i ch) (Xi ⟨i+1,by omega,fun j hj Jy=>?_⟩ ?_))))
    .by_cases e:j=i
     .subst e;exact hp
     .exact h2 j hj ch
    .exact⟨Dl l.length i ch,⟨Zr,⟨rfl,hs.ids _⟩,Zr,Zr,Tv⟩,Tv,Fh,Tv⟩
  .intro h;have h:¬(i:Int)<(l.map Ay).length:=h;have h:¬i<l.length:=by simpa using h
   rw[G8 fun j hj=>h2 j hj ch];exact .refl _
theorem yI(hs:Ct caps)(l:List (Sk))(p:Sk->Bool)(hF:∀x∈l,PC fF ([.agg (Ay x)]++caps) (vb (p x)))(hl:Cr l) :
  PC 104 [sl Ay l,.clo fF caps] (vb (l.any p)):=by
 refine Ps D0 Tryz.func104 rfl (Nz rfl) ?_;have hi:=yK hs l p hF (by unfold Cr at hl;omega);have BX:∀h,PC 181 [sl Ay l,.clo fF (caps.map (str0 h))] (vi (IJ p l 0)):=fun h=>by rw[hs.map];exact hi
 refine Xi .pure (Xi _ (Yi (BX _) ?_));have ha:=IW (p:=p) l 0 (B6 0);refine Yi ?_ ?_
 .intro h;have h:(0:Int)<=IJ p l 0:=h;rw[<-ha,As h];exact .refl _
 .intro h;have h:¬(0:Int)<=IJ p l 0:=h;rw[<-ha,Av h];exact .refl _
theorem DC.fn(f:Nat):DC (.v (.func (.func f) #[] #[])) (.clo f []):=fun _ _ _ _ h=>by cases h;exact .clo _ f [] #[] rfl (fun i av x h=>by cases h)
theorem Ct.nil:Ct []:=fun _ hc=>absurd hc List.not_mem_nil
def Tx(l:List Int):Bool:=decide (p.size<=64)&&!(l.any fun n=>decide (n<0))
theorem ti(n:Int):PC 180 [vi n] (vb (decide (n<0))):=by
 refine Ps D0 Tryz.func180 rfl (Nz rfl) (Yi (fun h1=>?_) (fun h1=>?_))
 .have h1:(n:Int)<(0:Int):=h1;exact DC.of_eq (Aa vb (show true=decide (n<0)from(As h1).symm))
 have h1:¬((n:Int)<(0:Int)):=h1;exact DC.of_eq (Aa vb (show false=decide (n<0)from(Av h1).symm))
theorem m7(l:List Int)(hl:Cr l):PC 179 [sl I9 l,.v (.func (.func 180) #[] #[])] (vb (l.any fun n=>decide (n<0))):=
 (yJ (fF:=180) Ct.nil l (fun n=>decide (n<0)) (fun n _=>ti n) hl).args ⟨.refl _,DC.fn 180,trivial⟩
theorem mg(l:List Int)(hl:Cr l):PC 103 [vs p,sl I9 l] (vb (Tx p l)):=by
 refine Ps D0 Tryz.func103 rfl (Nz rfl) (Yi (fun h1=>?_) (fun h1=>?_))
 .have h1:(p.size:Int)<=(64:Int):=h1;refine Bs (Bt (l.any fun n=>decide (n<0))) (fun h2=>?_) (fun h2=>?_)
  .have h2:(l.any fun n=>decide (n<0))=true:=h2;refine Xi .pure (Xi _ (Yi (cb h2 (m7 l hl)) ?_));exact DC.of_eq (Aa vb (show false=Tx p l by rw[Tx,As (show p.size<=64 by have q:=h1;omega),h2];rfl))
  have h2:(l.any fun n=>decide (n<0))=false:=h2;refine Xi .pure (Xi _ (Yi (cb h2 (m7 l hl)) ?_));exact DC.of_eq (Aa vb (show true=Tx p l by rw[Tx,As (show p.size<=64 by have q:=h1;omega),h2];rfl))
 have h1:¬((p.size:Int)<=(64:Int)):=h1;exact DC.of_eq (Aa vb (show false=Tx p l by rw[Tx,Av (show ¬p.size<=64 by have q:=h1;omega)];rfl))
theorem mZ:Tx s.path [s.place,s.inf]=TE s:=by unfold Tx TE;rw[CN];simp
theorem mY(i:Nf)(h0:¬i.kind<0)(h3:¬3<i.kind):Tx i.path [i.place,i.number,i.left,i.right]=db i:=by unfold Tx db;rw[CN];simp;omega
theorem th:PC 105 [.agg (Ay s)] (vb (!TE s)):=by
 refine Ps (pC [1] []) Tryz.func105 rfl (Nz rfl) (Bs (Bt (Tx s.path [s.place,s.inf])) (fun h1=>?_) (fun h1=>?_))
 .have h1:(Tx s.path [s.place,s.inf])=true:=h1;refine Xi .pure (Xi _ (Yi (cb h1 (show PC 103 [vs s.path,.slice .none [[vi s.place],[vi s.inf]]] (vb (Tx s.path [s.place,s.inf]))from mg s.path [s.place,s.inf] (show 2<=1073741824 by decide))) ?_));exact DC.of_eq (Aa vb (show false=!TE s by rw[<-mZ,h1];rfl))
 have h1:(Tx s.path [s.place,s.inf])=false:=h1;refine Xi .pure (Xi _ (Yi (cb h1 (show PC 103 [vs s.path,.slice .none [[vi s.place],[vi s.inf]]] (vb (Tx s.path [s.place,s.inf]))from mg s.path [s.place,s.inf] (show 2<=1073741824 by decide))) ?_));exact DC.of_eq (Aa vb (show true=!TE s by rw[<-mZ,h1];rfl))
theorem ZO{l:List Sk}:(l.any fun s=>!TE s)=!l.all TE:=List.not_all_eq_any_not.symm
theorem na(l:List Sk)(hl:Cr l):PC 104 [sl Ay l,.v (.func (.func 105) #[] #[])] (vb (l.any fun s=>!TE s)):=
 (yI (fF:=105) Ct.nil l (fun s=>!TE s) (fun s _=>th s) hl).args ⟨.refl _,DC.fn 105,trivial⟩
def NF(l:List Lo)(i:Nat):Bool:=match l[i]? with
 |none=>true
 |some e=>Me e&&(decide (i=0)||EL (l[i-1]?.getD e).path e.path)
section
variable {l:List Lo}{i:Nat}
theorem Hu(h:i<l.length):NF l i=(Me l[i]&&(decide (i=0)||EL (l[i-1]' ch).path l[i].path)):=by
 rw[NF,Ge h];simp only;rw[Ge (show i-1<l.length by omega)];rfl
theorem ZY(h:∀j,j<l.length->NF l j=true):Cq (l.map Dt)=true/\l.all Me=true:=by
 have hk:∀j (hj:j<l.length),Me l[j]=true/\(0<j->EL (l[j-1]' ch).path l[j].path=true):=fun j hj=>by
  have q:=h j hj;rw[Hu hj]at q;obtain⟨q1,q2⟩:=Bool.and_eq_true_iff.1 q;exact⟨q1,fun h0=>by simpa[show j≠0 by omega]using q2⟩
 refine⟨YW ?_,AF.2 fun e he=>?_⟩
 .have go:∀j i (hi:i<l.length) (hj:j<l.length),i<j->EL l[i].path l[j].path=true:=by
   intro j
   induction j with
   |zero=>intro i _ _ h;omega
   |succ j ih=>
    intro i hi hj X3;have q:=(hk (j+1) hj).2 ch
    by_cases e:i=j
    .subst e;exact q
    .exact DG (ih i hi ch ch) q
  show(l.map Dt).Pairwise _;rw[Jk,B1];exact fun i j hi hj X3=>go j i hi hj X3
 .obtain⟨j,hj,rfl⟩:=CF.1 he;exact(hk j hj).1
theorem LO(h:i<l.length)(k:NF l i=false):¬(Cq (l.map Dt)=true/\l.all Me=true):=by
 rintro⟨h1,h2⟩
 have h1:(l.map Dt).Pairwise (fun a b=>EL a.path b.path=true):=(FR h1).1;rw[Hu h,AF.1 h2 _ (Ao h),Bool.true_and]at k;obtain⟨k1,k2⟩:=Bool.or_eq_false_iff.1 k;have k1:i≠0:=of_decide_eq_false k1;rw[Jk,B1]at h1
 have:=h1 (i-1) i ch h ch
 rw[k2]at this;cases this
end
theorem F3{l:Lk}(h:¬(A8 l.roots=0/\l.ents.length<=1024/\l.infs.length<=65536/\l.skips.length<=65536/\(Cq (Gu l)=true/\l.ents.all Me=true)/\l.infs.all db=true/\l.skips.all TE=true)):Fo l=false:=by
 cases e:Fo l with
 |false=>rfl
 |true=>
  refine absurd ?_ h;unfold Fo at e;simp only[Ag,A5]at e;obtain⟨a1,a2,a3,a4,a5,a6,a7,a8⟩:=e;exact⟨a1,a2,a3,a4,⟨a5,a6⟩,a7,a8⟩
theorem WL{l:Lk}(a1:A8 l.roots=0)(a2:l.ents.length<=1024)(a3:l.infs.length<=65536)(a4:l.skips.length<=65536)(a5:Cq (Gu l)=true/\l.ents.all Me=true)(a7:l.infs.all db=true):Fo l=l.skips.all TE:=by
 unfold Fo;rw[As a1,As a2,As a3,As a4,a5.1,a5.2,a7];simp
theorem jo(hp:GB p):PC 66 [vs p] (match Bw p with | none=>.tup [vs ⟨#[]⟩,vi 0,vi 4] | some m=>.tup [vs (gQ p),vi m,vi 0]):=by
 cases e:Bw p with
 |none=>exact Tj.none hp e
 |some m=>exact Tj.some hp e
theorem jn(pS:∀q∈l.roots,KL q)(wy:∀e∈l.ents,GB e.path)(pN:l.ents.length<=1000000)(tR:l.infs.length<=1000000)(X4:l.skips.length<=1000000):PC 48 [.agg (Dj l)] (vb (Fo l)):=by
 refine Ps (pC [1] [10,16]) Tryz.func48 rfl (Nz rfl) (Xi .pure (Xi _ (Yi (tA Tj l.roots pS) (Yi (fun h1=>?_) (fun h1=>?_)))))
 .have h1:((A8 l.roots):Int)≠(0:Int):=h1;exact DC.of_eq (Aa vb (F3 (fun c=>h1 c.1)).symm)
 have h1:((A8 l.roots):Int)=(0:Int):=AP h1;refine Yi (fun h3=>?_) (fun h3=>?_)
 .have h3:(1024:Int)<((l.ents.map A3).length:Int):=h3;have n3:1024<l.ents.length:=by have q:=h3;rw[Lm]at q;omega
  exact DC.of_eq (Aa vb (F3 (fun c=>absurd c.2.1 (by have q:=h3;rw[Lm]at q;omega))).symm)
 have h3:¬((1024:Int)<((l.ents.map A3).length:Int)):=h3;have n3:¬1024<l.ents.length:=by have q:=h3;rw[Lm]at q;omega
 refine Yi (fun h5=>?_) (fun h5=>?_)
 .have h5:(65536:Int)<((l.infs.map AG).length:Int):=h5;have n5:65536<l.infs.length:=by have q:=h5;rw[Lm]at q;omega
  exact DC.of_eq (Aa vb (F3 (fun c=>absurd c.2.2.1 (by have q:=h5;rw[Lm]at q;omega))).symm)
 have h5:¬((65536:Int)<((l.infs.map AG).length:Int)):=h5;have n5:¬65536<l.infs.length:=by have q:=h5;rw[Lm]at q;omega
 refine Yi (fun h7=>?_) (fun h7=>?_)
 .have h7:(65536:Int)<((l.skips.map Ay).length:Int):=h7;have n7:65536<l.skips.length:=by have q:=h7;rw[Lm]at q;omega
  exact DC.of_eq (Aa vb (F3 (fun c=>absurd c.2.2.2.1 (by have q:=h7;rw[Lm]at q;omega))).symm)
 have h7:¬((65536:Int)<((l.skips.map Ay).length:Int)):=h7;have n7:¬65536<l.skips.length:=by have q:=h7;rw[Lm]at q;omega
 refine Xi {q:Nat // q<=l.ents.length/\∀j,j<q->NF l.ents j=true} (Xi (fun q=>⟨[(1,.ref 1 0),(33,sl A3 l.ents),(34,vi (l.ents.map A3).length),(35,vi q.1)],[(1,.ro (Dj l))],Ab⟩) (Xi (fun q=>l.ents.length-q.1) (Yi (Xi ⟨0,Ar _,fun j h=>absurd h (Dn _)⟩ ?_) ?_)))
 .exact⟨Z4,Z1,Fh,Tv⟩
 intro⟨i,i1,i2⟩;have i1:i<=l.ents.length:=i1;have i2:∀j,j<i->NF l.ents j=true:=i2;refine Yi (fun h9=>?_) (fun h9=>?_)
 .have h9:(i:Int)<((l.ents.map A3).length:Int):=h9;have n9:=Jb h9;refine Xi (A3 l.ents[i]) (Yi (N0 n9) (Yi rfl (yN (yN (Bs (Uv (Bw l.ents[i].path)) (fun NT=>?_) (fun NT=>?_))))))
  .refine AJ NT (fun mj NT=>?_);have gi:=(jo l.ents[i].path (wy _ (Ao n9)));rw[NT]at gi;refine Xi .pure (Xi _ (Yi gi (Yi (fun h=>absurd h Wk) (fun _=>?_))));refine yN (Bs (Bt (Cf l.ents[i].ver)) (fun HI=>?_) (fun HI=>?_))
   .have HI:(Cf l.ents[i].ver)=true:=HI;refine Xi _ (Yi (cb HI (jS l.ents[i].ver)) (Yi (fun VZ=>?_) (fun VZ=>?_)))
    .have VZ:(l.ents[i].ver.a:Int)≠(mj:Int):=VZ;refine Yi aa0 ?_;have eK:NF l.ents i=false:=by rw[Hu n9,Me,show Bw l.ents[i].path=some mj from NT,Av (fun e=>VZ (EU e).symm)];rfl
     exact DC.of_eq (Aa vb (F3 (fun c=>LO n9 eK c.2.2.2.2.1)).symm)
    have VZ:(l.ents[i].ver.a:Int)=(mj:Int):=AP VZ;refine Bs (Bt (DW l.ents[i].arch)) (fun Jx=>?_) (fun Jx=>?_)
    .have Jx:(DW l.ents[i].arch)=true:=Jx;refine Xi _ (Yi (cb Jx (mf l.ents[i].arch)) (Bs (Bt (DW l.ents[i].ifc)) (fun WS=>?_) (fun WS=>?_)))
     .have WS:(DW l.ents[i].ifc)=true:=WS;refine Xi _ (Yi (cb WS (mf l.ents[i].ifc)) (Yi (fun qT=>?_) (fun qT=>?_)))
      .have qT:(0:Int)<(i:Int):=qT;refine Yi (by show AQ ((i:Int)-(1:Int));unfold AQ;omega) (Xi (A3 (l.ents[i-1]' ch)) (Yi (Yi (show(0:Int)<=(i:Int)-1 by omega) (by rw[show((i:Int)-1).toNat=i-1 by omega];exact EE (Ge ch))) (Yi rfl ?_)));refine Yi (fun MR=>?_) (fun MR=>?_)
       .have MR:EL (l.ents[i-1]' ch).path l.ents[i].path=false:=(Gg _ _).trans MR;refine Yi aa0 ?_;have eK:NF l.ents i=false:=by rw[Hu n9,Me,show Bw l.ents[i].path=some mj from NT,As (Aa some (show mj=l.ents[i].ver.a from VZ.symm)),HI,Jx,WS,Av (show ¬i=0 by omega),MR];rfl
        exact DC.of_eq (Aa vb (F3 (fun c=>LO n9 eK c.2.2.2.2.1)).symm)
       have MR:EL (l.ents[i-1]' ch).path l.ents[i].path=true:=(Gg _ _).trans (by simpa using MR);refine Yi aa0 (Yi (Ii i ch) ?_);have eK:NF l.ents i=true:=by rw[Hu n9,Me,show Bw l.ents[i].path=some mj from NT,As (Aa some (show mj=l.ents[i].ver.a from VZ.symm)),HI,Jx,WS,Av (show ¬i=0 by omega),MR];rfl
       refine Xi ⟨i+1,n9,fun j h=>by rcases E4 j i with h2 | h2;exact i2 j h2;have e:j=i:=ch;subst e;exact eK⟩ ?_;exact⟨Dl l.ents.length i ch,Z4,Z1,Fh,Tv⟩
      have qT:¬((0:Int)<(i:Int)):=qT;refine Yi aa0 (Yi (Ii i ch) ?_);have eK:NF l.ents i=true:=by rw[Hu n9,Me,show Bw l.ents[i].path=some mj from NT,As (Aa some (show mj=l.ents[i].ver.a from VZ.symm)),HI,Jx,WS,As (show i=0 by omega)];rfl
      refine Xi ⟨i+1,n9,fun j h=>by rcases E4 j i with h2 | h2;exact i2 j h2;have e:j=i:=ch;subst e;exact eK⟩ ?_;exact⟨Dl l.ents.length i ch,Z4,Z1,Fh,Tv⟩
     have WS:(DW l.ents[i].ifc)=false:=WS;refine Xi _ (Yi (cb WS (mf l.ents[i].ifc)) (Yi aa0 ?_));have eK:NF l.ents i=false:=by rw[Hu n9,Me,show Bw l.ents[i].path=some mj from NT,As (Aa some (show mj=l.ents[i].ver.a from VZ.symm)),HI,Jx,WS];rfl
     exact DC.of_eq (Aa vb (F3 (fun c=>LO n9 eK c.2.2.2.2.1)).symm)
    have Jx:(DW l.ents[i].arch)=false:=Jx;refine Xi _ (Yi (cb Jx (mf l.ents[i].arch)) (Yi aa0 ?_));have eK:NF l.ents i=false:=by rw[Hu n9,Me,show Bw l.ents[i].path=some mj from NT,As (Aa some (show mj=l.ents[i].ver.a from VZ.symm)),HI,Jx];rfl
    exact DC.of_eq (Aa vb (F3 (fun c=>LO n9 eK c.2.2.2.2.1)).symm)
   have HI:(Cf l.ents[i].ver)=false:=HI;refine Xi _ (Yi (cb HI (jS l.ents[i].ver)) (Yi aa0 ?_));have eK:NF l.ents i=false:=by rw[Hu n9,Me,HI];simp
   exact DC.of_eq (Aa vb (F3 (fun c=>LO n9 eK c.2.2.2.2.1)).symm)
  have gi:=(jo l.ents[i].path (wy _ (Ao n9)));rw[NT]at gi;refine Xi .pure (Xi _ (Yi gi (Yi (fun _=>?_) (fun h=>absurd Wk h))));refine Yi aa0 ?_;have eK:NF l.ents i=false:=by rw[Hu n9,Me,show Bw l.ents[i].path=none from NT];rfl
  exact DC.of_eq (Aa vb (F3 (fun c=>LO n9 eK c.2.2.2.2.1)).symm)
 have h9:¬((i:Int)<((l.ents.map A3).length:Int)):=h9;have n9:=FS h9;refine cU [(1,.ref 1 0)] [(1,.ro (Dj l))] Z1 Z1 (Xi {q:Nat // q<=l.infs.length/\∀j (h:j<l.infs.length),j<q->db l.infs[j]=true} (Xi (fun q=>⟨[(1,.ref 1 0),(92,sl AG l.infs),(93,vi (l.infs.map AG).length),(94,vi q.1)],[(1,.ro (Dj l))],Ab⟩) (Xi (fun q=>l.infs.length-q.1) (Yi (Xi ⟨0,Ar _,fun j _ h=>absurd h (Dn _)⟩ ?_) ?_))))
 .exact⟨Z4,Z1,Fh,Tv⟩
 intro⟨k,k1,k2⟩;have k1:k<=l.infs.length:=k1;have k2:∀j (h:j<l.infs.length),j<k->db l.infs[j]=true:=k2;refine Yi (fun kn=>?_) (fun kn=>?_)
 .have kn:(k:Int)<((l.infs.map AG).length:Int):=kn;have n25:=Jb kn;refine Xi (AG l.infs[k]) (Yi (N0 n25) (Yi rfl (yN (yN (Yi (fun Tp=>?_) (fun Tp=>?_))))))
  .have Tp:(l.infs[k].kind:Int)<(0:Int):=Tp;have eN:db l.infs[k]=false:=by unfold db;exact Av (fun c=>absurd c.1 (by have q:=Tp;omega))
   exact DC.of_eq (Aa vb (F3 (fun c=>by have q:=AF.1 c.2.2.2.2.2.1 _ (Ao n25);rw[eN]at q;cases q)).symm)
  have Tp:¬((l.infs[k].kind:Int)<(0:Int)):=Tp;refine Yi (fun mu=>?_) (fun mu=>?_)
  .have mu:(3:Int)<(l.infs[k].kind:Int):=mu;have eN:db l.infs[k]=false:=by unfold db;exact Av (fun c=>absurd c.2.1 (by have q:=mu;omega))
   exact DC.of_eq (Aa vb (F3 (fun c=>by have q:=AF.1 c.2.2.2.2.2.1 _ (Ao n25);rw[eN]at q;cases q)).symm)
  have mu:¬((3:Int)<(l.infs[k].kind:Int)):=mu;refine Bs (Bt (Tx l.infs[k].path [l.infs[k].place,l.infs[k].number,l.infs[k].left,l.infs[k].right])) (fun YM=>?_) (fun YM=>?_)
  .have YM:(Tx l.infs[k].path [l.infs[k].place,l.infs[k].number,l.infs[k].left,l.infs[k].right])=true:=YM;refine Xi .pure (Xi _ (Yi (cb YM (show PC 103 [vs l.infs[k].path,.slice .none [[vi l.infs[k].place],[vi l.infs[k].number],[vi l.infs[k].left],[vi l.infs[k].right]]] (vb (Tx l.infs[k].path [l.infs[k].place,l.infs[k].number,l.infs[k].left,l.infs[k].right]))from mg l.infs[k].path [l.infs[k].place,l.infs[k].number,l.infs[k].left,l.infs[k].right] (show 4<=1073741824 by decide))) (Yi (Ii k ch) ?_)));have eN:db l.infs[k]=true:=(mY l.infs[k] Tp mu).symm.trans YM;refine Xi ⟨k+1,n25,fun j hj h=>by rcases E4 j k with h2 | h2;exact k2 j hj h2;have e:j=k:=ch;subst e;exact eN⟩ ?_;exact⟨Dl l.infs.length k ch,Z4,Z1,Fh,Tv⟩
  have YM:(Tx l.infs[k].path [l.infs[k].place,l.infs[k].number,l.infs[k].left,l.infs[k].right])=false:=YM;refine Xi .pure (Xi _ (Yi (cb YM (show PC 103 [vs l.infs[k].path,.slice .none [[vi l.infs[k].place],[vi l.infs[k].number],[vi l.infs[k].left],[vi l.infs[k].right]]] (vb (Tx l.infs[k].path [l.infs[k].place,l.infs[k].number,l.infs[k].left,l.infs[k].right]))from mg l.infs[k].path [l.infs[k].place,l.infs[k].number,l.infs[k].left,l.infs[k].right] (show 4<=1073741824 by decide))) ?_));have eN:db l.infs[k]=false:=(mY l.infs[k] Tp mu).symm.trans YM;exact DC.of_eq (Aa vb (F3 (fun c=>by have q:=AF.1 c.2.2.2.2.2.1 _ (Ao n25);rw[eN]at q;cases q)).symm)
 have kn:¬((k:Int)<((l.infs.map AG).length:Int)):=kn;have n25:=FS kn;refine cU [(1,.ref 1 0)] [(1,.ro (Dj l))] Z1 Z1 (Bs (Bt (l.skips.any fun s=>!TE s)) (fun ko=>?_) (fun ko=>?_))
 .have ko:(l.skips.any fun s=>!TE s)=true:=ko;refine Xi .pure (Xi _ (Yi (cb ko (na l.skips (AH X4 Wk))) ?_));have eF:Fo l=l.skips.all TE:=WL h1 (by have q:=h3;rw[Lm]at q;omega) (by have q:=h5;rw[Lm]at q;omega) (by have q:=h7;rw[Lm]at q;omega) (ZY fun j hj=>i2 j (AR hj (Cj (FS h9)))) (AF.2 fun z hz=>by obtain⟨j,hj,rfl⟩:=CF.1 hz;exact k2 j hj (AR hj (Cj (FS kn))));have eS:(l.skips.any fun s=>!TE s)=true:=ko;rw[ZO]at eS;exact DC.of_eq (Aa vb (show false=Fo l by rw[eF,<-Bool.not_not (l.skips.all TE),eS];rfl))
 have ko:(l.skips.any fun s=>!TE s)=false:=ko;refine Xi .pure (Xi _ (Yi (cb ko (na l.skips (AH X4 Wk))) ?_));have eF:Fo l=l.skips.all TE:=WL h1 (by have q:=h3;rw[Lm]at q;omega) (by have q:=h5;rw[Lm]at q;omega) (by have q:=h7;rw[Lm]at q;omega) (ZY fun j hj=>i2 j (AR hj (Cj (FS h9)))) (AF.2 fun z hz=>by obtain⟨j,hj,rfl⟩:=CF.1 hz;exact k2 j hj (AR hj (Cj (FS kn))));have eS:(l.skips.any fun s=>!TE s)=false:=ko;rw[ZO]at eS;exact DC.of_eq (Aa vb (show true=Fo l by rw[eF,<-Bool.not_not (l.skips.all TE),eS];rfl))
abbrev zrR:Rl:=⟨⟨#[]⟩,⟨0,0,0⟩,[],⟨#[]⟩,⟨#[]⟩,⟨#[]⟩,false⟩
def LA(x:List Rl)(e:Lo):Rl:=(Bg x (Dt e)).getD zrR
theorem pm{e:Lo}{r:Rl}(h:Bg x (Dt e)=some r):LA x e=r:=by rw[LA,h];rfl
theorem m6{l:List Lo}(h:k<l.length):(0:Int)<=(k:Int)/\((l.map (LA x)).map Al)[((k:Nat):Int).toNat]?=some (Al (LA x l[k])):=by
 have q:=N0 (f:=Al) (l:=l.map (LA x)) (i:=k) (by rw[Lm];exact h);rw[List.getElem_map]at q;exact q
theorem lM{l:List Lo}(h:i<l.length):(l.take (i+1)).map (LA x)=(l.take i).map (LA x)++[LA x l[i]]:=by rw[D5 h,Bm];rfl
section
variable {x:List Rl}{l:Lk}
theorem td(h:¬(AC x=0/\Fo l=true)):1=LF x l:=by
 unfold LF;rw[A1]
 by_cases h1:AC x=0
 .right;cases e:Fo l with
  |false=>rfl
  |true=>exact absurd ⟨h1,e⟩ h
 .exact .inl h1
theorem yH(h1:AC x=0)(h2:Fo l=true)(hi:i<l.ents.length)(h:Bg x (Dt l.ents[i])=none):6=LF x l:=by
 unfold LF;rw[AO (by rw[h2];simp[h1]),A1];refine List.all_eq_false.2 ⟨_,Ao hi,?_⟩;rw[h];decide
theorem jk(h:∀j (hj:j<l.ents.length),(Bg x (Dt l.ents[j])).isSome=true):l.ents.all (fun e=>(Bg x (Dt e)).isSome)=true:=AF.2 fun e he=>by
 obtain⟨j,hj,rfl⟩:=CF.1 he;exact h j hj
theorem eI{e:Lo}(h:(Bg x (Dt e)).isSome=true):H2 x e=(decide (e.arch=(LA x e).arch)&&decide (e.ifc=(LA x e).ifc)):=by
 unfold H2 LA;cases q:Bg x (Dt e)with
 |none=>rw[q]at h;cases h
 |some r=>rfl
theorem te(h1:AC x=0)(h2:Fo l=true)(h3:∀j (hj:j<l.ents.length),(Bg x (Dt l.ents[j])).isSome=true)(hk:k<l.ents.length)(h:H2 x l.ents[k]=false):9=LF x l:=by
 unfold LF;rw[AO (by rw[h2];simp[h1]),AO (by rw[jk h3];decide),A1];exact List.all_eq_false.2 ⟨_,Ao hk,by rw[h];decide⟩
theorem tc(h1:AC x=0)(h2:Fo l=true)(h3:∀j (hj:j<l.ents.length),(Bg x (Dt l.ents[j])).isSome=true)(h:∀k (hk:k<l.ents.length),H2 x l.ents[k]=true):LF x l=if Fe x l.roots (Ks l)≠0 then 18 else 0:=by
 unfold LF;rw[AO (by rw[h2];simp[h1]),AO (by rw[jk h3];decide),AO];rw[AF.2 fun e he=>by obtain⟨j,hj,rfl⟩:=CF.1 he;exact h j hj];decide
end
theorem tn(x:List Rl)(ifs:List (List AV))(l:Lk)(_:∀r∈x,Ir r)(_:Cr x)(h47:PC 47 [.agg (Ic x ifs)] (vi (AC x)))(tD:∀p v,PC 40 [.agg (Ic x ifs),vs p,.agg (Gi v)] (Mx (Bg x ⟨p,v⟩)))(yY:PC 48 [.agg (Dj l)] (vb (Fo l)))(h49:PC 49 [.agg (Ic x ifs),sl Ac l.roots,.agg [vb true,sl Ah (Gu l),sl AG l.infs,sl Ay l.skips]] (vi (Fe x l.roots (Ks l))))(pN:l.ents.length<=1000000):PC 18 [.agg (Ic x ifs),.agg (Dj l)] (vi (LF x l)):=by
 refine Ps (pT [2,3] [(5,9)] [12]) Tryz.func18 rfl (Nz rfl) (yN (Xi .pure (Xi _ (Yi h47 (Yi (fun h1=>?_) (fun h1=>?_))))))
 .have h1:((AC x):Int)≠(0:Int):=h1;exact DC.of_eq (Aa vi (td (fun c=>h1 c.1)))
 have h1:((AC x):Int)=(0:Int):=AP h1;refine yN (Bs (Bt (Fo l)) (fun h3=>?_) (fun h3=>?_))
 .have h3:(Fo l)=true:=h3;refine Xi .pure (Xi _ (Yi (cb h3 yY) (Xi {q:Nat // q<=l.ents.length/\(∀j (hj:j<l.ents.length),j<q->(Bg x (Dt l.ents[j])).isSome=true)} (Xi (fun q=>⟨[(2,.ref 2 0),(3,.ref 3 0),(5,.slice (.id 5 9) (((l.ents.take q.1).map (LA x)).map Al)),(21,sl A3 l.ents),(22,vi (l.ents.map A3).length),(23,vi q.1)],[(2,.ro (Ic x ifs)),(3,.ro (Dj l)),(5,.tok 9 ((l.ents.take q.1).map (LA x)).length)],Ab⟩) (Xi (fun q=>l.ents.length-q.1) (Yi (Xi ⟨0,Ar _,fun j _ h=>absurd h (Dn _)⟩ ?_) ?_))))))
  .exact⟨Z6,Z3,Fh,Tv⟩
  intro⟨i,i1,i2⟩;have i1:i<=l.ents.length:=i1;have i2:∀j (hj:j<l.ents.length),j<i->(Bg x (Dt l.ents[j])).isSome=true:=i2;have hT:((l.ents.take i).map (LA x)).length<=1000000:=(by rw[Lm,CB];omega);refine Yi (fun h4=>?_) (fun h4=>?_)
  .have h4:(i:Int)<((l.ents.map A3).length:Int):=h4;have n4:=Jb h4;refine Xi (A3 l.ents[i]) (Yi (N0 n4) (Yi rfl (yN (yN (yN (yN (Bs (Uv (Bg x ⟨l.ents[i].path,l.ents[i].ver⟩)) (fun h5=>?_) (fun h5=>?_))))))))
   .refine AJ h5 (fun r h5=>?_);have gj:=(tD l.ents[i].path l.ents[i].ver);rw[h5]at gj;refine Xi .pure (Xi _ (Yi gj (yN (yN (Yi (X2 rfl (show((l.ents.take i).map (LA x)).length<=2147483647 by omega) Wk) (Yi (Ii i ch) ?_))))));have er:((l.ents.take i).map (LA x))++[r]=((l.ents.take (i+1)).map (LA x)):=by rw[lM n4,pm h5]
    refine Xi ⟨i+1,n4,fun j hj h=>by rcases E4 j i with h2 | h2;exact i2 j hj h2;have e:j=i:=ch;subst e;rw[h5];rfl⟩ ?_;exact⟨Dl l.ents.length i ch,⟨Zr,Zr,⟨(show AV.slice (.id 5 9) ((((l.ents.take i).map (LA x)).map Al)++[(Al r)])=.slice (.id 5 9) (((l.ents.take (i+1)).map (LA x)).map Al) by rw[<-er,Bm];rfl),rfl⟩,Zr,Zr,Zr,Tv⟩,⟨Zr,Zr,⟨(show HO.tok 9 ((((l.ents.take i).map (LA x)).map Al).length+([(Al r)]:List (List AV)).length)=.tok 9 ((l.ents.take (i+1)).map (LA x)).length by rw[<-er];simp),rfl⟩,Tv⟩,Fh,Tv⟩
   have gj:=(tD l.ents[i].path l.ents[i].ver);rw[h5]at gj;refine Xi .pure (Xi _ (Yi gj (yN ?_)));exact DC.of_eq (Aa vi (yH h1 h3 n4 h5))
  have h4:¬((i:Int)<((l.ents.map A3).length:Int)):=h4;have n4:=FS h4;have ei:l.ents.take i=l.ents:=Bd (Cj (FS h4));have i3:∀j (hj:j<l.ents.length),(Bg x (Dt l.ents[j])).isSome=true:=fun j hj=>i2 j hj (AR hj (Cj (FS h4)));refine cU [(2,.ref 2 0),(3,.ref 3 0),(5,.slice (.id 5 9) ((l.ents.map (LA x)).map Al))] [(2,.ro (Ic x ifs)),(3,.ro (Dj l)),(5,.tok 9 (l.ents.map (LA x)).length)] ⟨Zr,Zr,⟨(show AV.slice (.id 5 9) (((l.ents.take i).map (LA x)).map Al)=AV.slice (.id 5 9) ((l.ents.map (LA x)).map Al) by rw[ei]),rfl⟩,Tv⟩ ⟨Zr,Zr,⟨(show HO.tok 9 ((l.ents.take i).map (LA x)).length=HO.tok 9 (l.ents.map (LA x)).length by rw[ei]),rfl⟩,Tv⟩ ?_
  refine Xi {q:Nat // q<=l.ents.length/\(∀j (hj:j<l.ents.length),j<q->H2 x l.ents[j]=true)} (Xi (fun q=>⟨[(2,.ref 2 0),(3,.ref 3 0),(5,.slice (.id 5 9) ((l.ents.map (LA x)).map Al)),(44,sl A3 l.ents),(45,vi (l.ents.map A3).length),(46,vi q.1)],[(2,.ro (Ic x ifs)),(3,.ro (Dj l)),(5,.tok 9 (l.ents.map (LA x)).length)],Ab⟩) (Xi (fun q=>l.ents.length-q.1) (Yi (Xi ⟨0,Ar _,fun j _ h=>absurd h (Dn _)⟩ ?_) ?_)))
  .exact⟨Z6,Z3,Fh,Tv⟩
  intro⟨k,k1,k2⟩;have k1:k<=l.ents.length:=k1;have k2:∀j (hj:j<l.ents.length),j<k->H2 x l.ents[j]=true:=k2;refine Yi (fun h9=>?_) (fun h9=>?_)
  .have h9:(k:Int)<((l.ents.map A3).length:Int):=h9;have n9:=Jb h9;refine Xi (A3 l.ents[k]) (Yi (N0 n9) (Yi rfl (yN (yN (Xi (Al (LA x l.ents[k])) (Yi (m6 n9) (Yi rfl (Yi (fun HI=>?_) (fun HI=>?_)))))))))
   .have HI:(l.ents[k].arch:ByteArray)≠(LA x l.ents[k]).arch:=HI;refine Yi aa0 ?_;have eA:H2 x l.ents[k]=false:=by rw[eI (i3 k n9),Av HI];rfl
    exact DC.of_eq (Aa vi (te h1 h3 i3 n9 eA))
   have HI:(l.ents[k].arch:ByteArray)=(LA x l.ents[k]).arch:=AP HI;refine Xi (Al (LA x l.ents[k])) (Yi (m6 n9) (Yi rfl (Yi (fun Jx=>?_) (fun Jx=>?_))))
   .have Jx:(l.ents[k].ifc:ByteArray)≠(LA x l.ents[k]).ifc:=Jx;refine Yi aa0 ?_;have eA:H2 x l.ents[k]=false:=by rw[eI (i3 k n9),As HI,Av Jx];rfl
    exact DC.of_eq (Aa vi (te h1 h3 i3 n9 eA))
   have Jx:(l.ents[k].ifc:ByteArray)=(LA x l.ents[k]).ifc:=AP Jx;refine Yi aa0 (Yi (Ii k ch) ?_);have eA:H2 x l.ents[k]=true:=by rw[eI (i3 k n9),As HI,As Jx];rfl
   refine Xi ⟨k+1,n9,fun j hj h=>by rcases E4 j k with h2 | h2;exact k2 j hj h2;have e:j=k:=ch;subst e;exact eA⟩ ?_;exact⟨Dl l.ents.length k ch,Z6,Z3,Fh,Tv⟩
  have h9:¬((k:Int)<((l.ents.map A3).length:Int)):=h9;have n9:=FS h9;refine yN (yN (Xi _ (Yi (tf l pN) (Xi _ (Yi h49 (Yi (fun MR=>?_) (fun MR=>?_)))))))
  .have MR:((Fe x l.roots (Ks l)):Int)≠(0:Int):=MR;refine Yi aa0 ?_;exact DC.of_eq (Aa vi (show 18=LF x l by rw[tc h1 h3 i3 (fun j hj=>k2 j hj (AR hj (Cj (FS h9)))),A1 MR]))
  have MR:((Fe x l.roots (Ks l)):Int)=(0:Int):=AP MR;refine Yi aa0 ?_;exact DC.of_eq (Aa vi (show 0=LF x l by rw[tc h1 h3 i3 (fun j hj=>k2 j hj (AR hj (Cj (FS h9)))),AO (fun h=>h MR)]))
 have h3:(Fo l)=false:=h3;refine Xi .pure (Xi _ (Yi (cb h3 yY) ?_));exact DC.of_eq (Aa vi (td (fun c=>by have q:=h3;rw[c.2]at q;cases q)))
theorem UX{l:List α}(h:∀j (hj:j<l.length),f l[j]=true):l.all f=true:=AF.2 fun e he=>by
 obtain⟨j,hj,rfl⟩:=CF.1 he;exact h j hj
theorem N9{l:List α}{j:Nat}(hj:j<l.length)(h:f l[j]=false):¬l.all f=true:=fun c=>by
 have q:=AF.1 c _ (Ao hj);rw[h]at q;cases q
def YB:Bool:=decide (e.path.size<=100/\e.arch.size<=100/\e.ifc.size<=100)
def oX(i:Nf):Bool:=decide (i.path.size<=100)
def ZA:Bool:=decide (s.path.size<=100)
structure HY(l:Lk):Prop where
 en:l.ents.all YB=true
 nf:l.infs.all oX=true
 sk:l.skips.all ZA=true
 rq:CE l.roots=true
 el:l.ents.length<=16
 il:l.infs.length<=300
 kl:l.skips.length<=100
open Classical in
noncomputable def KY:Bool:=decide (HY l)
open Classical in
theorem J3{l:Lk}(h:¬HY l):false=KY l:=by unfold KY;exact(Av h).symm
open Classical in
theorem kd{l:Lk}(h:HY l):true=KY l:=by unfold KY;exact(As h).symm
theorem m8(pN:l.ents.length<=1073741824)(tR:l.infs.length<=1073741824)(X4:l.skips.length<=1073741824)(hrl:l.roots.length<=1073741824):PC 17 [.agg (Dj l)] (vb (KY l)):=by
 refine Ps (pC [1] [6,11,16]) Tryz.func17 rfl (Nz rfl) (Xi {q:Nat // q<=l.ents.length/\∀j (h:j<l.ents.length),j<q->YB l.ents[j]=true} (Xi (fun q=>⟨[(1,.ref 1 0),(3,vi q.1)],[(1,.ro (Dj l))],Ab⟩) (Xi (fun q=>l.ents.length-q.1) (Yi (Xi ⟨0,Ar _,fun j _ h=>absurd h (Dn _)⟩ ?_) ?_))))
 .exact⟨Z2,Z1,Fh,Tv⟩
 intro⟨i,i1,i2⟩;have i1:i<=l.ents.length:=i1;have i2:∀j (h:j<l.ents.length),j<i->YB l.ents[j]=true:=i2;refine Yi (fun h1=>?_) (fun h1=>?_)
 .have h1:(i:Int)<((l.ents.map A3).length:Int):=h1;have n1:=Jb h1;refine Xi (A3 l.ents[i]) (Yi (N0 n1) (Yi rfl (Yi (fun h2=>?_) (fun h2=>?_))))
  .have h2:(100:Int)<(l.ents[i].path.size:Int):=h2;have eV:YB l.ents[i]=false:=by unfold YB;exact Av (fun c=>by have q:=h2;omega)
   exact DC.of_eq (Aa vb (J3 (fun c=>N9 n1 eV c.en)))
  have h2:¬((100:Int)<(l.ents[i].path.size:Int)):=h2;refine Xi (A3 l.ents[i]) (Yi (N0 n1) (Yi rfl (Yi (fun h4=>?_) (fun h4=>?_))))
  .have h4:(100:Int)<(l.ents[i].arch.size:Int):=h4;have eV:YB l.ents[i]=false:=by unfold YB;exact Av (fun c=>by have q:=h4;omega)
   exact DC.of_eq (Aa vb (J3 (fun c=>N9 n1 eV c.en)))
  have h4:¬((100:Int)<(l.ents[i].arch.size:Int)):=h4;refine Xi (A3 l.ents[i]) (Yi (N0 n1) (Yi rfl (Yi (fun h6=>?_) (fun h6=>?_))))
  .have h6:(100:Int)<(l.ents[i].ifc.size:Int):=h6;have eV:YB l.ents[i]=false:=by unfold YB;exact Av (fun c=>by have q:=h6;omega)
   exact DC.of_eq (Aa vb (J3 (fun c=>N9 n1 eV c.en)))
  have h6:¬((100:Int)<(l.ents[i].ifc.size:Int)):=h6;refine Yi (Ii i ch) ?_;have eV:YB l.ents[i]=true:=by unfold YB;exact As (by have q0:=h2;have q1:=h4;have q2:=h6;omega)
  refine Xi ⟨i+1,n1,fun j hj h=>by rcases E4 j i with h2 | h2;exact i2 j hj h2;have e:j=i:=ch;subst e;exact eV⟩ ?_;exact⟨Dl l.ents.length i ch,Z2,Z1,Fh,Tv⟩
 have h1:¬((i:Int)<((l.ents.map A3).length:Int)):=h1;have n1:=FS h1;refine cU [(1,.ref 1 0)] [(1,.ro (Dj l))] Z1 Z1 (Xi {q:Nat // q<=l.infs.length/\∀j (h:j<l.infs.length),j<q->oX l.infs[j]=true} (Xi (fun q=>⟨[(1,.ref 1 0),(4,vi q.1)],[(1,.ro (Dj l))],Ab⟩) (Xi (fun q=>l.infs.length-q.1) (Yi (Xi ⟨0,Ar _,fun j _ h=>absurd h (Dn _)⟩ ?_) ?_))))
 .exact⟨Z2,Z1,Fh,Tv⟩
 intro⟨k,k1,k2⟩;have k1:k<=l.infs.length:=k1;have k2:∀j (h:j<l.infs.length),j<k->oX l.infs[j]=true:=k2;refine Yi (fun h9=>?_) (fun h9=>?_)
 .have h9:(k:Int)<((l.infs.map AG).length:Int):=h9;have n9:=Jb h9;refine Xi (AG l.infs[k]) (Yi (N0 n9) (Yi rfl (Yi (fun NT=>?_) (fun NT=>?_))))
  .have NT:(100:Int)<(l.infs[k].path.size:Int):=NT;have eV:oX l.infs[k]=false:=by unfold oX;exact Av (fun c=>by have q:=NT;omega)
   exact DC.of_eq (Aa vb (J3 (fun c=>N9 n9 eV c.nf)))
  have NT:¬((100:Int)<(l.infs[k].path.size:Int)):=NT;refine Yi (Ii k ch) ?_;have eV:oX l.infs[k]=true:=by unfold oX;exact As (by have q0:=NT;omega)
  refine Xi ⟨k+1,n9,fun j hj h=>by rcases E4 j k with h2 | h2;exact k2 j hj h2;have e:j=k:=ch;subst e;exact eV⟩ ?_;exact⟨Dl l.infs.length k ch,Z2,Z1,Fh,Tv⟩
 have h9:¬((k:Int)<((l.infs.map AG).length:Int)):=h9;have n9:=FS h9;refine cU [(1,.ref 1 0)] [(1,.ro (Dj l))] Z1 Z1 (Xi {q:Nat // q<=l.skips.length/\∀j (h:j<l.skips.length),j<q->ZA l.skips[j]=true} (Xi (fun q=>⟨[(1,.ref 1 0),(5,vi q.1)],[(1,.ro (Dj l))],Ab⟩) (Xi (fun q=>l.skips.length-q.1) (Yi (Xi ⟨0,Ar _,fun j _ h=>absurd h (Dn _)⟩ ?_) ?_))))
 .exact⟨Z2,Z1,Fh,Tv⟩
 intro⟨m,m1,m2⟩;have m1:m<=l.skips.length:=m1;have m2:∀j (h:j<l.skips.length),j<m->ZA l.skips[j]=true:=m2;refine Yi (fun af=>?_) (fun af=>?_)
 .have af:(m:Int)<((l.skips.map Ay).length:Int):=af;have n13:=Jb af;refine Xi (Ay l.skips[m]) (Yi (N0 n13) (Yi rfl (Yi (fun Jx=>?_) (fun Jx=>?_))))
  .have Jx:(100:Int)<(l.skips[m].path.size:Int):=Jx;have eV:ZA l.skips[m]=false:=by unfold ZA;exact Av (fun c=>by have q:=Jx;omega)
   exact DC.of_eq (Aa vb (J3 (fun c=>N9 n13 eV c.sk)))
  have Jx:¬((100:Int)<(l.skips[m].path.size:Int)):=Jx;refine Yi (Ii m ch) ?_;have eV:ZA l.skips[m]=true:=by unfold ZA;exact As (by have q0:=Jx;omega)
  refine Xi ⟨m+1,n13,fun j hj h=>by rcases E4 j m with h2 | h2;exact m2 j hj h2;have e:j=m:=ch;subst e;exact eV⟩ ?_;exact⟨Dl l.skips.length m ch,Z2,Z1,Fh,Tv⟩
 have af:¬((m:Int)<((l.skips.map Ay).length:Int)):=af;have n13:=FS af;refine cU [(1,.ref 1 0)] [(1,.ro (Dj l))] Z1 Z1 (Bs (Bt (CE l.roots)) (fun MR=>?_) (fun MR=>?_))
 .have MR:(CE l.roots)=true:=MR;refine Xi .pure (Xi _ (Yi (cb MR (tw l.roots hrl)) (Yi (fun ah=>?_) (fun ah=>?_))))
  .have ah:((l.ents.map A3).length:Int)<=(16:Int):=ah;refine Yi (fun km=>?_) (fun km=>?_)
   .have km:((l.infs.map AG).length:Int)<=(300:Int):=km;refine Yi (fun Ub=>?_) (fun Ub=>?_)
    .have Ub:((l.skips.map Ay).length:Int)<=(100:Int):=Ub;exact DC.of_eq (Aa vb (kd ⟨(UX fun j hj=>i2 j hj (AR hj (Cj (FS h1)))),(UX fun j hj=>k2 j hj (AR hj (Cj (FS h9)))),(UX fun j hj=>m2 j hj (AR hj (Cj (FS af)))),MR,(by have q:=ah;rw[Lm]at q;omega),(by have q:=km;rw[Lm]at q;omega),(by have q:=Ub;rw[Lm]at q;omega)⟩))
    have Ub:¬(((l.skips.map Ay).length:Int)<=(100:Int)):=Ub;exact DC.of_eq (Aa vb (J3 (fun c=>absurd c.kl (by have q:=Ub;rw[Lm]at q;omega))))
   have km:¬(((l.infs.map AG).length:Int)<=(300:Int)):=km;exact DC.of_eq (Aa vb (J3 (fun c=>absurd c.il (by have q:=km;rw[Lm]at q;omega))))
  have ah:¬(((l.ents.map A3).length:Int)<=(16:Int)):=ah;exact DC.of_eq (Aa vb (J3 (fun c=>absurd c.el (by have q:=ah;rw[Lm]at q;omega))))
 have MR:(CE l.roots)=false:=MR;refine Xi .pure (Xi _ (Yi (cb MR (tw l.roots hrl)) ?_));exact DC.of_eq (Aa vb (J3 (fun c=>by have q:=MR;rw[c.rq]at q;cases q)))
abbrev xJ(n:Nat):MF:=⟨[],[],[(2,n),(5,n)],[],[],[],[5],[],[],[],[2,3]⟩
theorem yA(l:List Sl)(hl:Cr l):AW Tryz.prog 76 [sl Ah l] (Ae [] Ab) fun r h'=>r=.msl 2000 l.length/\h'=Ae [(2000,.arr 4 (l.map Ah))] Ab:=by
 refine A7 (H5 (xJ 4)) [(2,2000)] rfl Bu hm rfl Tryz.func76 aa0 rfl (Nz rfl) aa0 rfl ?_;have Di:BJ 4 (l.map Ah)/\([]:List (List AV)).length=0/\(([]:List (List AV)).length+(l.map Ah).length)*40<=140737488355328/\([]:List (List AV)).length+(l.map Ah).length<=9223372036854775807:=by
  refine⟨Df (enc:=Ah) (n:=4) (fun _=>rfl) l,rfl,?_,?_⟩<;>simp only[FD,Lm]<;>unfold Cr at hl<;>omega
 have e1:AV.msl 2000 (([]:List (List AV)).length+(l.map Ah).length)=.msl 2000 l.length:=by simp
 refine Xi 0 (Xi 0 (Yi ?_ ?_))
 .intro _;refine cU [(0,sl Ah l)] [] Z1 Tv (Xi 2 (Yi Di ?_));exact Xi _ (Yi (.refl _) (Yi e1 rfl))
 .intro h;refine Yi ?_ ?_
  .refine Xi ⟨[],[],Ab⟩ (Yi ⟨trivial,trivial,fun _=>.inl rfl,Be aa0⟩ ?_);refine Xi 2 ?_;exact Xi _ (Yi (.refl _) (Yi (show AV.msl 2000 0=_ by rw[Dv.1 h];rfl) (show Ae [(2000,HO.arr 4 [])] Ab=_ by rw[h])))
  .refine cU [(0,sl Ah l)] [] Z1 Tv (Xi 2 (Yi Di ?_));exact Xi _ (Yi (.refl _) (Yi e1 rfl))
abbrev vJ:Sl->Sl->Int:=fun a b=>JW a.path b.path
theorem fu:JW a b<0↔EL a b=true:=by
 unfold JW
 by_cases h:EL a b=true
 .rw[A1 h];simp[h]
 .rw[AO h];split<;>simp[h]
theorem Yw:JW a b=0↔a=b:=by
 unfold JW;constructor
 .intro h;split at h
  .cases h
  .rename_i h1;split at h
   .cases h
   .rename_i h2;exact Ht (by simpa using h1) (by simpa using h2)
 .rintro rfl
  rw[AO (by rw[CG];decide),AO (by rw[CG];decide)]
abbrev kept(p:α->Bool)(l:List α):List α:=l.filter fun x=>!p x
end Go.Eng
namespace Go.Eng
structure OC{α β:Type}(c:α->α->Int)(R:α->α->Prop)(key:α->β):Prop where
 lt:∀a b,c a b<0↔R a b
 eq:∀a b,c a b=0↔key a=key b
 tr:∀a b d,R a b->R b d->R a d
 irr:∀a b,key a=key b->¬R a b
 tri:∀a b,¬R a b->key a≠key b->R b a
 cl:∀a b d,key a=key b->R a d->R b d
section
variable {α β:Type}{c:α->α->Int}{R:α->α->Prop}{key:α->β}
theorem cK(h:OC c R key){a:List α}(ha:a.Pairwise R):(a.map key).Nodup:=by
 unfold List.Nodup;rw[Jk];exact ha.imp fun q e=>h.irr _ _ e q
end
/-! The three comparisons. -/
abbrev uj(a b:Sl):Prop:=EL a.path b.path=true
theorem ocP:OC vJ uj (fun s:Sl=>s.path) where
 lt _ _:=fu
 eq _ _:=Yw
 tr _ _ _:=DG
 irr a b e h:=by rw[uj,e,CG]at h;cases h
 tri a b h e:=by
  cases q:EL b.path a.path with
  |true=>exact q
  |false=>
   cases p:EL a.path b.path with
   |true=>exact absurd p h
   |false=>exact absurd (Ht p q) e
 cl a b d e h:=by rw[uj,<-e];exact h
/-! Pins. -/
/-! What the reference makes of a list. -/
theorem L8{α:Type}{l:List α}{i:Nat}(h:i<l.length):l.take (i+1)=l.take i++[l[i]]:=D5 h
end Go.Eng
namespace Go.Eng
open Go.Proofs
variable {α:Type}{a b:List α}
theorem lh(hl:a.length=b.length)(h:∀j (hj:j<a.length),a[j]=b[j]'(hl▸hj)):a=b:=List.ext_getElem hl fun j h1 _=>h j h1
theorem qg{i:Nat}{ha:i<a.length}{hb:i<b.length}(h:a[i]≠b[i]):a≠b:=fun e=>by simp_all
theorem tj(l:List Lo)(hl:l.length<=1000000):PC 22 [sl A3 l,sl A3 l] (vb true):=by
 refine Ps D0 Tryz.func22 rfl (Nz rfl) (Yi (fun h1=>?_) (fun h1=>?_))
 .have h1:((l.map A3).length:Int)≠((l.map A3).length:Int):=h1;exact absurd rfl h1
 have h1:((l.map A3).length:Int)=((l.map A3).length:Int):=AP h1;refine Xi {q:Nat // q<=l.length} (Xi (fun q=>⟨[(0,sl A3 l),(1,sl A3 l),(5,vi q.1)],[],Ab⟩) (Xi (fun q=>l.length-q.1) (Yi (Xi ⟨0,Ar _⟩ ?_) ?_)))
 .exact⟨Z3,Tv,Fh,Tv⟩
 intro⟨i,i1⟩;have i1:i<=l.length:=i1;refine Yi (fun h2=>?_) (fun h2=>?_)
 .have h2:(i:Int)<((l.map A3).length:Int):=h2;have n2:=Jb h2;refine Xi (A3 l[i]) (Yi (N0 n2) (Yi rfl (yN (Xi (A3 l[i]) (Yi (N0 n2) (Yi rfl (yN (Yi (fun h3=>?_) (fun h3=>?_)))))))))
  .have h3:(l[i].path:ByteArray)=l[i].path/\(l[i].ver.a:Int)=l[i].ver.a/\(l[i].ver.b:Int)=l[i].ver.b/\(l[i].ver.c:Int)=l[i].ver.c/\(l[i].arch:ByteArray)=l[i].arch/\(l[i].ifc:ByteArray)=l[i].ifc/\True:=h3;refine Yi aa0 (Yi (Ii i ch) (Xi ⟨i+1,n2⟩ ?_));exact⟨Dl l.length i ch,Z3,Tv,Fh,Tv⟩
  have h3:¬((l[i].path:ByteArray)=l[i].path/\(l[i].ver.a:Int)=l[i].ver.a/\(l[i].ver.b:Int)=l[i].ver.b/\(l[i].ver.c:Int)=l[i].ver.c/\(l[i].arch:ByteArray)=l[i].arch/\(l[i].ifc:ByteArray)=l[i].ifc/\True):=h3;exact absurd ⟨rfl,rfl,rfl,rfl,rfl,rfl,trivial⟩ h3
 have h2:¬((i:Int)<((l.map A3).length:Int)):=h2;have n2:=FS h2;exact .refl _
section
variable {x:List Rl}{ifs:List (List AV)}{l:Lk}
theorem qP(h:HY l):∀e∈l.ents,GB e.path:=fun e he=>by
 have q:=AF.1 h.en e he;unfold YB at q;have q:=BD q;unfold GB;omega
theorem fL(h:HY l):XS (Ks l)=true:=by
 unfold XS;rw[As (show(Ks l).infs.length<=400 from AH h.il Wk),As (show(Gu l).length<=16 by rw[Lm];exact h.el),As (show(Ks l).skips.length<=100 from h.kl)];rfl
theorem oO(L:UQ x l.roots)(h:HY l):PC 48 [.agg (Dj l)] (vb (Fo l)):=
 jn l L.rq (qP h) (AH h.el Wk) (AH h.il Wk) (AH h.kl Wk)
theorem N1(L:UQ x l.roots)(hs:(Er x 16&&CE l.roots)=true)(h:HY l):PC 18 [IP x ifs,.agg (Dj l)] (vi (LF x l)):=
 tn x ifs l L.x L.ix (qA Tj x ifs L.x) (fun p v=>tx x ifs p v (L.c84 ifs) L.x) (oO L h) (L.c21 ifs hs (Ks l) (fL h)) (AH h.el Wk)
theorem aa{x:List Rl}{roots:List Rq}(h:(Er x 16&&CE roots)=true):roots.length<=1000000:=AH (T7 h) Wk
end
structure eD(l:Lk):Prop where
 el:l.ents.length<=1048576
 il:l.infs.length<=1048576
 kl:l.skips.length<=1048576
open Classical in
theorem NL{l:Lk}(h:KY l=true):HY l:=by unfold KY at h;exact BD h
end Go.Eng
