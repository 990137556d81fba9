/- Lemmas 23. -/
import Derived.Test.YtkjhcikodmiceaaGreatDoorRA22
set_option maxHeartbeats 4000000
namespace Go.Eng
variable (x:List Rl)
structure Lo where
 path:ByteArray
 ver:Ver
 arch:ByteArray
 ifc:ByteArray
variable (e:Lo)
structure Lk where
 roots:List Rq
 ents:List Lo
 infs:List Nf
 skips:List Sk
variable (l:Lk)
abbrev EK:Sl:=⟨e.path,e.ver⟩
abbrev Pd:List Sl:=l.ents.map EK
abbrev N5:An:=⟨true,Pd l,l.infs,l.skips⟩
def Lh:Bool:=decide (BF e.path=some e.ver.a)&&Ct e.ver&&Eg e.arch&&Eg e.ifc
def co(i:Nf):Bool:=decide (0<=i.kind/\i.kind<=3/\i.path.size<=64/\0<=i.place/\0<=i.number/\0<=i.left/\0<=i.right)
def T7(s:Sk):Bool:=decide (s.path.size<=64/\0<=s.place/\0<=s.inf)
def DT:Bool:=decide (Bu l.roots=0)&&(decide (l.ents.length<=1024)&&(decide (l.infs.length<=65536)&&(decide (l.skips.length<=65536)&&(C3 (Pd l)&&(l.ents.all Lh&&(l.infs.all co&&l.skips.all T7))))))
def MU:Bool:=match BL x (EK e)with
 |none=>false
 |some r=>decide (e.arch=r.arch)&&decide (e.ifc=r.ifc)
def gt:Int:=
 if AX x≠0\/DT l=false then 1
 else if l.ents.all (fun e=>(BL x (EK e)).isSome)=false then 6
 else if l.ents.all (MU x)=false then 9
 else if Hd x l.roots (N5 l)≠0 then 18 else 0
section
variable {x:List Rl}{l m:Lk}
def Iw(x:List Rl)(y:Sl):Lo:=match BL x y with
 |none=>⟨y.path,y.ver,⟨#[]⟩,⟨#[]⟩⟩
 |some r=>⟨y.path,y.ver,r.arch,r.ifc⟩
def zG(x:List Rl)(roots:List Rq)(a:An):Lk:=⟨roots,a.sel.map (Iw x),a.infs,a.skips⟩
end
end Go.Eng
namespace Go.Eng
open Go.Proofs
variable {caps:List AV}{fF:Nat}(p:ByteArray)(s:Sk)
abbrev Cq(e:Lo):List AV:=[vs e.path,vi e.ver.a,vi e.ver.b,vi e.ver.c,vs e.arch,vs e.ifc]
abbrev BH(l:Lk):List AV:=[sl Af l.roots,sl Cq l.ents,sl AR l.infs,sl AJ l.skips]
theorem bZ{l:List Lo}{i:Nat}(h:i<l.length):(l.take (i+1)).map EK=(l.take i).map EK++[EK l[i]]:=by rw[Ep h,AG];rfl
theorem ph(l:Lk)(hl:l.ents.length<=1000000):PC 20 [.agg (BH l)] (sl Al (Pd l)):=by
 refine Ps (pT [1] [(3,4)] []) Tryz.func20 rfl (Nz rfl) (Xi {q:Nat // q<=l.ents.length} (Xi (fun q=>⟨[(3,.slice (.id 3 4) (((l.ents.take q.1).map EK).map Al)),(7,sl Cq l.ents),(8,vi (l.ents.map Cq).length),(9,vi q.1)],[(3,.tok 4 ((l.ents.take q.1).map EK).length)],Ad⟩) (Xi (fun q=>l.ents.length-q.1) (Yi (Xi ⟨0,Ao _⟩ ?_) ?_))))
 .exact⟨Z4,Z1,Fh,Tv⟩
 intro⟨i,i1⟩;have hT:((l.ents.take i).map EK).length<=1073741824:=(by rw[Lm,Bv];omega);refine Yi (fun h1=>?_) (fun h1=>?_)
 .have h1:(i:Int)<((l.ents.map Cq).length:Int):=h1;have n1:=IN h1;refine Xi (Cq l.ents[i]) (Yi (LX n1) (Yi rfl (yN (yN (yN (Yi (Zm rfl (show((l.ents.take i).map EK).length<=2147483647 by omega) aa2) (Yi (Ii i B0) (Xi ⟨i+1,n1⟩ ?_))))))));exact⟨Dl l.ents.length i B0,⟨⟨(show AV.slice (.id 3 4) (((l.ents.take i).map EK).map Al++[[vs l.ents[i].path,vi l.ents[i].ver.a,vi l.ents[i].ver.b,vi l.ents[i].ver.c]])=.slice (.id 3 4) (((l.ents.take (i+1)).map EK).map Al) by rw[bZ n1,AG];rfl),rfl⟩,Zr,Zr,Zr,Tv⟩,⟨⟨(show HO.tok 4 ((((l.ents.take i).map EK).map Al).length+([[vs l.ents[i].path,vi l.ents[i].ver.a,vi l.ents[i].ver.b,vi l.ents[i].ver.c]]:List (List AV)).length)=.tok 4 ((l.ents.take (i+1)).map EK).length by rw[bZ n1];simp),rfl⟩,Tv⟩,Fh,Tv⟩
 have n1:=FH h1;exact DW.of_eq (show sl Al ((l.ents.take i).map EK)=sl Al (Pd l) by rw[Bj (CC (FH h1))])
theorem vC(l:Lk)(hl:l.ents.length<=1000000):PC 50 [.agg (BH l)] (.agg [vb true,sl Al (Pd l),sl AR l.infs,sl AJ l.skips]):=by
 refine Ps (pC [1] []) Tryz.func50 rfl (Nz rfl) (yN (Xi _ (Yi (ph l hl) (yN (Yi aa3 (yN ?_))))));exact .refl _
theorem oe(s:ByteArray):PC 102 [vs s] (vb (Eg s)):=by
 refine Ps Ea Tryz.func102 rfl (Nz rfl) (Yi (fun h1=>?_) (fun h1=>?_))
 .exact DW.of_eq (Ab vb (show true=Eg s by unfold Eg;rw[Ay (show s.size=0 by have q:=h1;omega)];rfl))
 refine Yi (fun h3=>?_) (fun h3=>?_)
 .exact DW.of_eq (Ab vb (show true=Eg s by unfold Eg;rw[Au (show ¬s.size=0 by have q:=h1;omega)];rw[Ay (show s.size=32 by have q:=h3;omega)];rfl))
 exact DW.of_eq (Ab vb (show false=Eg s by unfold Eg;rw[Au (show ¬s.size=0 by have q:=h1;omega)];rw[Au (show ¬s.size=32 by have q:=h3;omega)];rfl))
theorem AaH(hs:CN caps)(l:List (Int))(p:Int->Bool)(hF:∀x∈l,PC fF ([vi x]++caps) (vb (p x)))(hl:l.length<9223372036854775807) :
  PC 255 [sl LA l,.clo fF caps] (vi (JI p l 0)):=by
 refine Ps Ea Tryz.func255 rfl (Nz rfl) (Xi {i:Nat // i<=l.length/\∀j (hj:j<l.length),j<i->p l[j]=false} (Xi (fun i=>⟨[(0,sl LA l),(1,.clo fF caps),(7,vi (l.map LA).length),(8,vi i.1)],[],Ad⟩) (Xi (fun i=>l.length-i.1) (Yi (Xi ⟨0,by simp⟩ ?_) ?_))))
 .exact⟨⟨Zr,⟨rfl,hs.ids _⟩,Zr,Zr,Tv⟩,Tv,Fh,Tv⟩
 .intro⟨i,h1,h2⟩;refine Yi ?_ ?_
  .intro h;have h:i<l.length:=by simpa using h
   have hg:l[i]?=some l[i]:=Ge h;refine Xi (LA l[i]) (Yi (Yi (Nn i) (by simp[hg])) (Yi rfl ?_));have Cj:∀h,PC fF ([vi l[i]]++caps.map (str0 h)) (vb (p l[i])):=fun h=>by rw[hs.map];exact hF l[i] (Am _)
   cases hp:p l[i]with
   |true=>
    rw[hp]at Cj;refine Xi .pure (Xi (vb true) (Yi (Cj _) ?_));rw[KC h (fun j hj JY=>h2 j hj JY) hp,F0];exact .refl _
   |false=>
    rw[hp]at Cj;refine Xi .pure (Xi (vb false) (Yi (Cj _) (Yi (Ii i B0) (Xi ⟨i+1,by omega,fun j hj JY=>?_⟩ ?_))))
    .by_cases e:j=i
     .subst e;exact hp
     .exact h2 j hj B0
    .exact⟨Dl l.length i B0,⟨Zr,⟨rfl,hs.ids _⟩,Zr,Zr,Tv⟩,Tv,Fh,Tv⟩
  .intro h;have h:¬i<l.length:=by simpa using h
   rw[Hs fun j hj=>h2 j hj B0];exact .refl _
theorem AaF(hs:CN caps)(l:List (Int))(p:Int->Bool)(hF:∀x∈l,PC fF ([vi x]++caps) (vb (p x)))(hl:Cz l) :
  PC 179 [sl LA l,.clo fF caps] (vb (l.any p)):=by
 refine Ps Ea Tryz.func179 rfl (Nz rfl) ?_;have hi:=AaH hs l p hF (by unfold Cz at hl;omega);have Cj:∀h,PC 255 [sl LA l,.clo fF (caps.map (str0 h))] (vi (JI p l 0)):=fun h=>by rw[hs.map];exact hi
 refine Xi .pure (Xi _ (Yi (Cj _) ?_));have ha:=Jr (p:=p) l 0 (Cp 0);refine Yi ?_ ?_
 .intro h;rw[<-ha,Ay h];exact .refl _
 .intro h;rw[<-ha,Au h];exact .refl _
theorem AaG(hs:CN caps)(l:List (Sk))(p:Sk->Bool)(hF:∀x∈l,PC fF ([.agg (AJ x)]++caps) (vb (p x)))(hl:l.length<9223372036854775807) :
  PC 181 [sl AJ l,.clo fF caps] (vi (JI p l 0)):=by
 refine Ps Ea Tryz.func181 rfl (Nz rfl) (Xi {i:Nat // i<=l.length/\∀j (hj:j<l.length),j<i->p l[j]=false} (Xi (fun i=>⟨[(0,sl AJ l),(1,.clo fF caps),(7,vi (l.map AJ).length),(8,vi i.1)],[],Ad⟩) (Xi (fun i=>l.length-i.1) (Yi (Xi ⟨0,by simp⟩ ?_) ?_))))
 .exact⟨⟨Zr,⟨rfl,hs.ids _⟩,Zr,Zr,Tv⟩,Tv,Fh,Tv⟩
 .intro⟨i,h1,h2⟩;refine Yi ?_ ?_
  .intro h;have h:i<l.length:=by simpa using h
   have hg:l[i]?=some l[i]:=Ge h;refine Xi (AJ l[i]) (Yi (Yi (Nn i) (by simp[hg])) (Yi rfl (yN ?_)));have Cj:∀h,PC fF ([.agg (AJ l[i])]++caps.map (str0 h)) (vb (p l[i])):=fun h=>by rw[hs.map];exact hF l[i] (Am _)
   cases hp:p l[i]with
   |true=>
    rw[hp]at Cj;refine Xi .pure (Xi (vb true) (Yi (Cj _) ?_));rw[KC h (fun j hj JY=>h2 j hj JY) hp,F0];exact .refl _
   |false=>
    rw[hp]at Cj;refine Xi .pure (Xi (vb false) (Yi (Cj _) (Yi (Ii i B0) (Xi ⟨i+1,by omega,fun j hj JY=>?_⟩ ?_))))
    .by_cases e:j=i
     .subst e;exact hp
     .exact h2 j hj B0
    .exact⟨Dl l.length i B0,⟨Zr,⟨rfl,hs.ids _⟩,Zr,Zr,Tv⟩,Tv,Fh,Tv⟩
  .intro h;have h:¬i<l.length:=by simpa using h
   rw[Hs fun j hj=>h2 j hj B0];exact .refl _
theorem AaE(hs:CN caps)(l:List (Sk))(p:Sk->Bool)(hF:∀x∈l,PC fF ([.agg (AJ x)]++caps) (vb (p x)))(hl:Cz l) :
  PC 104 [sl AJ l,.clo fF caps] (vb (l.any p)):=by
 refine Ps Ea Tryz.func104 rfl (Nz rfl) ?_;have hi:=AaG hs l p hF (by unfold Cz at hl;omega);have Cj:∀h,PC 181 [sl AJ l,.clo fF (caps.map (str0 h))] (vi (JI p l 0)):=fun h=>by rw[hs.map];exact hi
 refine Xi .pure (Xi _ (Yi (Cj _) ?_));have ha:=Jr (p:=p) l 0 (Cp 0);refine Yi ?_ ?_
 .intro h;rw[<-ha,Ay h];exact .refl _
 .intro h;rw[<-ha,Au h];exact .refl _
theorem DW.fn(f:Nat):DW (.v (.func (.func f) #[] #[])) (.clo f []):=fun _ _ _ _ h=>by cases h;exact .clo _ f [] #[] rfl (fun i av x h=>by cases h)
theorem CN.nil:CN []:=fun _ hc=>absurd hc List.not_mem_nil
def Wv(l:List Int):Bool:=decide (p.size<=64)&&!(l.any fun n=>decide (n<0))
theorem vH(n:Int):PC 180 [vi n] (vb (decide (n<0))):=by
 refine Ps Ea Tryz.func180 rfl (Nz rfl) (Yi (fun h1=>?_) (fun h1=>?_))
 .exact DW.of_eq (Ab vb (show true=decide (n<0)from(Ay h1).symm))
 exact DW.of_eq (Ab vb (show false=decide (n<0)from(Au h1).symm))
theorem pg(l:List Int)(hl:Cz l):PC 179 [sl LA l,.v (.func (.func 180) #[] #[])] (vb (l.any fun n=>decide (n<0))):=
 (AaF (fF:=180) CN.nil l (fun n=>decide (n<0)) (fun n _=>vH n) hl).args ⟨.refl _,DW.fn 180,trivial⟩
theorem og(l:List Int)(hl:Cz l):PC 103 [vs p,sl LA l] (vb (Wv p l)):=by
 refine Ps Ea Tryz.func103 rfl (Nz rfl) (Yi (fun h1=>?_) (fun h1=>?_))
 .refine BK (Bt (l.any fun n=>decide (n<0))) (fun h2=>?_) (fun h2=>?_)
  .refine Xi .pure (Xi _ (Yi (cb h2 (pg l hl)) ?_));exact DW.of_eq (Ab vb (show false=Wv p l by rw[Wv,Ay (show p.size<=64 by have q:=h1;omega),h2];rfl))
  refine Xi .pure (Xi _ (Yi (cb h2 (pg l hl)) ?_));exact DW.of_eq (Ab vb (show true=Wv p l by rw[Wv,Ay (show p.size<=64 by have q:=h1;omega),h2];rfl))
 exact DW.of_eq (Ab vb (show false=Wv p l by rw[Wv,Au (show ¬p.size<=64 by have q:=h1;omega)];rfl))
theorem pc:Wv s.path [s.place,s.inf]=T7 s:=by unfold Wv T7;rw[Dd];simp
theorem o9(i:Nf)(h0:¬i.kind<0)(h3:¬3<i.kind):Wv i.path [i.place,i.number,i.left,i.right]=co i:=by unfold Wv co;rw[Dd];simp;omega
theorem vF:PC 105 [.agg (AJ s)] (vb (!T7 s)):=by
 refine Ps (pC [1] []) Tryz.func105 rfl (Nz rfl) (BK (Bt (Wv s.path [s.place,s.inf])) (fun h1=>?_) (fun h1=>?_))
 .refine Xi .pure (Xi _ (Yi (cb h1 (show PC 103 [vs s.path,.slice .none [[vi s.place],[vi s.inf]]] (vb (Wv s.path [s.place,s.inf]))from og s.path [s.place,s.inf] (show 2<=1073741824 by decide))) ?_));exact DW.of_eq (Ab vb (show false=!T7 s by rw[<-pc,h1];rfl))
 refine Xi .pure (Xi _ (Yi (cb h1 (show PC 103 [vs s.path,.slice .none [[vi s.place],[vi s.inf]]] (vb (Wv s.path [s.place,s.inf]))from og s.path [s.place,s.inf] (show 2<=1073741824 by decide))) ?_));exact DW.of_eq (Ab vb (show true=!T7 s by rw[<-pc,h1];rfl))
theorem bq{l:List Sk}:(l.any fun s=>!T7 s)=!l.all T7:=List.not_all_eq_any_not.symm
theorem pi(l:List Sk)(hl:Cz l):PC 104 [sl AJ l,.v (.func (.func 105) #[] #[])] (vb (l.any fun s=>!T7 s)):=
 (AaE (fF:=105) CN.nil l (fun s=>!T7 s) (fun s _=>vF s) hl).args ⟨.refl _,DW.fn 105,trivial⟩
def Ok(l:List Lo)(i:Nat):Bool:=match l[i]? with
 |none=>true
 |some e=>Lh e&&(decide (i=0)||E0 (l[i-1]?.getD e).path e.path)
section
variable {l:List Lo}{i:Nat}
theorem HU(h:i<l.length):Ok l i=(Lh l[i]&&(decide (i=0)||E0 (l[i-1]' B0).path l[i].path)):=by
 rw[Ok,Ge h];simp only;rw[Ge (show i-1<l.length by omega)];rfl
theorem bC(h:∀j,j<l.length->Ok l j=true):C3 (l.map EK)=true/\l.all Lh=true:=by
 have hk:∀j (hj:j<l.length),Lh l[j]=true/\(0<j->E0 (l[j-1]' B0).path l[j].path=true):=fun j hj=>by
  have q:=h j hj;rw[HU hj]at q;obtain⟨q1,q2⟩:=Bool.and_eq_true_iff.1 q;exact⟨q1,fun h0=>by simpa[show j≠0 by omega]using q2⟩
 refine⟨jh ?_,A9.2 fun e he=>?_⟩
 .have go:∀j i (hi:i<l.length) (hj:j<l.length),i<j->E0 l[i].path l[j].path=true:=by
   intro j
   induction j with
   |zero=>intro i _ _ h;omega
   |succ j ih=>
    intro i hi hj Wd;have q:=(hk (j+1) hj).2 B0
    by_cases e:i=j
    .subst e;exact q
    .exact DZ (ih i hi B0 B0) q
  show(l.map EK).Pairwise _;rw[JM,BT];exact fun i j hi hj Wd=>go j i hi hj Wd
 .obtain⟨j,hj,rfl⟩:=CY.1 he;exact(hk j hj).1
theorem Mr(h:i<l.length)(k:Ok l i=false):¬(C3 (l.map EK)=true/\l.all Lh=true):=by
 rintro⟨h1,h2⟩
 have h1:(l.map EK).Pairwise (fun a b=>E0 a.path b.path=true):=(I1 h1).1;rw[HU h,A9.1 h2 _ (Am h),Rg]at k;obtain⟨k1,k2⟩:=Bool.or_eq_false_iff.1 k;have k1:i≠0:=of_decide_eq_false k1;rw[JM,BT]at h1
 have:=h1 (i-1) i B0 h B0
 rw[k2]at this;cases this
end
theorem Gl{l:Lk}(h:¬(Bu l.roots=0/\l.ents.length<=1024/\l.infs.length<=65536/\l.skips.length<=65536/\(C3 (Pd l)=true/\l.ents.all Lh=true)/\l.infs.all co=true/\l.skips.all T7=true)):DT l=false:=by
 cases e:DT l with
 |false=>rfl
 |true=>
  refine absurd ?_ h;unfold DT at e;simp only[Aj,AQ]at e;obtain⟨a1,a2,a3,a4,a5,a6,a7,a8⟩:=e;exact⟨a1,a2,a3,a4,⟨a5,a6⟩,a7,a8⟩
theorem Xz{l:Lk}(a1:Bu l.roots=0)(a2:l.ents.length<=1024)(a3:l.infs.length<=65536)(a4:l.skips.length<=65536)(a5:C3 (Pd l)=true/\l.ents.all Lh=true)(a7:l.infs.all co=true):DT l=l.skips.all T7:=by
 unfold DT;rw[Ay a1,Ay a2,Ay a3,Ay a4,a5.1,a5.2,a7];simp
theorem bm(hp:Fx p):PC 66 [vs p] (match BF p with | none=>.tup [vs ⟨#[]⟩,vi 0,vi 4] | some m=>.tup [vs (jp p),vi m,vi 0]):=by
 cases e:BF p with
 |none=>exact Uh.none hp e
 |some m=>exact Uh.some hp e
theorem Qu(l:Lk)(mH:∀q∈l.roots,Jz q)(rM:∀e∈l.ents,Fx e.path)(WS:l.ents.length<=1000000)(bP:l.infs.length<=1000000)(JZ:l.skips.length<=1000000):PC 48 [.agg (BH l)] (vb (DT l)):=by
 refine Ps (pC [1] [10,16]) Tryz.func48 rfl (Nz rfl) (Xi .pure (Xi _ (Yi (vQ Uh l.roots mH) (Yi (fun h1=>?_) (fun h1=>?_)))))
 .exact DW.of_eq (Ab vb (Gl (fun c=>h1 c.1)).symm)
 have h1:((Bu l.roots):Int)=(0:Int):=AY h1;refine Yi (fun h3=>?_) (fun h3=>?_)
 .have n3:1024<l.ents.length:=by have q:=h3;rw[Lm]at q;omega
  exact DW.of_eq (Ab vb (Gl (fun c=>absurd c.2.1 (by have q:=h3;rw[Lm]at q;omega))).symm)
 have n3:¬1024<l.ents.length:=by have q:=h3;rw[Lm]at q;omega
 refine Yi (fun h5=>?_) (fun h5=>?_)
 .have n5:65536<l.infs.length:=by have q:=h5;rw[Lm]at q;omega
  exact DW.of_eq (Ab vb (Gl (fun c=>absurd c.2.2.1 (by have q:=h5;rw[Lm]at q;omega))).symm)
 have n5:¬65536<l.infs.length:=by have q:=h5;rw[Lm]at q;omega
 refine Yi (fun h7=>?_) (fun h7=>?_)
 .have n7:65536<l.skips.length:=by have q:=h7;rw[Lm]at q;omega
  exact DW.of_eq (Ab vb (Gl (fun c=>absurd c.2.2.2.1 (by have q:=h7;rw[Lm]at q;omega))).symm)
 have n7:¬65536<l.skips.length:=by have q:=h7;rw[Lm]at q;omega
 refine Xi {q:Nat // q<=l.ents.length/\∀j,j<q->Ok l.ents j=true} (Xi (fun q=>⟨[(1,.ref 1 0),(33,sl Cq l.ents),(34,vi (l.ents.map Cq).length),(35,vi q.1)],[(1,.ro (BH l))],Ad⟩) (Xi (fun q=>l.ents.length-q.1) (Yi (Xi ⟨0,Ao _,fun j h=>absurd h (CR _)⟩ ?_) ?_)))
 .exact⟨Z4,Z1,Fh,Tv⟩
 intro⟨i,i1,i2⟩;have i2:∀j,j<i->Ok l.ents j=true:=i2;refine Yi (fun h9=>?_) (fun h9=>?_)
 .have h9:(i:Int)<((l.ents.map Cq).length:Int):=h9;have n9:=IN h9;refine Xi (Cq l.ents[i]) (Yi (LX n9) (Yi rfl (yN (yN (BK (Vi (BF l.ents[i].path)) (fun Oz=>?_) (fun Oz=>?_))))))
  .refine A1 Oz (fun mj Oz=>?_);have iO:=(bm l.ents[i].path (rM _ (Am n9)));rw[Oz]at iO;refine Xi .pure (Xi _ (Yi iO (Yi (fun h=>absurd h aa2) (fun _=>?_))));refine yN (BK (Bt (Ct l.ents[i].ver)) (fun IS=>?_) (fun IS=>?_))
   .have IS:(Ct l.ents[i].ver)=true:=IS;refine Xi _ (Yi (cb IS (lJ l.ents[i].ver)) (Yi (fun iI=>?_) (fun iI=>?_)))
    .have iI:(l.ents[i].ver.a:Int)≠(mj:Int):=iI;refine Yi aa3 ?_;have eK:Ok l.ents i=false:=by rw[HU n9,Lh,show BF l.ents[i].path=some mj from Oz,Au (fun e=>iI (Jc e).symm)];rfl
     exact DW.of_eq (Ab vb (Gl (fun c=>Mr n9 eK c.2.2.2.2.1)).symm)
    have iI:(l.ents[i].ver.a:Int)=(mj:Int):=AY iI;refine BK (Bt (Eg l.ents[i].arch)) (fun Mu=>?_) (fun Mu=>?_)
    .have Mu:(Eg l.ents[i].arch)=true:=Mu;refine Xi _ (Yi (cb Mu (oe l.ents[i].arch)) (BK (Bt (Eg l.ents[i].ifc)) (fun XH=>?_) (fun XH=>?_)))
     .have XH:(Eg l.ents[i].ifc)=true:=XH;refine Xi _ (Yi (cb XH (oe l.ents[i].ifc)) (Yi (fun iJ=>?_) (fun iJ=>?_)))
      .have iJ:(0:Int)<(i:Int):=iJ;refine Yi (by show A8 ((i:Int)-(1:Int));unfold A8;omega) (Xi (Cq (l.ents[i-1]' B0)) (Yi (Yi (show(0:Int)<=(i:Int)-1 by omega) (by rw[show((i:Int)-1).toNat=i-1 by omega];exact Fj (Ge B0))) (Yi rfl ?_)));refine Yi (fun Rp=>?_) (fun Rp=>?_)
       .have Rp:E0 (l.ents[i-1]' B0).path l.ents[i].path=false:=(Gw _ _).trans Rp;refine Yi aa3 ?_;have eK:Ok l.ents i=false:=by rw[HU n9,Lh,show BF l.ents[i].path=some mj from Oz,Ay (Ab some (show mj=l.ents[i].ver.a from iI.symm)),IS,Mu,XH,Au (show ¬i=0 by omega),Rp];rfl
        exact DW.of_eq (Ab vb (Gl (fun c=>Mr n9 eK c.2.2.2.2.1)).symm)
       have Rp:E0 (l.ents[i-1]' B0).path l.ents[i].path=true:=(Gw _ _).trans (by simpa using Rp);refine Yi aa3 (Yi (Ii i B0) ?_);have eK:Ok l.ents i=true:=by rw[HU n9,Lh,show BF l.ents[i].path=some mj from Oz,Ay (Ab some (show mj=l.ents[i].ver.a from iI.symm)),IS,Mu,XH,Au (show ¬i=0 by omega),Rp];rfl
       refine Xi ⟨i+1,n9,fun j h=>by rcases BJ j i with h2 | h2;exact i2 j h2;have e:j=i:=B0;subst e;exact eK⟩ ?_;exact⟨Dl l.ents.length i B0,Z4,Z1,Fh,Tv⟩
      have iJ:¬((0:Int)<(i:Int)):=iJ;refine Yi aa3 (Yi (Ii i B0) ?_);have eK:Ok l.ents i=true:=by rw[HU n9,Lh,show BF l.ents[i].path=some mj from Oz,Ay (Ab some (show mj=l.ents[i].ver.a from iI.symm)),IS,Mu,XH,Ay (show i=0 by omega)];rfl
      refine Xi ⟨i+1,n9,fun j h=>by rcases BJ j i with h2 | h2;exact i2 j h2;have e:j=i:=B0;subst e;exact eK⟩ ?_;exact⟨Dl l.ents.length i B0,Z4,Z1,Fh,Tv⟩
     have XH:(Eg l.ents[i].ifc)=false:=XH;refine Xi _ (Yi (cb XH (oe l.ents[i].ifc)) (Yi aa3 ?_));have eK:Ok l.ents i=false:=by rw[HU n9,Lh,show BF l.ents[i].path=some mj from Oz,Ay (Ab some (show mj=l.ents[i].ver.a from iI.symm)),IS,Mu,XH];rfl
     exact DW.of_eq (Ab vb (Gl (fun c=>Mr n9 eK c.2.2.2.2.1)).symm)
    have Mu:(Eg l.ents[i].arch)=false:=Mu;refine Xi _ (Yi (cb Mu (oe l.ents[i].arch)) (Yi aa3 ?_));have eK:Ok l.ents i=false:=by rw[HU n9,Lh,show BF l.ents[i].path=some mj from Oz,Ay (Ab some (show mj=l.ents[i].ver.a from iI.symm)),IS,Mu];rfl
    exact DW.of_eq (Ab vb (Gl (fun c=>Mr n9 eK c.2.2.2.2.1)).symm)
   have IS:(Ct l.ents[i].ver)=false:=IS;refine Xi _ (Yi (cb IS (lJ l.ents[i].ver)) (Yi aa3 ?_));have eK:Ok l.ents i=false:=by rw[HU n9,Lh,IS];simp
   exact DW.of_eq (Ab vb (Gl (fun c=>Mr n9 eK c.2.2.2.2.1)).symm)
  have iO:=(bm l.ents[i].path (rM _ (Am n9)));rw[Oz]at iO;refine Xi .pure (Xi _ (Yi iO (Yi (fun _=>?_) (fun h=>absurd aa2 h))));refine Yi aa3 ?_;have eK:Ok l.ents i=false:=by rw[HU n9,Lh,show BF l.ents[i].path=none from Oz];rfl
  exact DW.of_eq (Ab vb (Gl (fun c=>Mr n9 eK c.2.2.2.2.1)).symm)
 have h9:¬((i:Int)<((l.ents.map Cq).length:Int)):=h9;have n9:=FH h9;refine cU [(1,.ref 1 0)] [(1,.ro (BH l))] Z1 Z1 (Xi {q:Nat // q<=l.infs.length/\∀j (h:j<l.infs.length),j<q->co l.infs[j]=true} (Xi (fun q=>⟨[(1,.ref 1 0),(92,sl AR l.infs),(93,vi (l.infs.map AR).length),(94,vi q.1)],[(1,.ro (BH l))],Ad⟩) (Xi (fun q=>l.infs.length-q.1) (Yi (Xi ⟨0,Ao _,fun j _ h=>absurd h (CR _)⟩ ?_) ?_))))
 .exact⟨Z4,Z1,Fh,Tv⟩
 intro⟨k,k1,k2⟩;have k1:k<=l.infs.length:=k1;have k2:∀j (h:j<l.infs.length),j<k->co l.infs[j]=true:=k2;refine Yi (fun me=>?_) (fun me=>?_)
 .have me:(k:Int)<((l.infs.map AR).length:Int):=me;have n25:=IN me;refine Xi (AR l.infs[k]) (Yi (LX n25) (Yi rfl (yN (yN (Yi (fun ox=>?_) (fun ox=>?_))))))
  .have ox:(l.infs[k].kind:Int)<(0:Int):=ox;have eN:co l.infs[k]=false:=by unfold co;exact Au (fun c=>absurd c.1 (by have q:=ox;omega))
   exact DW.of_eq (Ab vb (Gl (fun c=>by have q:=A9.1 c.2.2.2.2.2.1 _ (Am n25);rw[eN]at q;cases q)).symm)
  have ox:¬((l.infs[k].kind:Int)<(0:Int)):=ox;refine Yi (fun oy=>?_) (fun oy=>?_)
  .have oy:(3:Int)<(l.infs[k].kind:Int):=oy;have eN:co l.infs[k]=false:=by unfold co;exact Au (fun c=>absurd c.2.1 (by have q:=oy;omega))
   exact DW.of_eq (Ab vb (Gl (fun c=>by have q:=A9.1 c.2.2.2.2.2.1 _ (Am n25);rw[eN]at q;cases q)).symm)
  have oy:¬((3:Int)<(l.infs[k].kind:Int)):=oy;refine BK (Bt (Wv l.infs[k].path [l.infs[k].place,l.infs[k].number,l.infs[k].left,l.infs[k].right])) (fun ac=>?_) (fun ac=>?_)
  .have ac:(Wv l.infs[k].path [l.infs[k].place,l.infs[k].number,l.infs[k].left,l.infs[k].right])=true:=ac;refine Xi .pure (Xi _ (Yi (cb ac (show PC 103 [vs l.infs[k].path,.slice .none [[vi l.infs[k].place],[vi l.infs[k].number],[vi l.infs[k].left],[vi l.infs[k].right]]] (vb (Wv l.infs[k].path [l.infs[k].place,l.infs[k].number,l.infs[k].left,l.infs[k].right]))from og l.infs[k].path [l.infs[k].place,l.infs[k].number,l.infs[k].left,l.infs[k].right] (show 4<=1073741824 by decide))) (Yi (Ii k B0) ?_)));have eN:co l.infs[k]=true:=(o9 l.infs[k] ox oy).symm.trans ac;refine Xi ⟨k+1,n25,fun j hj h=>by rcases BJ j k with h2 | h2;exact k2 j hj h2;have e:j=k:=B0;subst e;exact eN⟩ ?_;exact⟨Dl l.infs.length k B0,Z4,Z1,Fh,Tv⟩
  have ac:(Wv l.infs[k].path [l.infs[k].place,l.infs[k].number,l.infs[k].left,l.infs[k].right])=false:=ac;refine Xi .pure (Xi _ (Yi (cb ac (show PC 103 [vs l.infs[k].path,.slice .none [[vi l.infs[k].place],[vi l.infs[k].number],[vi l.infs[k].left],[vi l.infs[k].right]]] (vb (Wv l.infs[k].path [l.infs[k].place,l.infs[k].number,l.infs[k].left,l.infs[k].right]))from og l.infs[k].path [l.infs[k].place,l.infs[k].number,l.infs[k].left,l.infs[k].right] (show 4<=1073741824 by decide))) ?_));have eN:co l.infs[k]=false:=(o9 l.infs[k] ox oy).symm.trans ac;exact DW.of_eq (Ab vb (Gl (fun c=>by have q:=A9.1 c.2.2.2.2.2.1 _ (Am n25);rw[eN]at q;cases q)).symm)
 have me:¬((k:Int)<((l.infs.map AR).length:Int)):=me;have n25:=FH me;refine cU [(1,.ref 1 0)] [(1,.ro (BH l))] Z1 Z1 (BK (Bt (l.skips.any fun s=>!T7 s)) (fun mf=>?_) (fun mf=>?_))
 .have mf:(l.skips.any fun s=>!T7 s)=true:=mf;refine Xi .pure (Xi _ (Yi (cb mf (pi l.skips (AO JZ aa2))) ?_));have eF:DT l=l.skips.all T7:=Xz h1 (by have q:=h3;rw[Lm]at q;omega) (by have q:=h5;rw[Lm]at q;omega) (by have q:=h7;rw[Lm]at q;omega) (bC fun j hj=>i2 j (AA hj (CC (FH h9)))) (A9.2 fun z hz=>by obtain⟨j,hj,rfl⟩:=CY.1 hz;exact k2 j hj (AA hj (CC (FH me))));have eS:(l.skips.any fun s=>!T7 s)=true:=mf;rw[bq]at eS;exact DW.of_eq (Ab vb (show false=DT l by rw[eF,<-Bool.not_not (l.skips.all T7),eS];rfl))
 have mf:(l.skips.any fun s=>!T7 s)=false:=mf;refine Xi .pure (Xi _ (Yi (cb mf (pi l.skips (AO JZ aa2))) ?_));have eF:DT l=l.skips.all T7:=Xz h1 (by have q:=h3;rw[Lm]at q;omega) (by have q:=h5;rw[Lm]at q;omega) (by have q:=h7;rw[Lm]at q;omega) (bC fun j hj=>i2 j (AA hj (CC (FH h9)))) (A9.2 fun z hz=>by obtain⟨j,hj,rfl⟩:=CY.1 hz;exact k2 j hj (AA hj (CC (FH me))));have eS:(l.skips.any fun s=>!T7 s)=false:=mf;rw[bq]at eS;exact DW.of_eq (Ab vb (show true=DT l by rw[eF,<-Bool.not_not (l.skips.all T7),eS];rfl))
theorem vD(l:Lk)(mH:∀q∈l.roots,Jz q)(rM:∀e∈l.ents,Fx e.path)(WS:l.ents.length<=1000000)(bP:l.infs.length<=1000000)(JZ:l.skips.length<=1000000):PC 25 [.agg (BH l)] (vi (if DT l=true then 0 else 1)):=by
 refine Ps (pC [1] []) Tryz.func25 rfl (Nz rfl) (yN (BK (Bt (DT l)) (fun h1=>?_) (fun h1=>?_)))
 .refine Xi .pure (Xi _ (Yi (cb h1 (Qu l mH rM WS bP JZ)) ?_));exact DW.of_eq (Ab vi (show 0=if DT l=true then 0 else 1 by rw[h1];rfl))
 refine Xi .pure (Xi _ (Yi (cb h1 (Qu l mH rM WS bP JZ)) ?_));exact DW.of_eq (Ab vi (show 1=if DT l=true then 0 else 1 by rw[h1];rfl))
end Go.Eng
namespace Go.Proofs
open Go.Shelf Go.RowKit Go.Lib Go.Sort Go.Eng
theorem below_of{f:Nat}{args:List AV}{res:AV}{vals:Array Value}{W:World}(hc:PC f args res)(hM:∃m,W.cell? ⟨0,0,none⟩ = some (.int .i64 m))(hs:vals.size = args.length)
  (hr:∀(i:Nat) (av:AV) (x:Value),args[i]? = some av -> vals[i]? = some x -> A3 (WR W) W DR av x):Calls Tryz.prog f vals W fun e W' => (∃v g' U,e = .returned v /\ A3 g' W' U res v) /\ Below W.heap.size W W' := by
 refine(hc.2 (WR W) W vals hs (fun i av x q1 q2 => (hr i av x q1 q2).up _) (oX hM (fun _ h => by cases h))).mono fun e W' ⟨v,r,h',g',e1,e2,e3,e4,_⟩ => ?_
 subst e1
 obtain⟨rfl,rfl⟩ := e2
 exact⟨⟨v,_,_,rfl,e3⟩,e4.os,e4.tape,e4.output,e4.size,fun b hb => e4.frame b hb (fun r h => h.elim)⟩
abbrev nilV9:Value := .slice none 0 0
abbrev nilA9:AV := .v nilV9
abbrev zLk:Lk := ⟨[],[],[],[]⟩
theorem ye_form0:PC 48 [.agg [nilA9,nilA9,nilA9,nilA9]] (vb true):=
 (Qu zLk (fun _ h => by cases h) (fun _ h => by cases h) (Nat.zero_le _) (Nat.zero_le _) (Nat.zero_le _)).args ⟨.agg ⟨.nil,.nil,.nil,.nil,trivial⟩,trivial⟩
theorem ye_formed(W:World)(hM:∃m,W.cell? ⟨0,0,none⟩ = some (.int .i64 m)):Calls Tryz.prog 48 #[.agg #[nilV9,nilV9,nilV9,nilV9]] W fun e w' => e = .returned (.bool true) /\ Below W.heap.size W w' := by
 refine(below_of (vals := #[.agg #[nilV9,nilV9,nilV9,nilV9]]) ye_form0 hM rfl (fun i av x e1 e2 => ?_)).mono fun e W' ⟨⟨v,g',U,e1,e2⟩,hb⟩ => ⟨by rw[e1,e2.v_eq],hb⟩
 match i with
 |0=>
  cases e1;cases e2
  exact .agg _ _ _ rfl (fun j x h => by
   match j with
   |0 |1 |2 |3 => cases h;rfl
   |_ + 4 => simp at h) fun j av x h1 h2 => by
   match j with
   |0 |1 |2 |3 => cases h1;cases h2;exact .v _ _
   |_ + 4 => simp at h1
 |_ + 1 => simp at e1
set_option maxRecDepth 100000 in
theorem ye_encode(W:World)(hM:∃m,W.cell? ⟨0,0,none⟩ = some (.int .i64 m)):Calls Tryz.prog 27 #[.agg #[nilV9,nilV9,nilV9,nilV9]] W fun e w' => e = .returned (.tuple #[.string ⟨#[0,0,0,0]⟩,.int .i64 0]) /\ Below W.heap.size W w' := by
 obtain⟨m,hM⟩ := hM
 obtain⟨W1,Wa⟩:∃W1,W1 = W.alloc (.cells #[nilV9,nilV9,nilV9,nilV9] 33) := ⟨_,rfl⟩
 have b1:Below W.heap.size W W1 := by rw[Wa];exact(Below.refl _ W).alloc (Nat.le_refl _) _
 have z1:W1.heap.size = W.heap.size + 1 := by rw[Wa];simp
 have k1:W1.heap[W.heap.size]? = some (.cells #[nilV9,nilV9,nilV9,nilV9] 33) := by rw[Wa];exact new_heap _ _
 have m1:∃m,W1.cell? ⟨0,0,none⟩ = some (.int .i64 m) := ⟨m,by
  rw[<-hM];simp only[World.cell?,b1.block 0 (Fz hM)]⟩
 have HW:Hid _ := Wa
 go_enter Tryz.func27,Tryz.ntmps27
 go_wp2_with (first
  |(go_at_call 48;rw[<-HW.out];refine(ye_formed _ m1).mono ?_;rintro e w2 ⟨rfl,b2⟩;have k2:w2.heap[W.heap.size]? = some (.cells #[nilV9,nilV9,nilV9,nilV9] 33) := (b2.block _ B0).trans k1;have z2:W.heap.size<w2.heap.size := (by have := b2.size;omega);have k3 := (Below.heap_alloc w2 (wrO ⟨#[]⟩) _ z2).trans k2)
  |(go_at_call 63;refine(ye_parts w2.heap.size W.heap.size B0 _ (new_heap _ _) (Lib.cell_of_heap k3 0) (Lib.cell_of_heap k3 1) (Lib.cell_of_heap k3 2) (Lib.cell_of_heap k3 3)).mono ?_;rintro e w4 ⟨rfl,hA4,b4⟩;have c4:w4.cell? ⟨w2.heap.size,0,none⟩ = some (.string ⟨#[0,0,0,0]⟩) := Lib.cell_of_heap hA4 0))
 go_ret2
 have z4:(w2.alloc (wrO ⟨#[]⟩)).heap.size = w2.heap.size + 1 := aa0
 exact⟨rfl,(b1.trans (b2.mono B0)).trans ⟨b4.os,b4.tape,b4.output,by have := b4.size;omega,fun k hk => (b4.block k B0 B0).trans (Below.heap_alloc _ _ _ B0)⟩⟩
theorem ye_enc0:PC 27 [.agg [nilA9,nilA9,nilA9,nilA9]] (.tup [Go.Eng.vs ⟨#[0,0,0,0]⟩,vi 0]) := by
 refine⟨dI 27 Tryz.func27 aa3 rfl,fun g w us hs hv hI => ?_⟩
 have hs:us.size = 1 := hs
 have hu:us = #[.agg #[nilV9,nilV9,nilV9,nilV9]] := by
  have h0 := hv 0 _ (us[0]' B0) rfl (Array.getElem?_eq_getElem B0)
  refine Array.ext hs fun i i1 i2 => ?_
  obtain rfl:i = 0 := B0
  generalize us[0] = u at h0
  cases h0 with
  |agg _ _ vs k1 k2 k3=>
   have k1:vs.size = 4 := k1
   show Value.agg vs = .agg #[nilV9,nilV9,nilV9,nilV9]
   refine congrArg Value.agg (Array.ext k1 fun j j1 j2 => ?_)
   have q := k3 j
   match j with
   |0 |1 |2 |3 => exact(q _ _ rfl (Array.getElem?_eq_getElem j1)).v_eq
   |_ + 4 => omega
 subst hu
 refine(ye_encode w hI.glob.1.2).mono ?_
 rintro e w' ⟨rfl,q⟩
 have hK:D2 g w g w' := fun b o hb => by
  grind [World.cell?,CA.slt,Go.RowKit.Below.block]
 refine⟨_,_,Ad,g,rfl,⟨rfl,rfl⟩,.tup _ _ _ rfl fun i av x e1 e2 => ?_,⟨q.os,q.tape,q.output,q.size,fun b hb _ => q.block b hb,fun b o hs => Nat.lt_of_lt_of_le (hI.slt b o hs) q.size,fun _ => trivial,fun _ _ _ h => h.elim,fun _ _ h => h.elim,fun b o hs => .inl hs,hI.glob.keep hK⟩,⟨.refl _ _,fun _ h => h,hK⟩⟩
 match i with
 |0 |1 => cases e1;cases e2;exact .v _ _
 |_ + 2 => simp at e1
end Go.Proofs
namespace Go.Eng
open Go.Proofs
variable {a:List UInt8}{m n N:Nat}
abbrev H6(c:UInt8):List AV:=[.v (.int .u8 (c.toNat:Int))]
def uL(n:Nat):List UInt8:=if n<128 then [UInt8.ofNat n]else UInt8.ofNat (n % 128+128)::uL (n / 128)
termination_by n
decreasing_by omega
theorem Zd(h:n<128):uL n=[UInt8.ofNat n]:=by rw[uL,As h]
theorem cR(h:¬n<128):uL n=UInt8.ofNat (n % 128+128)::uL (n / 128):=by rw[uL,AB h]
theorem kY(m:Nat):IntKind.wrap .u8 (m:Int)=((m % 256:Nat):Int):=by
 simp[IntKind.wrap,IntKind.signed,IntKind.bits]
theorem zM:∀b,b<256->GV .or .u8 ((b:Nat):Int) 128=((UInt8.ofNat (b % 128+128)).toNat:Int):=by decide +kernel
theorem rk(m:Nat):WH .shr .u64 (m:Int) 7=((m / 128:Nat):Int):=by
 show(m:Int).fdiv (2 ^ min (7:Int).toNat IntKind.u64.bits)=_;rw[show(2 ^ min (7:Int).toNat IntKind.u64.bits:Int)=128 by decide,Int.fdiv_eq_ediv_of_nonneg _ aa2];omega
theorem nt:GV .or .u8 (IntKind.wrap .u8 (m:Int)) 128=((UInt8.ofNat (m % 128+128)).toNat:Int):=by
 rw[kY,zM _ (Nat.mod_lt _ aa2),show m % 256 % 128=m % 128 by omega]
theorem mT:IntKind.wrap .u8 (m:Int)=((UInt8.ofNat m).toNat:Int):=by
 rw[kY]
 have:(UInt8.ofNat m).toNat=m % 256:=rfl
 rw[this]
theorem n8(hN:N<18446744073709551616)(h:a=[]\/1<=m)(k:m*128 ^ a.length<=N):a.length<=1000000:=by
 rcases h with rfl | h
 .simp
 .rcases BJ a.length 10 with q | q
  .omega
  .have h1:128 ^ 10<=128 ^ a.length:=Lr aa2 q;have h2:1*128 ^ a.length<=m*128 ^ a.length:=AZ _ h;have h3:(128:Nat) ^ 10=1180591620717411303424:=aa2
   omega
theorem kS{c:UInt8}(k:m*128 ^ a.length<=N):m / 128*128 ^ (a.length+[c].length)<=N:=by
 rw[A5,Nk,<-Nat.mul_assoc,Nat.mul_right_comm];exact AO (AZ _ (Nat.div_mul_le_self m 128)) k
def uB(n:Nat):ByteArray:=⟨(uL n).toArray⟩
theorem vL(N:Nat)(hN:N<18446744073709551616):PC 439 [.v (.int .u64 (N:Int))] (vs (uB N)):=by
 refine CV (T4 (pT [] [(3,1)] [])) rfl BB hm rfl Tryz.func439 aa3 rfl (Ak rfl) aa3 (Exists.intro {q:Nat×List UInt8 // q.2++uL q.1=uL N/\(q.2=[]\/1<=q.1)/\q.1*128 ^ q.2.length<=N} (Exists.intro (fun q=>⟨[(0,.v (.int .u64 (q.1.1:Int))),(3,.slice (.id 3 1) (q.1.2.map H6))],[(3,.tok 1 (q.1.2.map H6).length)],Ad⟩) (Exists.intro (fun q=>q.1.1) (And.intro (Exists.intro ⟨(N,[]),rfl,.inl rfl,by simp⟩ ?_) ?_))))
 .exact⟨⟨⟨rfl,rfl⟩,⟨rfl,rfl⟩,trivial⟩,⟨⟨rfl,rfl⟩,trivial⟩,fun _=>.inl rfl,trivial⟩
 intro⟨⟨m,a⟩,i1,i2,i3⟩;have i1:a++uL m=uL N:=i1;have i2:a=[]\/1<=m:=i2;have i3:m*128 ^ a.length<=N:=i3;have aL:a.length<=1000000:=n8 hN i2 i3;have aT:(a.map H6).length<=1000000:=by rw[AW];exact aL
 refine And.intro (fun h1=>?_) (fun h1=>?_)
 .have h1:(127:Int)<((m:Int):Int):=h1;have b2:BX 1 [[.v (.int .u8 (GV .or .u8 (IntKind.wrap .u8 (m:Int)) 128))]]/\(a.map H6).length=(a.map H6).length/\((a.map H6).length+([[.v (.int .u8 (GV .or .u8 (IntKind.wrap .u8 (m:Int)) 128))]]:List (List AV)).length)*1<=140737488355328/\(a.map H6).length+([[.v (.int .u8 (GV .or .u8 (IntKind.wrap .u8 (m:Int)) 128))]]:List (List AV)).length<=9223372036854775807:=⟨⟨rfl,trivial⟩,rfl,(by simp only[AW,AF,A0];omega),(by simp only[AW,AF,A0];omega)⟩;refine And.intro b2 (And.intro aa2 ?_);have ew:((a.map H6)++[[.v (.int .u8 (GV .or .u8 (IntKind.wrap .u8 (m:Int)) 128))]])=(a++[UInt8.ofNat (m % 128+128)]).map H6:=by rw[AG,nt];rfl
  refine Exists.intro ⟨(m / 128,a++[UInt8.ofNat (m % 128+128)]),by rw[<-i1,cR (show ¬m<128 by omega),AK];rfl,.inr (show 1<=m / 128 by omega),by rw[Aa];exact kS i3⟩ ?_;exact⟨by show(m / 128)<m;omega,⟨⟨(Ab (fun z:Int=>AV.v (.int .u64 z)) (rk m)),rfl⟩,⟨(Ab (AV.slice (.id 3 1)) ew),rfl⟩,trivial⟩,⟨⟨(show HO.tok 1 ((a.map H6).length+([[.v (.int .u8 (GV .or .u8 (IntKind.wrap .u8 (m:Int)) 128))]]:List (List AV)).length)=.tok 1 ((a++[UInt8.ofNat (m % 128+128)]).map H6).length from Ab (HO.tok 1) (Aa.symm.trans (Ab List.length ew))),rfl⟩,trivial⟩,fun _=>.inl rfl,trivial⟩
 have h1:¬((127:Int)<((m:Int):Int)):=h1;have b4:BX 1 [[.v (.int .u8 (IntKind.wrap .u8 (m:Int)))]]/\(a.map H6).length=(a.map H6).length/\((a.map H6).length+([[.v (.int .u8 (IntKind.wrap .u8 (m:Int)))]]:List (List AV)).length)*1<=140737488355328/\(a.map H6).length+([[.v (.int .u8 (IntKind.wrap .u8 (m:Int)))]]:List (List AV)).length<=9223372036854775807:=⟨⟨rfl,trivial⟩,rfl,(by simp only[AW,AF,A0];omega),(by simp only[AW,AF,A0];omega)⟩;refine And.intro b4 (Exists.intro (uL N) (And.intro (show((a.map H6)++[[.v (.int .u8 (IntKind.wrap .u8 (m:Int)))]])=(uL N).map H6 by rw[<-i1,Zd (show m<128 by omega),AG,mT];rfl) ?_));exact .refl _
end Go.Eng
namespace Go.Proofs
open Go.Shelf Go.RowKit Go.Lib Go.Sort Go.Eng
abbrev bB(l:List UInt8):ByteArray:=⟨l.toArray⟩
theorem bB_app(a b:List UInt8):bB a++bB b=bB (a++b):=ByteArray.ext (by simp[ByteArray.data_append])
theorem bB_size(a:List UInt8):(bB a).size=a.length:=rfl
theorem bB_data(x:ByteArray):bB x.data.toList=x:=ByteArray.ext aa0
def tL(x:ByteArray):List UInt8:=uL x.size++x.data.toList
abbrev HM(W:World):Prop:=∃m,W.cell? ⟨0,0,none⟩=some (.int .i64 m)
theorem HM.drew{W:World}(h:HM W):HM W.drew:=h
theorem HM.below{W w' : World}(h:HM W)(b:Below W.heap.size W w'):HM w':=h.imp fun m hm=>by
 rw[<-hm];simp only[World.cell?,b.block 0 (Fz hm)]
theorem HM.alloc{W:World}(h:HM W)(o:Obj):HM (W.alloc o):=h.imp fun m hm=>by
 rw[<-hm];simp only[World.cell?];rw[Below.heap_alloc _ _ _ (Fz hm)]
theorem yg_uns(n:Nat)(hn:n<18446744073709551616)(W:World)(hM:HM W):Calls Tryz.prog 439 #[.int .u64 (n:Int)] W fun e w'=>e=.returned (.string (bB (uL n)))/\Below W.heap.size W w':=by
 refine(below_of (vals:=#[.int .u64 (n:Int)]) (vL n hn) hM rfl (fun i av x e1 e2=>?_)).mono fun e W' ⟨⟨v,g',U,e1,e2⟩,hb⟩=>⟨by rw[e1,e2.v_eq];rfl,hb⟩
 match i with
 |0=>cases e1;cases e2;exact .v _ _
 |_+1=>simp at e1
theorem wrapU64{n:Nat}(hn:n<9223372036854775808):IntKind.wrap .u64 (n:Int)=(n:Int):=by
 simp[IntKind.wrap,IntKind.signed,IntKind.bits];omega
theorem yg_uint(n:Nat)(hn:n<9223372036854775808)(W:World)(hM:HM W):Calls Tryz.prog 437 #[.int .i64 (n:Int)] W fun e w'=>e=.returned (.tuple #[.string (bB (uL n)),.int .i64 0])/\Below W.heap.size W w':=by
 have h1:=wrapU64 hn;have h0:¬(n:Int)<0:=B0
 go_enter Tryz.func437,Tryz.ntmps437
 go_wp2_with (go_at_call 439;refine(yg_uns n B0 _ hM).mono ?_;rintro e w' ⟨rfl,hb⟩)
 go_ret2
 exact⟨rfl,hb⟩
theorem yg_txt(x:ByteArray)(hn:(tL x).length<9223372036854775808)(W:World)(hM:HM W):Calls Tryz.prog 438 #[.string x] W fun e w'=>e=.returned (.string (bB (tL x)))/\Below W.heap.size W w':=by
 have hx:x.size<9223372036854775808:=by
  have:(tL x).length=(uL x.size).length+x.data.toList.length:=List.length_append
  have e:x.data.toList.length=x.size:=rfl;omega
 have h1:=wrapU64 hx;have ex:bB (uL x.size)++x=bB (tL x):=by
  conv=>lhs;rw[<-bB_data x]
  exact bB_app _ _
 have hk:(((bB (uL x.size)).size+x.size:Nat):Int)<=9223372036854775807:=by
  have:(tL x).length=(uL x.size).length+x.data.toList.length:=List.length_append
  have e:x.data.toList.length=x.size:=rfl;have e2:(bB (uL x.size)).size=(uL x.size).length:=rfl;omega
 go_enter Tryz.func438,Tryz.ntmps438
 go_wp2_with (go_at_call 439;refine(yg_uns x.size B0 _ hM).mono ?_;rintro e w' ⟨rfl,hb⟩)
 go_ret
 exact⟨rfl,hb⟩
abbrev pA(b o:Nat):Value:=.pointer (some ⟨b,o,none⟩)
abbrev ifW(A:Nat):Value:=.iface 119 (pA A 0)
abbrev WPost(A:Nat)(l:List UInt8)(W:World)(e:Ending)(w' : World):Prop:=e=.returned (.tuple #[])/\w'.heap[A]?=some (wrO (bB l))/\WrB W.heap.size A W w'
structure WOk(A:Nat)(l:List UInt8)(W:World):Prop where
 hA:W.heap[A]?=some (wrO (bB l))
 hM:HM W
theorem WOk.lt{A:Nat}{l:List UInt8}{W:World}(h:WOk A l W):A<W.heap.size:=(Array.getElem?_eq_some_iff.1 h.hA).1
theorem WOk.ne0{A:Nat}{l:List UInt8}{W:World}(h:WOk A l W):0≠A:=by
 rintro rfl
 obtain⟨m,hm⟩:=h.hM;rw[Lib.cell_of_heap h.hA 0]at hm;cases hm
theorem WOk.step{A:Nat}{l l' : List UInt8}{W W' : World}(h:WOk A l W)(hA:W'.heap[A]?=some (wrO (bB l')))(b:WrB W.heap.size A W W'):WOk A l' W':=⟨hA,h.hM.imp fun _ hm=>b.cell h.ne0 hm⟩
theorem WOk.drew{A:Nat}{l:List UInt8}{W:World}(h:WOk A l W):WOk A l W.drew:=⟨h.hA,h.hM⟩
theorem WOk.alloc{A:Nat}{l:List UInt8}{W:World}(h:WOk A l W)(o:Obj):WOk A l (W.alloc o):=⟨(Below.heap_alloc _ _ _ h.lt).trans h.hA,h.hM.imp fun m hm=>by
 rw[<-hm];simp only[World.cell?];rw[Below.heap_alloc _ _ _ (Fz hm)]⟩
theorem WrB.undrew{A:Nat}{W w' : World}(h:WrB W.drew.heap.size A W.drew w'):WrB W.heap.size A W w':=⟨h.os,h.tape,h.output,h.size,h.block⟩
theorem wset{A:Nat}{l m:List UInt8}{W w' : World}(IJ : w'.heap[A]?=some (wrO (bB l)))(hb:Below W.heap.size W w') :
  (w'.setCell ⟨A,0,none⟩ (.string (bB l++bB m))).heap[A]?=some (wrO (bB (l++m)))/\WrB W.heap.size A W (w'.setCell ⟨A,0,none⟩ (.string (bB l++bB m))):=by
 refine⟨?_,hb.os,hb.tape,hb.output,by simp[World.setCell];exact hb.size,fun k hk CU=>(Below.heap_setCell _ _ _ _ CU).trans (hb.block k hk)⟩;show(w'.heap.modify A _)[A]?=_;rw[Array.getElem?_modify,if_pos rfl,IJ,<-bB_app];rfl
theorem yg_number(A b o n:Nat)(l:List UInt8)(W:World)(h:WOk A l W)(hp:W.cell? ⟨b,o,none⟩=some (.int .i64 (n:Int)))(hn:n<9223372036854775808)(hs:(l++uL n).length<9223372036854775808) :
  Calls Tryz.prog 435 #[pA A 0,pA b o] W (WPost A (l++uL n) W):=by
 have BW:=h.lt;have hk:(((bB l).size+(bB (uL n)).size:Nat):Int)<=9223372036854775807:=by
  rw[List.length_append]at hs;simp only[bB_size];omega
 go_enter Tryz.func435,Tryz.ntmps435
 go_wp2_with (go_at_call 437;refine(yg_uint n hn _ h.hM).mono ?_;rintro e w' ⟨rfl,bJ⟩;have IJ : w'.heap[A]?=some (wrO (bB l)):=(bJ.block A BW).trans h.hA;have c1:w'.cell? ⟨A,0,none⟩=some (.string (bB l)):=Lib.cell_of_heap IJ 0;have c2:=Lib.frozen_of_heap IJ 0)
 exact bodyPost_end (results_none rfl _ _ _) rfl ⟨rfl,wset IJ bJ⟩
theorem yg_count(A n:Nat)(l:List UInt8)(W:World)(h:WOk A l W)(hn:n<9223372036854775808)(hs:(l++uL n).length<9223372036854775808) :
  Calls Tryz.prog 434 #[pA A 0,.int .i64 (n:Int)] W fun e w'=>e=.returned (.int .i64 (n:Int))/\w'.heap[A]?=some (wrO (bB (l++uL n)))/\WrB W.heap.size A W w':=by
 have BW:=h.lt
 go_enter Tryz.func434,Tryz.ntmps434
 go_wp2_with (go_at_call 435;refine(yg_number A W.heap.size 0 n l _ (h.alloc _) (Lib.cell_of_heap (new_heap _ _) 0) hn hs).mono ?_;rintro e w' ⟨rfl,IJ,hb⟩;have c1:w'.cell? ⟨W.heap.size,0,none⟩=some (.int .i64 (n:Int)):=Lib.cell_of_heap ((hb.block _ aa0 B0).trans (new_heap _ _)) 0)
 go_ret
 exact⟨rfl,IJ,hb.alloc⟩
set_option maxRecDepth 100000 in
theorem yg_text(A b o:Nat)(x:ByteArray)(l:List UInt8)(W:World)(h:WOk A l W)(hp:W.cell? ⟨b,o,none⟩=some (.string x))(hs:(l++tL x).length<9223372036854775808) :
  Calls Tryz.prog 436 #[pA A 0,pA b o] W (WPost A (l++tL x) W):=by
 have BW:=h.lt;have hl:=hs;rw[List.length_append]at hl;have hk:(((bB l).size+(bB (tL x)).size:Nat):Int)<=9223372036854775807:=by
  simp only[bB_size];omega
 have c0:W.drew.cell? ⟨A,0,none⟩=some (.string (bB l)):=Lib.cell_of_heap (w:=W.drew) h.hA 0;have qA:W.drew.cell? ⟨b,o,none⟩=some (.string x):=hp
 go_enter Tryz.func436,Tryz.ntmps436
 go_wp2
 go_region_with (go_at_call 438;refine(yg_txt x B0 W.drew h.drew.hM).mono ?_;rintro e w' ⟨rfl,bJ⟩;have IJ : w'.heap[A]?=some (wrO (bB l)):=(bJ.block A BW).trans h.hA;have c1:w'.cell? ⟨A,0,none⟩=some (.string (bB l)):=Lib.cell_of_heap IJ 0;have c2:=Lib.frozen_of_heap IJ 0)
 all_goals exact bodyPost_end (results_none rfl _ _ _) rfl ⟨rfl,(wset IJ bJ).1,(wset IJ bJ).2.undrew⟩
theorem yg_nn (a : Addr) (w : World) : (nilAhead 601 119 (.pointer (some a)) "modcert/lock.number").run Tryz.prog w = .ok (some false) w := by kernel_rfl
theorem yg_nm (a : Addr) (w : World) : (method 601 119 (.pointer (some a)) "modcert/lock.number").run Tryz.prog w = .ok (435, .pointer (some a)) w := by kernel_rfl
theorem yg_tn (a : Addr) (w : World) : (nilAhead 601 119 (.pointer (some a)) "modcert/lock.text").run Tryz.prog w = .ok (some false) w := by kernel_rfl
theorem yg_tm (a : Addr) (w : World) : (method 601 119 (.pointer (some a)) "modcert/lock.text").run Tryz.prog w = .ok (436, .pointer (some a)) w := by kernel_rfl
def nsL(ns:List Nat):List UInt8:=ns.flatMap uL
theorem nsL_next{ns:List Nat}{k:Nat}(h:k<ns.length):nsL (ns.take k)++uL ns[k]=nsL (ns.take (k+1)):=by
 unfold nsL;rw[List.take_add_one,List.getElem?_eq_getElem h,List.flatMap_append];simp
theorem nsL_le(ns:List Nat)(k:Nat):(nsL (ns.take k)).length<=(nsL ns).length:=by
 conv=>rhs;rw[<-List.take_append_drop k ns]
 unfold nsL;rw[List.flatMap_append,List.length_append];omega
set_option maxRecDepth 100000 in
theorem yg_numbers(A C cap:Nat)(b:Nat)(o:Nat->Nat)(ns:List Nat)(l:List UInt8)(W:World)(h:WOk A l W)(hb:b≠A)(hC:C≠A)(hp:∀i (hi:i<ns.length),W.cell? ⟨C,i,none⟩=some (pA b (o i))/\W.cell? ⟨b,o i,none⟩=some (.int .i64 (ns[i]:Int))/\ns[i]<9223372036854775808)(hs:(l++nsL ns).length<9223372036854775808)(hl:ns.length<=100) :
  Calls Tryz.prog 124 #[ifW A,.slice (some ⟨C,0,none⟩) ns.length cap] W (WPost A (l++nsL ns) W):=by
 have n1:=yg_nn ⟨A,0,none⟩;have m1:=yg_nm ⟨A,0,none⟩
 go_enter Tryz.func124,Tryz.ntmps124
 go_wp2
 go_loopw [8] (fun i wr=>∃k:Nat,k<=ns.length/\i=.int .i64 k/\wr.heap[A]?=some (wrO (bB (l++nsL (ns.take k))))/\WrB W.heap.size A W wr) (fun i _=>ns.length-(intOf i).toNat)
 case atStart=>exact⟨0,Nat.zero_le _,rfl,by rw[List.take_zero,show nsL []=[]from rfl,List.append_nil];exact h.hA,⟨rfl,rfl,rfl,Nat.le_refl _,fun _ _ _=>rfl⟩⟩
 case round=>
  obtain⟨k,hk,rfl,IJ,hw⟩:=hrel;rcases Nat.lt_or_ge k ns.length with BW | WT
  .obtain⟨p1,p2,p3⟩:=hp k BW;have c1:=hw.cell hC p1;have c2:=hw.cell hb p2;have Pk : l++nsL (ns.take k)++uL ns[k]=l++nsL (ns.take (k+1)):=by rw[List.append_assoc,nsL_next BW]
   go_wp2_with (go_at_call 435;refine(yg_number A b (o k) ns[k] _ _ (h.step IJ hw) c2 p3 (by rw[Pk,List.length_append];have:=nsL_le ns (k+1);rw[List.length_append]at hs;omega)).mono ?_;rintro e w' ⟨rfl,Ki,OD⟩)
   go_roundw
   case rel=>exact⟨k+1,BW,by go_num,by rw[<-Pk];exact Ki,hw.trans OD⟩
   case measure=>simp[intOf];omega
  .obtain rfl:k=ns.length:=B0
   go_wp2
   exact bodyPost_end (results_none rfl _ _ _) rfl ⟨rfl,by rw[List.take_length]at IJ;exact IJ,hw⟩
def liL{α:Type}(f:α->List UInt8)(l:List α):List UInt8:=uL l.length++l.flatMap f
def spL(s:Int×Int):List UInt8:=nsL [s.1.toNat,s.2.toNat]
def rqL(q:Rq):List UInt8:=tL q.path++liL spL q.set
def loL(e:Lo):List UInt8:=tL e.path++nsL [e.ver.b.toNat,e.ver.c.toNat]++tL e.arch++tL e.ifc
def nfL(i:Nf):List UInt8:=uL i.kind.toNat++tL i.path++nsL [i.place.toNat,i.number.toNat,i.left.toNat,i.right.toNat]
def skL(s:Sk):List UInt8:=tL s.path++nsL [s.place.toNat,s.inf.toNat]
def lkL(l:Lk):List UInt8:=liL rqL l.roots++liL loL l.ents++liL nfL l.infs++liL skL l.skips
structure IOk(n:Int):Prop where
 pos:0<=n
 lt:n<9223372036854775808
theorem IOk.nat{n:Int}(h:IOk n):n.toNat<9223372036854775808:=by have:=h.1;have:=h.2;omega
theorem rcells{g:Gh}{W:World}{cs:List AV}{b off:Nat}(h:A3 g W DR (.cptr cs) (pA b off))(j:Nat)(av:AV)(e:cs[j]?=some av):g.S b (off+j)/\∃v,W.cell? ⟨b,off+j,none⟩=some v/\A3 g W DR av v:=by
 cases h with
 |cptr _ _ _ _ val hc hr=>exact⟨(hc j av e).1,val j,(hc j av e).2.1,hr j av e⟩
theorem rcell_v{g:Gh}{W:World}{cs:List AV}{b off:Nat}(h:A3 g W DR (.cptr cs) (pA b off))(j:Nat)(x:Value)(e:cs[j]?=some (.v x)):W.cell? ⟨b,off+j,none⟩=some x:=by
 obtain⟨_,v,h1,h2⟩:=rcells h j _ e;rw[h1,h2.v_eq]
theorem rcell_i{g:Gh}{W:World}{cs:List AV}{b off:Nat}(h:A3 g W DR (.cptr cs) (pA b off))(j:Nat){n:Int}(hn:IOk n)(e:cs[j]?=some (vi n)):W.cell? ⟨b,off+j,none⟩=some (.int .i64 (n.toNat:Int)):=by
 rw[rcell_v h j _ e,Int.toNat_of_nonneg hn.1]
def WC(f:Nat)(cs:List AV)(bs:List UInt8):Prop:=∀(g:Gh) (A b off:Nat) (l:List UInt8) (W:World),WOk A l W->(∀b o,g.S b o->b<W.heap.size/\b≠A)->A3 g W DR (.cptr cs) (pA b off)->(l++bs).length<9223372036854775808 ->
 Calls Tryz.prog f #[ifW A,pA b off] W (WPost A (l++bs) W)
end Go.Proofs
namespace Go.Eng
open Go.Proofs
variable {j n:Nat}(s:ByteArray)
def Ce(i:Nat):UInt8:=s.data[i]?.getD 0
theorem lH{s:ByteArray}{z:Int}(h:n<s.size)(e:z=(n:Int)):(0:Int)<=z/\s.data[z.toNat]?=some (Ce s n):=by
 subst e;refine⟨NX n,?_⟩;have h:n<s.data.size:=h
 grind [Ce]
theorem Pw{s:ByteArray}{p:Nat}(h:p<s.size):s.data.toList.drop p=Ce s p::s.data.toList.drop (p+1):=by
 have h' : p<s.data.toList.length:=h;rw[Bh h'];unfold Ce;rw[<-Be,Aw h'];rfl
def Mg:Nat->Nat->Nat->List UInt8->Nat×Nat×Bool
 |_,_,_,[]=>(0,0,false)
 |j,m,p,b::r=>if 10<=j then(0,0,false)else if j=9/\1<b.toNat then(0,0,false)else if b.toNat<128 then(m+b.toNat*128 ^ j,p+1,decide (0<b.toNat\/j=0))else Mg (j+1) (m+(b.toNat-128)*128 ^ j) (p+1) r
abbrev Fs(a:Nat):Nat×Nat×Bool:=Mg 0 0 a (s.data.toList.drop a)
abbrev scV(r:Nat×Nat×Bool):AV:=.tup [.v (.int .u64 (r.1:Int)),vi (r.2.1:Nat),vb r.2.2]
section
variable {s:ByteArray}{a j m p:Nat}
theorem aX(h:s.size<=p):Mg j m p (s.data.toList.drop p)=(0,0,false):=by
 have h' : s.data.toList.length<=p:=h;rw[Fo h'];unfold Mg;rfl
theorem aY(h:10<=j)(l:List UInt8):Mg j m p l=(0,0,false):=by
 unfold Mg;split
 .rfl
 .simp[h]
theorem aW(h:p<s.size)(h9:j=9)(hb:1<(Ce s p).toNat):Mg j m p (s.data.toList.drop p)=(0,0,false):=by
 rw[Pw h,Mg,AB B0,As ⟨h9,hb⟩]
theorem MI(h:p<s.size)(hj:j<=9)(hn:¬(j=9/\1<(Ce s p).toNat))(hb:(Ce s p).toNat<128):Mg j m p (s.data.toList.drop p)=(m+(Ce s p).toNat*128 ^ j,p+1,decide (0<(Ce s p).toNat\/j=0)):=by
 rw[Pw h,Mg,AB B0,AB hn,As hb]
theorem nS(h:p<s.size)(hj:j<=9)(hn:¬(j=9/\1<(Ce s p).toNat))(hb:¬(Ce s p).toNat<128):Mg j m p (s.data.toList.drop p)=Mg (j+1) (m+((Ce s p).toNat-128)*128 ^ j) (p+1) (s.data.toList.drop (p+1)):=by
 conv=>lhs;rw[Pw h,Mg,AB B0,AB hn,AB hb]
end
theorem pv:∀b,b<256->GV .and .u8 ((b:Nat):Int) 127=((b % 128:Nat):Int):=by decide +kernel
theorem uA(j:Nat):128 ^ j=2 ^ (7*j):=by rw[Nat.pow_mul]
theorem ry(h:n<18446744073709551616):IntKind.wrap .u64 (n:Int)=(n:Int):=by
 simp[IntKind.wrap,IntKind.signed,IntKind.bits];omega
theorem nA(h:j<=9):128 ^ j<=9223372036854775808:=AO (Lr aa2 h) aa2
theorem vr{c:Nat}(hj:j<=9)(hc:c<128)(h9:j=9->c<=1):c*128 ^ j<=9223372036854775808:=by
 rcases BJ j 9 with h | h
 .have h1:128 ^ j<=128 ^ 8:=Lr aa2 B0;have h2:c*128 ^ j<=127*128 ^ 8:=Nat.mul_le_mul B0 h1;exact AO h2 aa2
 .obtain rfl:j=9:=B0
  exact AO (AZ _ (h9 rfl)) aa2
theorem QX{m b:Nat}(hj:j<=9)(hm:m<128 ^ j)(hb:b<256)(h9:j=9->b % 128<=1) :
  GV .or .u64 (m:Int) (WH .shl .u64 (IntKind.wrap .u64 (GV .and .u8 (b:Int) 127)) (7*(j:Int)))=((m+b % 128*128 ^ j:Nat):Int):=by
 have hc:b % 128<128:=Nat.mod_lt _ aa2;have hl:=vr hj hc h9;have hp:=nA hj;rw[pv b hb,ry B0];have e1:WH .shl .u64 ((b % 128:Nat):Int) (7*(j:Int))=((b % 128*128 ^ j:Nat):Int):=by
  show IntKind.wrap .u64 (((b % 128:Nat):Int)*2 ^ min (7*(j:Int)).toNat IntKind.u64.bits)=_;rw[show min (7*(j:Int)).toNat IntKind.u64.bits=7*j by show min _ 64=_;omega];rw[show(((b % 128:Nat):Int)*2 ^ (7*j))=((b % 128*128 ^ j:Nat):Int) by rw[uA];push_cast;rfl];exact ry B0
 rw[e1];show IntKind.wrap .u64 ((BitVec.ofInt 64 (m:Int) ||| BitVec.ofInt 64 ((b % 128*128 ^ j:Nat):Int)).toNat:Nat)=_;rw[BitVec.ofInt_natCast,BitVec.ofInt_natCast,BitVec.toNat_or,BitVec.toNat_ofNat,BitVec.toNat_ofNat,Nat.mod_eq_of_lt B0,Nat.mod_eq_of_lt B0];have e2:m ||| b % 128*128 ^ j=m+b % 128*128 ^ j:=by
  rw[uA]at hm⊢;rw[Nat.or_comm,Nj,<-Nat.two_pow_add_eq_or_of_lt hm,Nat.add_comm]
 rw[e2];exact ry B0
theorem vt{m b:Nat}(hm:m<128 ^ j):m+b % 128*128 ^ j<128 ^ (j+1):=by
 have h1:b % 128*128 ^ j<=127*128 ^ j:=AZ _ B0;rw[Nk];omega
end Go.Eng
