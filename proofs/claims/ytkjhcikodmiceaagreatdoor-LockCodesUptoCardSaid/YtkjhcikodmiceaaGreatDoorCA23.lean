/- Lemmas 23. -/
import Derived.Test.YtkjhcikodmiceaaGreatDoorCA22
set_option maxHeartbeats 4000000
set_option maxRecDepth 100000
namespace Go.Eng
abbrev As2:=List UInt8
abbrev Ab4:=@Lib.cell_of_heap
variable (x:List F)
structure Lo where
 path:CS
 ver:Ver
 arch:CS
 ifc:CS
variable (e:Lo)
structure Lk where
 roots:List Rq
 ents:List Lo
 infs:List Nf
 skips:List Sk
variable (l:Lk)
abbrev DH:Sl:=⟨e.path,e.ver⟩
abbrev JS:List Sl:=l.ents.map DH
abbrev UZ:An:=⟨true,JS l,l.infs,l.skips⟩
def G0:Bool:=decide (AR e.path=some e.ver.a)&&Cf e.ver&&Dr e.arch&&Dr e.ifc
def OJ(i:Nf):Bool:=decide (0<=i.kind/\i.kind<=3/\i.path.size<=64/\0<=i.place/\0<=i.number/\0<=i.left/\0<=i.right)
def OO(s:Sk):Bool:=decide (s.path.size<=64/\0<=s.place/\0<=s.inf)
def Cz:Bool:=decide (Bb l.roots=0)&&(decide (l.ents.length<=1024)&&(decide (l.infs.length<=65536)&&(decide (l.skips.length<=65536)&&(B5 (JS l)&&(l.ents.all G0&&(l.infs.all OJ&&l.skips.all OO))))))
def Oo:Bool:=match BG x (DH e)with
 |none=>false
 |some r=>decide (e.arch=r.arch)&&decide (e.ifc=r.ifc)
def pH:Int:=
 if AU x≠0\/Cz l=false then 1
 else if l.ents.all (fun e=>(BG x (DH e)).isSome)=false then 6
 else if l.ents.all (Oo x)=false then 9
 else if HT x l.roots (UZ l)≠0 then 18 else 0
section
variable {x:List F}{l m:Lk}
def Jb(x:List F)(y:Sl):Lo:=match BG x y with
 |none=>⟨y.path,y.ver,⟨#[]⟩,⟨#[]⟩⟩
 |some r=>⟨y.path,y.ver,r.arch,r.ifc⟩
def mkL(x:List F)(roots:List Rq)(a:An):Lk:=⟨roots,a.sel.map (Jb x),a.infs,a.skips⟩
end
end Go.Eng
namespace Go.Eng
open Go.Proofs Go.Proofs.Tryz
variable {caps:List AV}{fF:Nat}(p s:CS)
abbrev Cr(e:Lo):List AV:=[vs e.path,G e.ver.a,G e.ver.b,G e.ver.c,vs e.arch,vs e.ifc]
abbrev Bu(l:Lk):List AV:=[sl Ak l.roots,sl Cr l.ents,sl A8 l.infs,sl AT l.skips]
theorem Uy{l:List Lo}{i:Nat}(h:i<l.length):(l.take (i+1)).map DH=(l.take i).map DH++[DH l[i]]:=by rw[Gr h,Au];rfl
theorem Aaf(l:Lk)(hl:l.ents.length<=10^6):PC 20 [.agg (Bu l)] (sl Ar (JS l)):=by
 refine Ps (pT [1] [(3,4)] []) func20 rfl C4 (M {q:Nat // q<=l.ents.length} (M (fun q=>⟨[(3,.slice (.id 3 4) (((l.ents.take q.1).map DH).map Ar)),(7,sl Cr l.ents),(8,G (l.ents.map Cr).length),(9,G q.1)],[(3,.tok 4 ((l.ents.take q.1).map DH).length)],Ab⟩) (M (fun q=>l.ents.length-q.1) (J (M ⟨0,Ai _⟩ ?_) ?_))))
 .exact⟨Z4,Z1,Fh,X⟩
 intro⟨i,i1⟩;have hT:((l.ents.take i).map DH).length<=2^30:=(by rw[Lm,Bf];omega);refine J (fun h1=>?_) (fun h1=>?_)
 .have h1:(i:Int)<((l.ents.map Cr).length:Int):=h1;have n1:=Gj h1;refine M (Cr l.ents[i]) (J (IM n1) (J rfl (U (U (U (J (cp rfl (show((l.ents.take i).map DH).length<=2147483647 by omega) aa3) (J (Ii i I) (M ⟨i+1,n1⟩ ?_))))))));exact⟨Dl l.ents.length i I,⟨⟨(show AV.slice (.id 3 4) (((l.ents.take i).map DH).map Ar++[[vs l.ents[i].path,G l.ents[i].ver.a,G l.ents[i].ver.b,G l.ents[i].ver.c]])=.slice (.id 3 4) (((l.ents.take (i+1)).map DH).map Ar) by rw[Uy n1,Au];rfl),rfl⟩,Z,Z,Z,X⟩,⟨⟨(show HO.tok 4 ((((l.ents.take i).map DH).map Ar).length+([[vs l.ents[i].path,G l.ents[i].ver.a,G l.ents[i].ver.b,G l.ents[i].ver.c]]:C0).length)=.tok 4 ((l.ents.take (i+1)).map DH).length by rw[Uy n1];simp),rfl⟩,X⟩,Fh,X⟩
 have n1:=D6 h1;exact Da.of_eq (show sl Ar ((l.ents.take i).map DH)=sl Ar (JS l) by rw[AD (BL (D6 h1))])
theorem AcY(l:Lk)(hl:l.ents.length<=10^6):PC 15 [.agg (Bu l)] (sl Ar (JS l)):=by
 refine Ps (pC [1] []) func15 rfl C4 (M {q:Nat // q<=l.ents.length} (M (fun q=>⟨[(1,.ref 1 0),(3,.slice (.id 5 4) (((l.ents.take q.1).map DH).map Ar)),(4,G q.1)],[(1,.ro (Bu l)),(5,.tok 4 ((l.ents.take q.1).map DH).length)],Ab⟩) (M (fun q=>l.ents.length-q.1) (J (M ⟨0,Ai _⟩ ?_) ?_))))
 .exact⟨Z3,Z2,Fh,X⟩
 intro⟨i,i1⟩;have hT:((l.ents.take i).map DH).length<=2^30:=(by rw[Lm,Bf];omega);refine J (fun h1=>?_) (fun h1=>?_)
 .have h1:(i:Int)<((l.ents.map Cr).length:Int):=h1;have n1:=Gj h1;refine M (Cr l.ents[i]) (J (IM n1) (J rfl (M (Cr l.ents[i]) (J (IM n1) (J rfl (U (J (cp rfl (show((l.ents.take i).map DH).length<=2147483647 by omega) aa3) (J aa5 (J (Ii i I) (M ⟨i+1,n1⟩ ?_))))))))));exact⟨Dl l.ents.length i I,⟨Z,⟨(show AV.slice (.id 5 4) (((l.ents.take i).map DH).map Ar++[[vs l.ents[i].path,G l.ents[i].ver.a,G l.ents[i].ver.b,G l.ents[i].ver.c]])=.slice (.id 5 4) (((l.ents.take (i+1)).map DH).map Ar) by rw[Uy n1,Au];rfl),rfl⟩,Z,X⟩,⟨Z,⟨(show HO.tok 4 ((((l.ents.take i).map DH).map Ar).length+([[vs l.ents[i].path,G l.ents[i].ver.a,G l.ents[i].ver.b,G l.ents[i].ver.c]]:C0).length)=.tok 4 ((l.ents.take (i+1)).map DH).length by rw[Uy n1];simp),rfl⟩,X⟩,Fh,X⟩
 have n1:=D6 h1;exact Da.of_eq (show sl Ar ((l.ents.take i).map DH)=sl Ar (JS l) by rw[AD (BL (D6 h1))])
theorem AgV(l:Lk)(hl:l.ents.length<=10^6):PC 50 [.agg (Bu l)] (.agg [Q true,sl Ar (JS l),sl A8 l.infs,sl AT l.skips]):=by
 refine Ps (pC [1] []) func50 rfl C4 (U (H (Aaf l hl) (U (J aa5 (U ?_)))));exact .refl _
theorem yS:PC 102 [vs s] (Q (Dr s)):=by
 refine Ps CF func102 rfl C4 (J (fun h1=>?_) (fun h1=>?_))
 .exact Da.of_eq (Aa Q (show true=Dr s by unfold Dr;rw[Aq (show s.size=0 by have q:=h1;omega)];rfl))
 refine J (fun h3=>?_) (fun h3=>?_)
 .exact Da.of_eq (Aa Q (show true=Dr s by unfold Dr;rw[Al (show ¬s.size=0 by have q:=h1;omega)];rw[Aq (show s.size=32 by have q:=h3;omega)];rfl))
 exact Da.of_eq (Aa Q (show false=Dr s by unfold Dr;rw[Al (show ¬s.size=0 by have q:=h1;omega)];rw[Al (show ¬s.size=32 by have q:=h3;omega)];rfl))
theorem mr:PC 62 [vs s] (Q (Dr s)):=by
 refine Ps CF func62 rfl C4 (J (fun h1=>?_) (fun h1=>?_))
 .exact Da.of_eq (Aa Q (show true=Dr s by unfold Dr;rw[Aq (show s.size=0 by have q:=h1;omega)];rfl))
 refine J (fun h3=>?_) (fun h3=>?_)
 .exact Da.of_eq (Aa Q (show true=Dr s by unfold Dr;rw[Al (show ¬s.size=0 by have q:=h1;omega)];rw[Aq (show s.size=32 by have q:=h3;omega)];rfl))
 exact Da.of_eq (Aa Q (show false=Dr s by unfold Dr;rw[Al (show ¬s.size=0 by have q:=h1;omega)];rw[Al (show ¬s.size=32 by have q:=h3;omega)];rfl))
theorem Am5(hs:CX caps)(l:List (Int))(p:Int->Bool)(hF:∀x∈l,PC fF ([G x]++caps) (Q (p x)))(hl:l.length<2^63-1) :
  PC 255 [sl JG l,.clo fF caps] (G (KI p l 0)):=by
 refine Ps CF func255 rfl C4 (M {i:Nat // i<=l.length/\∀j (hj:j<l.length),j<i->p l[j]=false} (M (fun i=>⟨[(0,sl JG l),(1,.clo fF caps),(7,G (l.map JG).length),(8,G i.1)],[],Ab⟩) (M (fun i=>l.length-i.1) (J (M ⟨0,by simp⟩ ?_) ?_))))
 .exact⟨⟨Z,⟨rfl,hs.ids _⟩,Z,Z,X⟩,X,Fh,X⟩
 .intro⟨i,h1,h2⟩;refine J ?_ ?_
  .intro h;have h:i<l.length:=by simpa using h
   have hg:l[i]?=some l[i]:=Ge h;refine M (JG l[i]) (J (J (Nn i) (by simp[hg])) (J rfl ?_));have Cj:∀h,PC fF ([G l[i]]++caps.map (str0 h)) (Q (p l[i])):=fun h=>by rw[hs.map];exact hF l[i] (Am _)
   cases hp:p l[i]with
   |true=>
    rw[hp]at Cj;refine M .pure (M (Q true) (J (Cj _) ?_));rw[LX h (fun j hj IY=>h2 j hj IY) hp,Gq];exact .refl _
   |false=>
    rw[hp]at Cj;refine M .pure (M (Q false) (J (Cj _) (J (Ii i I) (M ⟨i+1,by omega,fun j hj IY=>?_⟩ ?_))))
    .by_cases e:j=i
     .subst e;exact hp
     .exact h2 j hj I
    .exact⟨Dl l.length i I,⟨Z,⟨rfl,hs.ids _⟩,Z,Z,X⟩,X,Fh,X⟩
  .intro h;have h:¬i<l.length:=by simpa using h
   rw[H5 fun j hj=>h2 j hj I];exact .refl _
theorem Am3(hs:CX caps)(l:List (Int))(p:Int->Bool)(hF:∀x∈l,PC fF ([G x]++caps) (Q (p x)))(hl:CC l) :
  PC 179 [sl JG l,.clo fF caps] (Q (l.any p)):=by
 refine Ps CF func179 rfl C4 ?_;have hi:=Am5 hs l p hF (by unfold CC at hl;omega);have Cj:∀h,PC 255 [sl JG l,.clo fF (caps.map (str0 h))] (G (KI p l 0)):=fun h=>by rw[hs.map];exact hi
 refine C1 (H (Cj _) ?_);have ha:=Km (p:=p) l 0 (B6 0);refine J ?_ ?_
 .intro h;rw[<-ha,Aq h];exact .refl _
 .intro h;rw[<-ha,Al h];exact .refl _
theorem Am4(hs:CX caps)(l:List (Sk))(p:Sk->Bool)(hF:∀x∈l,PC fF ([.agg (AT x)]++caps) (Q (p x)))(hl:l.length<2^63-1) :
  PC 181 [sl AT l,.clo fF caps] (G (KI p l 0)):=by
 refine Ps CF func181 rfl C4 (M {i:Nat // i<=l.length/\∀j (hj:j<l.length),j<i->p l[j]=false} (M (fun i=>⟨[(0,sl AT l),(1,.clo fF caps),(7,G (l.map AT).length),(8,G i.1)],[],Ab⟩) (M (fun i=>l.length-i.1) (J (M ⟨0,by simp⟩ ?_) ?_))))
 .exact⟨⟨Z,⟨rfl,hs.ids _⟩,Z,Z,X⟩,X,Fh,X⟩
 .intro⟨i,h1,h2⟩;refine J ?_ ?_
  .intro h;have h:i<l.length:=by simpa using h
   have hg:l[i]?=some l[i]:=Ge h;refine M (AT l[i]) (J (J (Nn i) (by simp[hg])) (J rfl (U ?_)));have Cj:∀h,PC fF ([.agg (AT l[i])]++caps.map (str0 h)) (Q (p l[i])):=fun h=>by rw[hs.map];exact hF l[i] (Am _)
   cases hp:p l[i]with
   |true=>
    rw[hp]at Cj;refine M .pure (M (Q true) (J (Cj _) ?_));rw[LX h (fun j hj IY=>h2 j hj IY) hp,Gq];exact .refl _
   |false=>
    rw[hp]at Cj;refine M .pure (M (Q false) (J (Cj _) (J (Ii i I) (M ⟨i+1,by omega,fun j hj IY=>?_⟩ ?_))))
    .by_cases e:j=i
     .subst e;exact hp
     .exact h2 j hj I
    .exact⟨Dl l.length i I,⟨Z,⟨rfl,hs.ids _⟩,Z,Z,X⟩,X,Fh,X⟩
  .intro h;have h:¬i<l.length:=by simpa using h
   rw[H5 fun j hj=>h2 j hj I];exact .refl _
theorem Am2(hs:CX caps)(l:List (Sk))(p:Sk->Bool)(hF:∀x∈l,PC fF ([.agg (AT x)]++caps) (Q (p x)))(hl:CC l) :
  PC 104 [sl AT l,.clo fF caps] (Q (l.any p)):=by
 refine Ps CF func104 rfl C4 ?_;have hi:=Am4 hs l p hF (by unfold CC at hl;omega);have Cj:∀h,PC 181 [sl AT l,.clo fF (caps.map (str0 h))] (G (KI p l 0)):=fun h=>by rw[hs.map];exact hi
 refine C1 (H (Cj _) ?_);have ha:=Km (p:=p) l 0 (B6 0);refine J ?_ ?_
 .intro h;rw[<-ha,Aq h];exact .refl _
 .intro h;rw[<-ha,Al h];exact .refl _
theorem Da.fn(f:Nat):Da (.v (.func (.func f) #[] #[])) (.clo f []):=fun _ _ _ _ h=>by grind [cases O,O.clo]
theorem CX.nil:CX []:=fun _ hc=>absurd hc List.not_mem_nil
def aV(l:List Int):Bool:=decide (p.size<=64)&&!(l.any fun n=>decide (n<0))
theorem Ah3(n:Int):PC 180 [G n] (Q (decide (n<0))):=by
 refine Ps CF func180 rfl C4 (J (fun h1=>?_) (fun h1=>?_))
 .exact Da.of_eq (Aa Q (show true=decide (n<0)from(Aq h1).symm))
 exact Da.of_eq (Aa Q (show false=decide (n<0)from(Al h1).symm))
theorem Aae(l:List Int)(hl:CC l):PC 179 [sl JG l,.v (.func (.func 180) #[] #[])] (Q (l.any fun n=>decide (n<0))):=
 (Am3 (fF:=180) CX.nil l (fun n=>decide (n<0)) (fun n _=>Ah3 n) hl).args ⟨.refl _,Da.fn 180,trivial⟩
theorem yT(l:List Int)(hl:CC l):PC 103 [vs p,sl JG l] (Q (aV p l)):=by
 refine Ps CF func103 rfl C4 (J (fun h1=>?_) (fun h1=>?_))
 .refine Be (Bt (l.any fun n=>decide (n<0))) (fun h2=>?_) (fun h2=>?_)
  .refine C1 (H (cb h2 (Aae l hl)) ?_);exact Da.of_eq (Aa Q (show false=aV p l by rw[aV,Aq (show p.size<=64 by have q:=h1;omega),h2];rfl))
  refine C1 (H (cb h2 (Aae l hl)) ?_);exact Da.of_eq (Aa Q (show true=aV p l by rw[aV,Aq (show p.size<=64 by have q:=h1;omega),h2];rfl))
 exact Da.of_eq (Aa Q (show false=aV p l by rw[aV,Al (show ¬p.size<=64 by have q:=h1;omega)];rfl))
theorem Aa1(s:Sk):aV s.path [s.place,s.inf]=OO s:=by grind [aV,OO]
theorem Aa0(i:Nf)(h0:¬i.kind<0)(h3:¬3<i.kind):aV i.path [i.place,i.number,i.left,i.right]=OJ i:=by grind [aV,OJ]
theorem Ah1(s:Sk):PC 105 [.agg (AT s)] (Q (!OO s)):=by
 refine Ps (pC [1] []) func105 rfl C4 (Be (Bt (aV s.path [s.place,s.inf])) (fun h1=>?_) (fun h1=>?_))
 .refine C1 (H (cb h1 (show PC 103 [vs s.path,.slice .none [[G s.place],[G s.inf]]] (Q (aV s.path [s.place,s.inf]))from yT s.path [s.place,s.inf] (show 2<=2^30 by decide))) ?_);exact Da.of_eq (Aa Q (show false=!OO s by rw[<-Aa1,h1];rfl))
 refine C1 (H (cb h1 (show PC 103 [vs s.path,.slice .none [[G s.place],[G s.inf]]] (Q (aV s.path [s.place,s.inf]))from yT s.path [s.place,s.inf] (show 2<=2^30 by decide))) ?_);exact Da.of_eq (Aa Q (show true=!OO s by rw[<-Aa1,h1];rfl))
theorem jN{l:List Sk}:(l.any fun s=>!OO s)=!l.all OO:=List.not_all_eq_any_not.symm
theorem Aag(l:List Sk)(hl:CC l):PC 104 [sl AT l,.v (.func (.func 105) #[] #[])] (Q (l.any fun s=>!OO s)):=
 (Am2 (fF:=105) CX.nil l (fun s=>!OO s) (fun s _=>Ah1 s) hl).args ⟨.refl _,Da.fn 105,trivial⟩
def Ql(l:List Lo)(i:Nat):Bool:=match l[i]? with
 |none=>true
 |some e=>G0 e&&(decide (i=0)||E3 (l[i-1]?.getD e).path e.path)
section
variable {l:List Lo}{i:Nat}
theorem IA(h:i<l.length):Ql l i=(G0 l[i]&&(decide (i=0)||E3 (l[i-1]' I).path l[i].path)):=by
 grind [Ql]
theorem kg(h:∀j,j<l.length->Ql l j=true):B5 (l.map DH)=true/\l.all G0=true:=by
 have hk:∀j (hj:j<l.length),G0 l[j]=true/\(0<j->E3 (l[j-1]' I).path l[j].path=true):=fun j hj=>by
  grind [IA]
 refine⟨rV ?_,AZ.2 fun e he=>?_⟩
 .have go:∀j i (hi:i<l.length) (hj:j<l.length),i<j->E3 l[i].path l[j].path=true:=by
   intro j
   induction j<;>grind [D3]
  grind [List.pairwise_iff_getElem]
 grind [List.mem_iff_getElem]
theorem NP(h:i<l.length)(k:Ql l i=false):¬(B5 (l.map DH)=true/\l.all G0=true):=by
 rintro⟨h1,h2⟩
 have h1:(l.map DH).Pairwise (fun a b=>E3 a.path b.path=true):=(JK h1).1
 grind [IA,List.pairwise_iff_getElem]
end
theorem CB{l:Lk}(h:¬(Bb l.roots=0/\l.ents.length<=1024/\l.infs.length<=65536/\l.skips.length<=65536/\(B5 (JS l)=true/\l.ents.all G0=true)/\l.infs.all OJ=true/\l.skips.all OO=true)):Cz l=false:=by
 grind [Cz]
theorem VA{l:Lk}(a1:Bb l.roots=0)(a2:l.ents.length<=1024)(a3:l.infs.length<=65536)(a4:l.skips.length<=65536)(a5:B5 (JS l)=true/\l.ents.all G0=true)(a7:l.infs.all OJ=true):Cz l=l.skips.all OO:=by
 grind [Cz]
theorem jw(hp:Er p):PC 66 [vs p] (match AR p with | none=>.tup [vs ⟨#[]⟩,G 0,G 4] | some m=>.tup [vs (V7 p),G m,G 0]):=by
 cases e:AR p with
 |none=>exact Xp.none hp e
 |some m=>exact Xp.some hp e
theorem bP(l:Lk)(zP:∀q∈l.roots,J5 q)(hes:∀e∈l.ents,Er e.path)(wS:l.ents.length<=10^6)(rC:l.infs.length<=10^6)(VO:l.skips.length<=10^6):PC 48 [.agg (Bu l)] (Q (Cz l)):=by
 refine Ps (pC [1] [10,16]) func48 rfl C4 (C1 (H (c65 Xp l.roots zP) (J (fun h1=>?_) (fun h1=>?_))))
 .exact Da.of_eq (Aa Q (CB (fun c=>h1 c.1)).symm)
 have h1:((Bb l.roots):Int)=(0:Int):=AH h1;refine J (fun h3=>?_) (fun h3=>?_)
 .have n3:1024<l.ents.length:=by have q:=h3;rw[Lm]at q;omega
  exact Da.of_eq (Aa Q (CB (fun c=>absurd c.2.1 (by have q:=h3;rw[Lm]at q;omega))).symm)
 have n3:¬1024<l.ents.length:=by have q:=h3;rw[Lm]at q;omega
 refine J (fun h5=>?_) (fun h5=>?_)
 .have n5:65536<l.infs.length:=by have q:=h5;rw[Lm]at q;omega
  exact Da.of_eq (Aa Q (CB (fun c=>absurd c.2.2.1 (by have q:=h5;rw[Lm]at q;omega))).symm)
 have n5:¬65536<l.infs.length:=by have q:=h5;rw[Lm]at q;omega
 refine J (fun h7=>?_) (fun h7=>?_)
 .have n7:65536<l.skips.length:=by have q:=h7;rw[Lm]at q;omega
  exact Da.of_eq (Aa Q (CB (fun c=>absurd c.2.2.2.1 (by have q:=h7;rw[Lm]at q;omega))).symm)
 have n7:¬65536<l.skips.length:=by have q:=h7;rw[Lm]at q;omega
 refine M {q:Nat // q<=l.ents.length/\∀j,j<q->Ql l.ents j=true} (M (fun q=>⟨[(1,.ref 1 0),(33,sl Cr l.ents),(34,G (l.ents.map Cr).length),(35,G q.1)],[(1,.ro (Bu l))],Ab⟩) (M (fun q=>l.ents.length-q.1) (J (M ⟨0,Ai _,fun j h=>absurd h (Cv _)⟩ ?_) ?_)))
 .exact⟨Z4,Z1,Fh,X⟩
 intro⟨i,i1,i2⟩;have i2:∀j,j<i->Ql l.ents j=true:=i2;refine J (fun h9=>?_) (fun h9=>?_)
 .have n9:i<l.ents.length:=Gj h9;refine M (Cr l.ents[i]) (J (IM n9) (J rfl (U (U (Be (Sr (AR l.ents[i].path)) (fun KH=>?_) (fun KH=>?_))))))
  .refine AE KH (fun mj KH=>?_);have rn:=(jw l.ents[i].path (hes _ (Am n9)));rw[KH]at rn;refine C1 (H rn (J (fun h=>absurd h aa3) (fun _=>?_)));refine U (Be (Bt (Cf l.ents[i].ver)) (fun H1=>?_) (fun H1=>?_))
   .have H1:(Cf l.ents[i].ver)=true:=H1;refine H (cb H1 (vT l.ents[i].ver)) (J (fun Qx=>?_) (fun Qx=>?_))
    .have Qx:(l.ents[i].ver.a:Int)≠(mj:Int):=Qx;refine J aa5 ?_;have eK:Ql l.ents i=false:=by rw[IA n9,G0,show AR l.ents[i].path=some mj from KH,Al (fun e=>Qx (EH e).symm)];rfl
     exact Da.of_eq (Aa Q (CB (fun c=>NP n9 eK c.2.2.2.2.1)).symm)
    have Qx:(l.ents[i].ver.a:Int)=(mj:Int):=AH Qx;refine Be (Bt (Dr l.ents[i].arch)) (fun NU=>?_) (fun NU=>?_)
    .have NU:(Dr l.ents[i].arch)=true:=NU;refine H (cb NU (yS l.ents[i].arch)) (Be (Bt (Dr l.ents[i].ifc)) (fun Ru=>?_) (fun Ru=>?_))
     .have Ru:(Dr l.ents[i].ifc)=true:=Ru;refine H (cb Ru (yS l.ents[i].ifc)) (J (fun RT=>?_) (fun RT=>?_))
      .have RT:(0:Int)<(i:Int):=RT;refine J (by show As ((i:Int)-(1:Int));unfold As;omega) (M (Cr (l.ents[i-1]' I)) (J (J (show(0:Int)<=(i:Int)-1 by omega) (by rw[show((i:Int)-1).toNat=i-1 by omega];exact FB (Ge I))) (J rfl ?_)));refine J (fun Pd=>?_) (fun Pd=>?_)
       .have Pd:E3 (l.ents[i-1]' I).path l.ents[i].path=false:=(Fy _ _).trans Pd;refine J aa5 ?_;have eK:Ql l.ents i=false:=by rw[IA n9,G0,show AR l.ents[i].path=some mj from KH,Aq (Aa some (show mj=l.ents[i].ver.a from Qx.symm)),H1,NU,Ru,Al (show ¬i=0 by omega),Pd];rfl
        exact Da.of_eq (Aa Q (CB (fun c=>NP n9 eK c.2.2.2.2.1)).symm)
       have Pd:E3 (l.ents[i-1]' I).path l.ents[i].path=true:=(Fy _ _).trans (by simpa using Pd);refine J aa5 (J (Ii i I) ?_);have eK:Ql l.ents i=true:=by rw[IA n9,G0,show AR l.ents[i].path=some mj from KH,Aq (Aa some (show mj=l.ents[i].ver.a from Qx.symm)),H1,NU,Ru,Al (show ¬i=0 by omega),Pd];rfl
       refine M ⟨i+1,n9,fun j h=>by rcases BR j i with h2 | h2;exact i2 j h2;have e:j=i:=I;subst e;exact eK⟩ ?_;exact⟨Dl l.ents.length i I,Z4,Z1,Fh,X⟩
      have RT:¬((0:Int)<(i:Int)):=RT;refine J aa5 (J (Ii i I) ?_);have eK:Ql l.ents i=true:=by rw[IA n9,G0,show AR l.ents[i].path=some mj from KH,Aq (Aa some (show mj=l.ents[i].ver.a from Qx.symm)),H1,NU,Ru,Aq (show i=0 by omega)];rfl
      refine M ⟨i+1,n9,fun j h=>by rcases BR j i with h2 | h2;exact i2 j h2;have e:j=i:=I;subst e;exact eK⟩ ?_;exact⟨Dl l.ents.length i I,Z4,Z1,Fh,X⟩
     have Ru:(Dr l.ents[i].ifc)=false:=Ru;refine H (cb Ru (yS l.ents[i].ifc)) (J aa5 ?_);have eK:Ql l.ents i=false:=by rw[IA n9,G0,show AR l.ents[i].path=some mj from KH,Aq (Aa some (show mj=l.ents[i].ver.a from Qx.symm)),H1,NU,Ru];rfl
     exact Da.of_eq (Aa Q (CB (fun c=>NP n9 eK c.2.2.2.2.1)).symm)
    have NU:(Dr l.ents[i].arch)=false:=NU;refine H (cb NU (yS l.ents[i].arch)) (J aa5 ?_);have eK:Ql l.ents i=false:=by rw[IA n9,G0,show AR l.ents[i].path=some mj from KH,Aq (Aa some (show mj=l.ents[i].ver.a from Qx.symm)),H1,NU];rfl
    exact Da.of_eq (Aa Q (CB (fun c=>NP n9 eK c.2.2.2.2.1)).symm)
   have H1:(Cf l.ents[i].ver)=false:=H1;refine H (cb H1 (vT l.ents[i].ver)) (J aa5 ?_);have eK:Ql l.ents i=false:=by rw[IA n9,G0,H1];simp
   exact Da.of_eq (Aa Q (CB (fun c=>NP n9 eK c.2.2.2.2.1)).symm)
  have rn:=(jw l.ents[i].path (hes _ (Am n9)));rw[KH]at rn;refine C1 (H rn (J (fun _=>?_) (fun h=>absurd aa3 h)));refine J aa5 ?_;have eK:Ql l.ents i=false:=by rw[IA n9,G0,show AR l.ents[i].path=none from KH];rfl
  exact Da.of_eq (Aa Q (CB (fun c=>NP n9 eK c.2.2.2.2.1)).symm)
 have h9:¬((i:Int)<((l.ents.map Cr).length:Int)):=h9;have n9:=D6 h9;refine cU [(1,.ref 1 0)] [(1,.ro (Bu l))] Z1 Z1 (M {q:Nat // q<=l.infs.length/\∀j (h:j<l.infs.length),j<q->OJ l.infs[j]=true} (M (fun q=>⟨[(1,.ref 1 0),(92,sl A8 l.infs),(93,G (l.infs.map A8).length),(94,G q.1)],[(1,.ro (Bu l))],Ab⟩) (M (fun q=>l.infs.length-q.1) (J (M ⟨0,Ai _,fun j _ h=>absurd h (Cv _)⟩ ?_) ?_))))
 .exact⟨Z4,Z1,Fh,X⟩
 intro⟨k,k1,k2⟩;have k1:k<=l.infs.length:=k1;have k2:∀j (h:j<l.infs.length),j<k->OJ l.infs[j]=true:=k2;refine J (fun ii=>?_) (fun ii=>?_)
 .have n25:k<l.infs.length:=Gj ii;refine M (A8 l.infs[k]) (J (IM n25) (J rfl (U (U (J (fun zv=>?_) (fun zv=>?_))))))
  .have zv:(l.infs[k].kind:Int)<(0:Int):=zv;have eN:OJ l.infs[k]=false:=by unfold OJ;exact Al (fun c=>absurd c.1 (by have q:=zv;omega))
   exact Da.of_eq (Aa Q (CB (fun c=>by have q:=AZ.1 c.2.2.2.2.2.1 _ (Am n25);rw[eN]at q;cases q)).symm)
  have zv:¬((l.infs[k].kind:Int)<(0:Int)):=zv;refine J (fun zx=>?_) (fun zx=>?_)
  .have zx:(3:Int)<(l.infs[k].kind:Int):=zx;have eN:OJ l.infs[k]=false:=by unfold OJ;exact Al (fun c=>absurd c.2.1 (by have q:=zx;omega))
   exact Da.of_eq (Aa Q (CB (fun c=>by have q:=AZ.1 c.2.2.2.2.2.1 _ (Am n25);rw[eN]at q;cases q)).symm)
  have zx:¬((3:Int)<(l.infs[k].kind:Int)):=zx;refine Be (Bt (aV l.infs[k].path [l.infs[k].place,l.infs[k].number,l.infs[k].left,l.infs[k].right])) (fun ij=>?_) (fun ij=>?_)
  .have ij:(aV l.infs[k].path [l.infs[k].place,l.infs[k].number,l.infs[k].left,l.infs[k].right])=true:=ij;refine C1 (H (cb ij (show PC 103 [vs l.infs[k].path,.slice .none [[G l.infs[k].place],[G l.infs[k].number],[G l.infs[k].left],[G l.infs[k].right]]] (Q (aV l.infs[k].path [l.infs[k].place,l.infs[k].number,l.infs[k].left,l.infs[k].right]))from yT l.infs[k].path [l.infs[k].place,l.infs[k].number,l.infs[k].left,l.infs[k].right] (show 4<=2^30 by decide))) (J (Ii k I) ?_));have eN:OJ l.infs[k]=true:=(Aa0 l.infs[k] zv zx).symm.trans ij;refine M ⟨k+1,n25,fun j hj h=>by rcases BR j k with h2 | h2;exact k2 j hj h2;have e:j=k:=I;subst e;exact eN⟩ ?_;exact⟨Dl l.infs.length k I,Z4,Z1,Fh,X⟩
  have ij:(aV l.infs[k].path [l.infs[k].place,l.infs[k].number,l.infs[k].left,l.infs[k].right])=false:=ij;refine C1 (H (cb ij (show PC 103 [vs l.infs[k].path,.slice .none [[G l.infs[k].place],[G l.infs[k].number],[G l.infs[k].left],[G l.infs[k].right]]] (Q (aV l.infs[k].path [l.infs[k].place,l.infs[k].number,l.infs[k].left,l.infs[k].right]))from yT l.infs[k].path [l.infs[k].place,l.infs[k].number,l.infs[k].left,l.infs[k].right] (show 4<=2^30 by decide))) ?_);have eN:OJ l.infs[k]=false:=(Aa0 l.infs[k] zv zx).symm.trans ij;exact Da.of_eq (Aa Q (CB (fun c=>by have q:=AZ.1 c.2.2.2.2.2.1 _ (Am n25);rw[eN]at q;cases q)).symm)
 have ii:¬((k:Int)<((l.infs.map A8).length:Int)):=ii;have n25:=D6 ii;refine cU [(1,.ref 1 0)] [(1,.ro (Bu l))] Z1 Z1 (Be (Bt (l.skips.any fun s=>!OO s)) (fun dh=>?_) (fun dh=>?_))
 .have dh:(l.skips.any fun s=>!OO s)=true:=dh;refine C1 (H (cb dh (Aag l.skips (Az VO aa3))) ?_);have eF:Cz l=l.skips.all OO:=VA h1 (by have q:=h3;rw[Lm]at q;omega) (by have q:=h5;rw[Lm]at q;omega) (by have q:=h7;rw[Lm]at q;omega) (kg fun j hj=>i2 j (AF hj (BL (D6 h9)))) (AZ.2 fun z hz=>by obtain⟨j,hj,rfl⟩:=Fc.1 hz;exact k2 j hj (AF hj (BL (D6 ii))));have eS:(l.skips.any fun s=>!OO s)=true:=dh;rw[jN]at eS;exact Da.of_eq (Aa Q (show false=Cz l by rw[eF,<-Bool.not_not (l.skips.all OO),eS];rfl))
 have dh:(l.skips.any fun s=>!OO s)=false:=dh;refine C1 (H (cb dh (Aag l.skips (Az VO aa3))) ?_);have eF:Cz l=l.skips.all OO:=VA h1 (by have q:=h3;rw[Lm]at q;omega) (by have q:=h5;rw[Lm]at q;omega) (by have q:=h7;rw[Lm]at q;omega) (kg fun j hj=>i2 j (AF hj (BL (D6 h9)))) (AZ.2 fun z hz=>by obtain⟨j,hj,rfl⟩:=Fc.1 hz;exact k2 j hj (AF hj (BL (D6 ii))));have eS:(l.skips.any fun s=>!OO s)=false:=dh;rw[jN]at eS;exact Da.of_eq (Aa Q (show true=Cz l by rw[eF,<-Bool.not_not (l.skips.all OO),eS];rfl))
end Go.Eng
namespace Go.Proofs
open Go.Shelf Go.RowKit Go.Lib Go.Sort Go.Eng
theorem GY{f:Nat}{args:List AV}{res:AV}{vals:Array Value}{W:World}(hc:PC f args res)(hM:∃m,W.cell? ⟨0,0,none⟩=some (.int .i64 m))(hs:vals.size=args.length)
  (hr:∀(i:Nat) (av:AV) (x:Value),args[i]?=some av -> vals[i]?=some x -> O (aj W) W DS av x):Calls Tryz.prog f vals W fun e W' => (∃v g' U,e=.returned v /\ O g' W' U res v) /\ Below W.heap.size W W':=by
 refine(hc.2 (aj W) W vals hs (fun i av x q1 q2 => (hr i av x q1 q2).up _) (zU hM (fun _ h => by cases h))).mono fun e W' ⟨v,r,h',g',e1,e2,e3,e4,_⟩ => ?_
 subst e1
 obtain⟨rfl,rfl⟩:=e2
 exact⟨⟨v,_,_,rfl,e3⟩,e4.os,e4.tape,e4.output,e4.size,fun b hb => e4.frame b hb (fun r h => h.elim)⟩
abbrev AfV:Value:=.slice none 0 0
abbrev lm:AV:=.v AfV
abbrev zLk:Lk:=⟨[],[],[],[]⟩
end Go.Proofs
namespace Go.Eng
open Go.Proofs
open IntKind(wrap)
variable {a:As2}{m n N:Nat}
abbrev Cp(c:UInt8):List AV:=[.v (.int .u8 (c.toNat:Int))]
def uL(n:Nat):As2:=if n<128 then [UInt8.ofNat n]else UInt8.ofNat (n % 128+128)::uL (n / 128)
termination_by n
decreasing_by omega
theorem Zx(h:n<128):uL n=[UInt8.ofNat n]:=by grind [uL]
theorem fO(h:¬n<128):uL n=UInt8.ofNat (n % 128+128)::uL (n / 128):=by grind [uL]
theorem bN(m:Nat):wrap .u8 (m:Int)=((m % 256:Nat):Int):=by
 simp[wrap,IntKind.signed,IntKind.bits]
theorem Al0:∀b,b<256->Dv .or .u8 ((b:Nat):Int) 128=((UInt8.ofNat (b % 128+128)).toNat:Int):=by decide +kernel
theorem AcG(m:Nat):DY .shr .u64 (m:Int) 7=((m / 128:Nat):Int):=by
 show(m:Int).fdiv (2 ^ min (7:Int).toNat IntKind.u64.bits)=_;rw[show(2 ^ min (7:Int).toNat IntKind.u64.bits:Int)=128 by decide,Int.fdiv_eq_ediv_of_nonneg _ aa3];omega
theorem xP:Dv .or .u8 (wrap .u8 (m:Int)) 128=((UInt8.ofNat (m % 128+128)).toNat:Int):=by
 rw[bN,Al0 _ (Nat.mod_lt _ aa3),show m % 256 % 128=m % 128 by omega]
theorem kW:wrap .u8 (m:Int)=((UInt8.ofNat m).toNat:Int):=by
 rw[bN];simp_all
theorem ml(hN:N<18446744073709551616)(h:a=[]\/1<=m)(k:m*128 ^ a.length<=N):a.length<=10^6:=by
 rcases h with rfl | h
 .simp
 .rcases BR a.length 10 with q | q
  .omega
  .have h1:128 ^ 10<=128 ^ a.length:=MN aa3 q;have h2:1*128 ^ a.length<=m*128 ^ a.length:=A6 _ h;omega
theorem fR{c:UInt8}(k:m*128 ^ a.length<=N):m / 128*128 ^ (a.length+[c].length)<=N:=by
 rw[D0,Nat.pow_succ,<-Nat.mul_assoc,Nat.mul_right_comm];exact Az (A6 _ (Nat.div_mul_le_self m 128)) k
def uB(n:Nat):CS:=⟨(uL n).toArray⟩
theorem Ahd(N:Nat)(hN:N<18446744073709551616):PC 439 [.v (.int .u64 (N:Int))] (vs (uB N)):=by
 refine Ps (pT [] [(3,1)] []) Tryz.func439 rfl C4 (M {q:Nat×As2 // q.2++uL q.1=uL N/\(q.2=[]\/1<=q.1)/\q.1*128 ^ q.2.length<=N} (M (fun q=>⟨[(0,.v (.int .u64 (q.1.1:Int))),(3,.slice (.id 3 1) (q.1.2.map Cp))],[(3,.tok 1 (q.1.2.map Cp).length)],Ab⟩) (M (fun q=>q.1.1) (J (M ⟨(N,[]),rfl,.inl rfl,by simp⟩ ?_) ?_))))
 .exact⟨Z2,Z1,Fh,X⟩
 intro⟨⟨m,a⟩,i1,i2,i3⟩;have i1:a++uL m=uL N:=i1;have i2:a=[]\/1<=m:=i2;have i3:m*128 ^ a.length<=N:=i3;have aL:a.length<=10^6:=ml hN i2 i3;have aT:(a.map Cp).length<=10^6:=aa0
 refine J (fun h1=>?_) (fun h1=>?_)
 .have h1:(127:Int)<((m:Int):Int):=h1;refine J (apG ⟨rfl,trivial⟩ rfl aa2) (J aa3 ?_);have ew:((a.map Cp)++[[.v (.int .u8 (Dv .or .u8 (wrap .u8 (m:Int)) 128))]])=(a++[UInt8.ofNat (m % 128+128)]).map Cp:=by grind [xP]
  refine M ⟨(m / 128,a++[UInt8.ofNat (m % 128+128)]),by grind [fO],.inr (show 1<=m / 128 by omega),by rw[Ac];exact fR i3⟩ ?_;exact⟨by grind,⟨⟨(Aa (fun z:Int=>AV.v (.int .u64 z)) (AcG m)),rfl⟩,⟨(Aa (AV.slice (.id 3 1)) ew),rfl⟩,X⟩,⟨⟨(tkM ew),rfl⟩,X⟩,Fh,X⟩
 have h1:¬((127:Int)<((m:Int):Int)):=h1;refine J (apG ⟨rfl,trivial⟩ rfl aa2) (M (uL N) (J (show((a.map Cp)++[[.v (.int .u8 (wrap .u8 (m:Int)))]])=(uL N).map Cp by grind [Zx,kW]) ?_));exact .refl _
end Go.Eng
namespace Go.Proofs
open Go.Proofs.Tryz
open Go.Shelf Go.RowKit Go.Lib Go.Sort Go.Eng
abbrev bB(l:As2):ByteArray:=⟨l.toArray⟩
theorem In(a b:As2):bB a++bB b=bB (a++b):=MI aa0
theorem PY(a:As2):(bB a).size=a.length:=rfl
theorem jR(x:ByteArray):bB x.data.toList=x:=MI aa1
def tL(x:ByteArray):As2:=uL x.size++x.data.toList
abbrev HM(W:World):Prop:=∃m,W.cell? ⟨0,0,none⟩=some (.int .i64 m)
theorem HM.drew{W:World}(h:HM W):HM W.drew:=h
theorem HM.below{W w' : World}(h:HM W)(b:Below W.heap.size W w'):HM w':=h.imp fun m hm=>by
 grind [World.cell?,Go.RowKit.Below.block]
theorem HM.alloc{W:World}(h:HM W)(o:Obj):HM (W.alloc o):=h.imp fun m hm=>by
 grind [World.cell?,Below.heap_alloc]
theorem uW(n:Nat)(hn:n<18446744073709551616)(W:World)(hM:HM W):Calls prog 439 #[.int .u64 (n:Int)] W fun e w'=>e=.returned (.string (bB (uL n)))/\Below W.heap.size W w':=by
 refine(GY (vals:=#[.int .u64 (n:Int)]) (Ahd n hn) hM rfl (fun i av x e1 e2=>?_)).mono fun e W' ⟨⟨v,g',U,e1,e2⟩,hb⟩=>⟨by rw[e1,e2.v_eq];rfl,hb⟩
 grind [O.v]
theorem mo{n:Nat}(hn:n<2^63):IntKind.wrap .u64 (n:Int)=(n:Int):=by
 grind [IntKind.wrap,IntKind.bits]
theorem yY(n:Nat)(hn:n<2^63)(W:World)(hM:HM W):Calls prog 437 #[.int .i64 (n:Int)] W fun e w'=>e=.returned (.tuple #[.string (bB (uL n)),.int .i64 0])/\Below W.heap.size W w':=by
 have h1:=mo hn;have h0:¬(n:Int)<0:=I
 go_enter func437,ntmps437
 go_wp2_with (go_at_call 439;refine(uW n I _ hM).mono ?_;rintro e w' ⟨rfl,hb⟩)
 go_ret2
 simp_all
theorem Ad2(x:ByteArray)(hn:(tL x).length<2^63)(W:World)(hM:HM W):Calls prog 438 #[.string x] W fun e w'=>e=.returned (.string (bB (tL x)))/\Below W.heap.size W w':=by
 have hx:x.size<2^63:=by
  have:(tL x).length=(uL x.size).length+x.data.toList.length:=Ac
  have e:x.data.toList.length=x.size:=rfl;omega
 have h1:=mo hx;have ex:bB (uL x.size)++x=bB (tL x):=by
  conv=>lhs;rw[<-jR x]
  exact In _ _
 have hk:(((bB (uL x.size)).size+x.size:Nat):Int)<=2^63-1:=by
  have:(tL x).length=(uL x.size).length+x.data.toList.length:=Ac
  have e:x.data.toList.length=x.size:=rfl;have e2:(bB (uL x.size)).size=(uL x.size).length:=rfl;omega
 go_enter func438,ntmps438
 go_wp2_with (go_at_call 439;refine(uW x.size I _ hM).mono ?_;rintro e w' ⟨rfl,hb⟩)
 go_ret
 simp_all
abbrev pA(b o:Nat):Value:=.pointer (some ⟨b,o,none⟩)
abbrev ifW(A:Nat):Value:=.iface 119 (pA A 0)
abbrev XN(A:Nat)(l:As2)(W:World)(e:Ending)(w' : World):Prop:=e=.returned (.tuple #[])/\w'.heap[A]?=some (vz (bB l))/\MR W.heap.size A W w'
structure XM(A:Nat)(l:As2)(W:World):Prop where
 hA:W.heap[A]?=some (vz (bB l))
 hM:HM W
theorem XM.lt{A:Nat}{l:As2}{W:World}(h:XM A l W):A<W.heap.size:=(Ag.1 h.hA).1
theorem XM.ne0{A:Nat}{l:As2}{W:World}(h:XM A l W):0≠A:=by
 rintro rfl
 obtain⟨m,hm⟩:=h.hM;rw[Ab4 h.hA 0]at hm;cases hm
theorem XM.step{A:Nat}{l l' : As2}{W W' : World}(h:XM A l W)(hA:W'.heap[A]?=some (vz (bB l')))(b:MR W.heap.size A W W'):XM A l' W':=⟨hA,h.hM.imp fun _ hm=>b.cell h.ne0 hm⟩
theorem XM.drew{A:Nat}{l:As2}{W:World}(h:XM A l W):XM A l W.drew:=⟨h.hA,h.hM⟩
theorem XM.alloc{A:Nat}{l:As2}{W:World}(h:XM A l W)(o:Obj):XM A l (W.alloc o):=⟨(Below.heap_alloc _ _ _ h.lt).trans h.hA,h.hM.imp fun m hm=>by
 grind [World.cell?,Below.heap_alloc]⟩
theorem MR.undrew{A:Nat}{W w' : World}(h:MR W.drew.heap.size A W.drew w'):MR W.heap.size A W w':=⟨h.os,h.tape,h.output,h.size,h.block⟩
theorem AcT{A:Nat}{l m:As2}{W w' : World}(di : w'.heap[A]?=some (vz (bB l)))(hb:Below W.heap.size W w') :
  (w'.setCell ⟨A,0,none⟩ (.string (bB l++bB m))).heap[A]?=some (vz (bB (l++m)))/\MR W.heap.size A W (w'.setCell ⟨A,0,none⟩ (.string (bB l++bB m))):=by
 grind [World.setCell,In,Go.Proofs.MR.mk,Go.RowKit.Below.os,Go.RowKit.Below.tape,Go.RowKit.Below.output,Go.RowKit.Below.size,Go.RowKit.Below.block]
theorem SY(A b o n:Nat)(l:As2)(W:World)(h:XM A l W)(hp:W.cell? ⟨b,o,none⟩=some (.int .i64 (n:Int)))(hn:n<2^63)(hs:(l++uL n).length<2^63) :
  Calls prog 435 #[pA A 0,pA b o] W (XN A (l++uL n) W):=by
 have CL:=h.lt;have hk:(((bB l).size+(bB (uL n)).size:Nat):Int)<=2^63-1:=by
  grind [PY]
 go_enter func435,ntmps435
 go_wp2_with (go_at_call 437;refine(yY n hn _ h.hM).mono ?_;rintro e w' ⟨rfl,ky⟩;have di : w'.heap[A]?=some (vz (bB l)):=(ky.block A CL).trans h.hA;have c1:w'.cell? ⟨A,0,none⟩=some (.string (bB l)):=Ab4 di 0;have c2:=Lib.frozen_of_heap di 0)
 exact bodyPost_end (results_none rfl _ _ _) rfl ⟨rfl,AcT di ky⟩
theorem uU(A n:Nat)(l:As2)(W:World)(h:XM A l W)(hn:n<2^63)(hs:(l++uL n).length<2^63) :
  Calls prog 434 #[pA A 0,.int .i64 (n:Int)] W fun e w'=>e=.returned (.int .i64 (n:Int))/\w'.heap[A]?=some (vz (bB (l++uL n)))/\MR W.heap.size A W w':=by
 have CL:=h.lt
 go_enter func434,ntmps434
 go_wp2_with (go_at_call 435;refine(SY A W.heap.size 0 n l _ (h.alloc _) (Ab4 (Dk _ _) 0) hn hs).mono ?_;rintro e w' ⟨rfl,di,hb⟩;have c1:w'.cell? ⟨W.heap.size,0,none⟩=some (.int .i64 (n:Int)):=Ab4 ((hb.block _ aa1 I).trans (Dk _ _)) 0)
 go_ret
 exact⟨rfl,di,hb.alloc⟩
theorem Oe(A b o:Nat)(x:ByteArray)(l:As2)(W:World)(h:XM A l W)(hp:W.cell? ⟨b,o,none⟩=some (.string x))(hs:(l++tL x).length<2^63) :
  Calls prog 436 #[pA A 0,pA b o] W (XN A (l++tL x) W):=by
 have CL:=h.lt;have hl:=hs;rw[Ac]at hl;have hk:(((bB l).size+(bB (tL x)).size:Nat):Int)<=2^63-1:=by
  grind [PY]
 have c0:W.drew.cell? ⟨A,0,none⟩=some (.string (bB l)):=Ab4 (w:=W.drew) h.hA 0;have hp1:W.drew.cell? ⟨b,o,none⟩=some (.string x):=hp
 go_enter func436,ntmps436
 go_wp2
 go_region_with (go_at_call 438;refine(Ad2 x I W.drew h.drew.hM).mono ?_;rintro e w' ⟨rfl,ky⟩;have di : w'.heap[A]?=some (vz (bB l)):=(ky.block A CL).trans h.hA;have c1:w'.cell? ⟨A,0,none⟩=some (.string (bB l)):=Ab4 di 0;have c2:=Lib.frozen_of_heap di 0)
 all_goals exact bodyPost_end (results_none rfl _ _ _) rfl ⟨rfl,(AcT di ky).1,(AcT di ky).2.undrew⟩
theorem Aai (a : Addr) (w : World) : (nilAhead 601 119 (.pointer (some a)) "modcert/lock.number").run prog w=.ok (some false) w:=by kernel_rfl
theorem Aah (a : Addr) (w : World) : (method 601 119 (.pointer (some a)) "modcert/lock.number").run prog w=.ok (435, .pointer (some a)) w:=by kernel_rfl
theorem mv (a : Addr) (w : World) : (nilAhead 601 119 (.pointer (some a)) "modcert/lock.text").run prog w=.ok (some false) w:=by kernel_rfl
theorem mu (a : Addr) (w : World) : (method 601 119 (.pointer (some a)) "modcert/lock.text").run prog w=.ok (436, .pointer (some a)) w:=by kernel_rfl
def MK(ns:List Nat):As2:=ns.flatMap uL
theorem sN{ns:List Nat}{k:Nat}(h:k<ns.length):MK (ns.take k)++uL ns[k]=MK (ns.take (k+1)):=by
 grind [MK,List.take_add_one]
theorem Ace(ns:List Nat)(k:Nat):(MK (ns.take k)).length<=(MK ns).length:=by
 grind [List.take_append_drop,MK]
theorem Mg(A C cap:Nat)(b:Nat)(o:Nat->Nat)(ns:List Nat)(l:As2)(W:World)(h:XM A l W)(hb:b≠A)(hC:C≠A)(hp:∀i (hi:i<ns.length),W.cell? ⟨C,i,none⟩=some (pA b (o i))/\W.cell? ⟨b,o i,none⟩=some (.int .i64 (ns[i]:Int))/\ns[i]<2^63)(hs:(l++MK ns).length<2^63)(hl:ns.length<=100) :
  Calls prog 124 #[ifW A,.slice (some ⟨C,0,none⟩) ns.length cap] W (XN A (l++MK ns) W):=by
 have n1:=Aai ⟨A,0,none⟩;have m1:=Aah ⟨A,0,none⟩
 go_enter func124,ntmps124
 go_wp2
 go_loopw [8] (fun i wr=>∃k:Nat,k<=ns.length/\i=.int .i64 k/\wr.heap[A]?=some (vz (bB (l++MK (ns.take k))))/\MR W.heap.size A W wr) (fun i _=>ns.length-(intOf i).toNat)
 case atStart=>grind [MK,Go.Proofs.XM.hA,Go.Proofs.MR.mk]
 case round=>
  obtain⟨k,hk,rfl,di,hw⟩:=hrel;rcases BR k ns.length with CL | dq
  .obtain⟨p1,p2,p3⟩:=hp k CL;have c1:=hw.cell hC p1;have c2:=hw.cell hb p2;have RV : l++MK (ns.take k)++uL ns[k]=l++MK (ns.take (k+1)):=by grind [sN]
   go_wp2_with (go_at_call 435;refine(SY A b (o k) ns[k] _ _ (h.step di hw) c2 p3 (by rw[RV,Ac];grind [Ace])).mono ?_;rintro e w' ⟨rfl,ny,kz⟩)
   go_roundw
   all_goals grind [intOf,Go.Proofs.MR.trans]
  .obtain rfl:k=ns.length:=I
   go_wp2
   exact bodyPost_end (results_none rfl _ _ _) rfl ⟨rfl,by simp_all,hw⟩
def G9{α:Type}(f:α->As2)(l:List α):As2:=uL l.length++l.flatMap f
def T7(s:Int×Int):As2:=MK [s.1.toNat,s.2.toNat]
def I3(q:Rq):As2:=tL q.path++G9 T7 q.set
def MD(e:Lo):As2:=tL e.path++MK [e.ver.b.toNat,e.ver.c.toNat]++tL e.arch++tL e.ifc
def Oj(i:Nf):As2:=uL i.kind.toNat++tL i.path++MK [i.place.toNat,i.number.toNat,i.left.toNat,i.right.toNat]
def Rv(s:Sk):As2:=tL s.path++MK [s.place.toNat,s.inf.toNat]
def I0(l:Lk):As2:=G9 I3 l.roots++G9 MD l.ents++G9 Oj l.infs++G9 Rv l.skips
structure HB(n:Int):Prop where
 pos:0<=n
 lt:n<2^63
theorem HB.nat{n:Int}(h:HB n):n.toNat<2^63:=by have:=h.1;have:=h.2;omega
theorem Nw{g:D}{W:World}{cs:List AV}{b off:Nat}(h:O g W DS (.cptr cs) (pA b off))(j:Nat)(av:AV)(e:cs[j]?=some av):g.S b (off+j)/\∃v,W.cell? ⟨b,off+j,none⟩=some v/\O g W DS av v:=by
 cases h with
 |cptr _ _ _ _ val hc hr=>exact⟨(hc j av e).1,val j,(hc j av e).2.1,hr j av e⟩
theorem L9{g:D}{W:World}{cs:List AV}{b off:Nat}(h:O g W DS (.cptr cs) (pA b off))(j:Nat)(x:Value)(e:cs[j]?=some (.v x)):W.cell? ⟨b,off+j,none⟩=some x:=by
 obtain⟨_,v,h1,h2⟩:=Nw h j _ e;rw[h1,h2.v_eq]
theorem Ia{g:D}{W:World}{cs:List AV}{b off:Nat}(h:O g W DS (.cptr cs) (pA b off))(j:Nat){n:Int}(hn:HB n)(e:cs[j]?=some (G n)):W.cell? ⟨b,off+j,none⟩=some (.int .i64 (n.toNat:Int)):=by
 grind [L9,Int.toNat_of_nonneg,Go.Proofs.HB.pos]
def WC(f:Nat)(cs:List AV)(bs:As2):Prop:=∀(g:D) (A b off:Nat) (l:As2) (W:World),XM A l W->(∀b o,g.S b o->b<W.heap.size/\b≠A)->O g W DS (.cptr cs) (pA b off)->(l++bs).length<2^63 ->
 Calls prog f #[ifW A,pA b off] W (XN A (l++bs) W)
abbrev zI:Value:=.int .i64 0
abbrev zT:Value:=.string ⟨#[]⟩
inductive K5:Nat->Nat->Nat->Nat->Nat->Nat->List Value->Prop
 |a:K5 122 123 64 65 2 16 [zI,zI]
 |b:K5 120 121 68 26 2 40 [zT,.slice none 0 0]
 |c:K5 125 126 53 29 6 72 [zT,zI,zI,zI,zT,zT]
 |d:K5 127 128 96 30 6 56 [zI,zT,zI,zI,zI,zI]
 |e:K5 129 130 92 31 3 32 [zT,zI,zI]
theorem K5.enter{f c E T n zp:Nat}{zs:List Value}(K:K5 f c E T n zp zs)(args:Array Value)(w:World):(callFunc c args).run prog w=.ok (.enter c args) w:=by
 cases K<;>simp_all
end Go.Proofs
namespace Go.Eng
open Go.Proofs
open IntKind(wrap)
variable {s:CS}{j m n p:Nat}
def Bd(s:CS)(i:Nat):UInt8:=s.data[i]?.getD 0
theorem Ly{z:Int}(h:n<s.size)(e:z=(n:Int)):(0:Int)<=z/\s.data[z.toNat]?=some (Bd s n):=by
 subst e;refine⟨J6 n,?_⟩;have h:n<s.data.size:=h
 grind [Bd]
theorem RL(h:p<s.size):s.data.toList.drop p=Bd s p::s.data.toList.drop (p+1):=by
 have h' : p<s.data.toList.length:=h
 grind [List.drop_eq_getElem_cons,Bd]
def MH:Nat->Nat->Nat->As2->Nat×Nat×Bool
 |_,_,_,[]=>(0,0,false)
 |j,m,p,b::r=>if 10<=j then(0,0,false)else if j=9/\1<b.toNat then(0,0,false)else if b.toNat<128 then(m+b.toNat*128 ^ j,p+1,decide (0<b.toNat\/j=0))else MH (j+1) (m+(b.toNat-128)*128 ^ j) (p+1) r
abbrev F0(s:CS)(a:Nat):Nat×Nat×Bool:=MH 0 0 a (s.data.toList.drop a)
abbrev scV(r:Nat×Nat×Bool):AV:=.tup [.v (.int .u64 (r.1:Int)),G (r.2.1:Nat),Q r.2.2]
section
variable {s:CS}{a j m p:Nat}
theorem PB(h:s.size<=p):MH j m p (s.data.toList.drop p)=(0,0,false):=by
 have h' : s.data.toList.length<=p:=h
 grind [List.drop_of_length_le,MH]
theorem PD(h:10<=j)(l:As2):MH j m p l=(0,0,false):=by
 unfold MH;split
 .rfl
 .simp[h]
theorem PA(h:p<s.size)(h9:j=9)(hb:1<(Bd s p).toNat):MH j m p (s.data.toList.drop p)=(0,0,false):=by
 grind [RL,MH]
theorem Ha(h:p<s.size)(hj:j<=9)(hn:¬(j=9/\1<(Bd s p).toNat))(hb:(Bd s p).toNat<128):MH j m p (s.data.toList.drop p)=(m+(Bd s p).toNat*128 ^ j,p+1,decide (0<(Bd s p).toNat\/j=0)):=by
 grind [RL,MH]
theorem yr(h:p<s.size)(hj:j<=9)(hn:¬(j=9/\1<(Bd s p).toNat))(hb:¬(Bd s p).toNat<128):MH j m p (s.data.toList.drop p)=MH (j+1) (m+((Bd s p).toNat-128)*128 ^ j) (p+1) (s.data.toList.drop (p+1)):=by
 grind [RL,MH]
end
theorem Aaw:∀b,b<256->Dv .and .u8 ((b:Nat):Int) 127=((b % 128:Nat):Int):=by decide +kernel
theorem Ach(j:Nat):128 ^ j=2 ^ (7*j):=by rw[Nat.pow_mul]
theorem XJ(h:n<18446744073709551616):wrap .u64 (n:Int)=(n:Int):=by
 grind [wrap,IntKind.signed,IntKind.bits]
theorem lA(h:j<=9):128 ^ j<=2^63:=Az (MN aa3 h) aa3
theorem t8{c:Nat}(hj:j<=9)(hc:c<128)(h9:j=9->c<=1):c*128 ^ j<=2^63:=by
 rcases BR j 9 with h | h
 .have h1:128 ^ j<=128 ^ 8:=MN aa3 I;have h2:c*128 ^ j<=127*128 ^ 8:=Nat.mul_le_mul I h1;omega
 grind
theorem TV{b:Nat}(hj:j<=9)(hm:m<128 ^ j)(hb:b<256)(h9:j=9->b % 128<=1) :
  Dv .or .u64 (m:Int) (DY .shl .u64 (wrap .u64 (Dv .and .u8 (b:Int) 127)) (7*(j:Int)))=((m+b % 128*128 ^ j:Nat):Int):=by
 have hc:b % 128<128:=Nat.mod_lt _ aa3;have hl:=t8 hj hc h9;have hp:=lA hj;rw[Aaw b hb,XJ I];have e1:DY .shl .u64 ((b % 128:Nat):Int) (7*(j:Int))=((b % 128*128 ^ j:Nat):Int):=by
  show wrap .u64 (((b % 128:Nat):Int)*2 ^ min (7*(j:Int)).toNat IntKind.u64.bits)=_;rw[show min (7*(j:Int)).toNat IntKind.u64.bits=7*j by show min _ 64=_;omega];rw[show(((b % 128:Nat):Int)*2 ^ (7*j))=((b % 128*128 ^ j:Nat):Int) by grind [Ach]];exact XJ I
 rw[e1];show wrap .u64 ((BitVec.ofInt 64 (m:Int) ||| BitVec.ofInt 64 ((b % 128*128 ^ j:Nat):Int)).toNat:Nat)=_;rw[BitVec.ofInt_natCast,BitVec.ofInt_natCast,BitVec.toNat_or,BitVec.toNat_ofNat,BitVec.toNat_ofNat,Nat.mod_eq_of_lt I,Nat.mod_eq_of_lt I]
 grind [Ach,Nat.mul_comm,Nat.two_pow_add_eq_or_of_lt,XJ]
theorem yq{b:Nat}(hm:m<128 ^ j):m+b % 128*128 ^ j<128 ^ (j+1):=by
 have h1:b % 128*128 ^ j<=127*128 ^ j:=A6 _ I;omega
theorem EF{a:Nat}{r:Nat×Nat×Bool}{X Y:Int}{z:Bool}(i:MH j m p (s.data.toList.drop p)=F0 s a)(h:MH j m p (s.data.toList.drop p)=r)(e1:X=(r.1:Int))(e2:Y=(r.2.1:Int))(e3:z=r.2.2) :
  AV.tup [.v (.int .u64 X),G Y,Q z]=scV (F0 s a):=by
 rw[<-i,h,e1,e2,e3]
theorem UN{a:Nat}(i:MH j m (a+j) (s.data.toList.drop (a+j))=F0 s a)(h:a+j<s.size)(hj:j<=9)(hn:¬(j=9/\1<(Bd s (a+j)).toNat))(hb:¬(Bd s (a+j)).toNat<128) :
  MH (j+1) (m+(Bd s (a+j)).toNat % 128*128 ^ j) (a+(j+1)) (s.data.toList.drop (a+(j+1)))=F0 s a:=by
 have hB:(Bd s (a+j)).toNat<256:=(Bd s (a+j)).toNat_lt;rw[<-i,yr h hj hn hb,show(Bd s (a+j)).toNat-128=(Bd s (a+j)).toNat % 128 by omega]
 rfl
abbrev qq56:=fun(s:CS) (p:Nat) (e:Int) (a:Nat) j m=>([(0,.cptr [vs s,G (p:Int),G e]),(1,G (((a+j:Nat):Int)+1)),(7,.v (.int .u64 (Dv .or .u64 (m:Int) (DY .shl .u64 (wrap .u64 (Dv .and .u8 ((Bd s (a+j)).toNat:Int) 127)) (7*(j:Int)))))),(8,G (7*(j:Int)))]:List (Nat×AV))
abbrev qq57:=fun(s:CS) (p:Nat) (e:Int) (a:Nat) j m=>([(0,.cptr [vs s,G (p:Int),G e]),(1,G (((a+j:Nat):Int)+1)),(7,.v (.int .u64 (m:Int))),(8,G (7*(j:Int))),(9,.v (.int .u8 ((Bd s (a+j)).toNat:Int)))]:List (Nat×AV))
theorem Adm(s:CS)(p a:Nat)(e:Int)(hs:s.size<=2^62)(ha:a<=2^62):PC 451 [.cptr [vs s,G (p:Int),G e],G (a:Int)] (scV (F0 s a)):=by
 refine Ps (pC [] [4,6,9]) Tryz.func451 rfl C4 (M {q:Nat×Nat // q.1<=10/\q.2<128 ^ q.1/\MH q.1 q.2 (a+q.1) (s.data.toList.drop (a+q.1))=F0 s a} (M (fun q=>⟨[(0,.cptr [vs s,G (p:Int),G e]),(1,G ((a+q.1.1:Nat):Int)),(7,.v (.int .u64 (q.1.2:Int))),(8,G (7*(q.1.1:Int)))],[],Ab⟩) (M (fun q=>10-q.1.1) (J (M ⟨(0,0),Ai _,J0,rfl⟩ ?_) ?_))))
 .exact⟨Z4,X,Fh,X⟩
 intro⟨⟨j,m⟩,i1,i2,i3⟩;have i1:j<=10:=i1;have i2:m<128 ^ j:=i2;have i3:MH j m (a+j) (s.data.toList.drop (a+j))=F0 s a:=i3;have hB:=(Bd s (a+j)).toNat_lt;refine J (fun h1=>?_) (fun h1=>?_)
 .have h1:(((a+j:Nat):Int):Int)<(s.size:Int):=h1;refine J (fun h2=>?_) (fun h2=>?_)
  .have h2:((7*(j:Int)):Int)<(64:Int):=h2;refine M (Bd s (a+j)) (J (Ly (z:=((a+j:Nat):Int)) (n:=a+j) (show a+j<s.size by omega) I) (cU [(0,.cptr [vs s,G (p:Int),G e]),(1,G ((a+j:Nat):Int)),(7,.v (.int .u64 (m:Int))),(8,G (7*(j:Int))),(9,.v (.int .u8 ((Bd s (a+j)).toNat:Int)))] [] Z5 X (J (by show As ((((a+j:Nat):Int):Int)+(1:Int));unfold As;omega) ?_)));refine J (fun h3=>?_) (fun h3=>?_)
   .have h3:((7*(j:Int)):Int)=(63:Int):=h3;refine J (fun h4=>?_) (fun h4=>?_)
    .have h4:(1:Int)<(((Bd s (a+j)).toNat:Int):Int):=h4;exact .of_eq (EF i3 (by first | exact PB I | exact PD I _ | exact PA I I I) rfl rfl rfl)
    have h4:¬((1:Int)<(((Bd s (a+j)).toNat:Int):Int)):=h4;refine M ⟨(qq57 s p e a j m),[],Ab⟩ (J ⟨Z5,X,Fh,X⟩ (J I (J (fun h6=>?_) (fun h6=>?_))))
    .have h6:(((Bd s (a+j)).toNat:Int):Int)<(128:Int):=h6;refine J (fun h7=>?_) (fun h7=>?_)
     .have h7:(0:Int)<(((Bd s (a+j)).toNat:Int):Int):=h7;exact .of_eq (EF i3 (Ha I I I I) ((TV I i2 hB I).trans (by rw[show(Bd s (a+j)).toNat % 128=(Bd s (a+j)).toNat by omega])) (show((a+j:Nat):Int)+1=((a+j+1:Nat):Int) by omega) (Aq I).symm)
     have h7:¬((0:Int)<(((Bd s (a+j)).toNat:Int):Int)):=h7;refine J (fun h9=>?_) (fun h9=>?_)
     .have h9:((7*(j:Int)):Int)=(0:Int):=h9;exact .of_eq (EF i3 (Ha I I I I) ((TV I i2 hB I).trans (by rw[show(Bd s (a+j)).toNat % 128=(Bd s (a+j)).toNat by omega])) (show((a+j:Nat):Int)+1=((a+j+1:Nat):Int) by omega) (Aq I).symm)
     have h9:¬(((7*(j:Int)):Int)=(0:Int)):=h9;exact .of_eq (EF i3 (Ha I I I I) ((TV I i2 hB I).trans (by rw[show(Bd s (a+j)).toNat % 128=(Bd s (a+j)).toNat by omega])) (show((a+j:Nat):Int)+1=((a+j+1:Nat):Int) by omega) (Al I).symm)
    have h6:¬((((Bd s (a+j)).toNat:Int):Int)<(128:Int)):=h6;refine M ⟨(qq56 s p e a j m),[],Ab⟩ (J ⟨Z4,X,Fh,X⟩ (J (by show As (((7*(j:Int)):Int)+(7:Int));unfold As;omega) ?_));refine M ⟨(j+1,m+(Bd s (a+j)).toNat % 128*128 ^ j),by show j+1<=10;omega,yq i2,UN i3 I I I I⟩ ?_;exact⟨Dl 10 j I,⟨Z,⟨(Aa (fun z:Int=>AV.v (.int .i64 z)) (show((a+j:Nat):Int)+1=((a+(j+1):Nat):Int) by omega)),rfl⟩,⟨(Aa (fun z:Int=>AV.v (.int .u64 z)) (TV I i2 hB I)),rfl⟩,⟨(Aa (fun z:Int=>AV.v (.int .i64 z)) (show 7*(j:Int)+7=7*((j+1:Nat):Int) by omega)),rfl⟩,X⟩,X,Fh,X⟩
   have h3:¬(((7*(j:Int)):Int)=(63:Int)):=h3;refine M ⟨(qq57 s p e a j m),[],Ab⟩ (J ⟨Z5,X,Fh,X⟩ (J I (J (fun Rt=>?_) (fun Rt=>?_))))
   .have Rt:(((Bd s (a+j)).toNat:Int):Int)<(128:Int):=Rt;refine J (fun NU=>?_) (fun NU=>?_)
    .have NU:(0:Int)<(((Bd s (a+j)).toNat:Int):Int):=NU;exact .of_eq (EF i3 (Ha I I I I) ((TV I i2 hB I).trans (by rw[show(Bd s (a+j)).toNat % 128=(Bd s (a+j)).toNat by omega])) (show((a+j:Nat):Int)+1=((a+j+1:Nat):Int) by omega) (Aq I).symm)
    have NU:¬((0:Int)<(((Bd s (a+j)).toNat:Int):Int)):=NU;refine J (fun RT=>?_) (fun RT=>?_)
    .have RT:((7*(j:Int)):Int)=(0:Int):=RT;exact .of_eq (EF i3 (Ha I I I I) ((TV I i2 hB I).trans (by rw[show(Bd s (a+j)).toNat % 128=(Bd s (a+j)).toNat by omega])) (show((a+j:Nat):Int)+1=((a+j+1:Nat):Int) by omega) (Aq I).symm)
    have RT:¬(((7*(j:Int)):Int)=(0:Int)):=RT;exact .of_eq (EF i3 (Ha I I I I) ((TV I i2 hB I).trans (by rw[show(Bd s (a+j)).toNat % 128=(Bd s (a+j)).toNat by omega])) (show((a+j:Nat):Int)+1=((a+j+1:Nat):Int) by omega) (Al I).symm)
   have Rt:¬((((Bd s (a+j)).toNat:Int):Int)<(128:Int)):=Rt;refine M ⟨(qq56 s p e a j m),[],Ab⟩ (J ⟨Z4,X,Fh,X⟩ (J (by show As (((7*(j:Int)):Int)+(7:Int));unfold As;omega) ?_));refine M ⟨(j+1,m+(Bd s (a+j)).toNat % 128*128 ^ j),by show j+1<=10;omega,yq i2,UN i3 I I I I⟩ ?_;exact⟨Dl 10 j I,⟨Z,⟨(Aa (fun z:Int=>AV.v (.int .i64 z)) (show((a+j:Nat):Int)+1=((a+(j+1):Nat):Int) by omega)),rfl⟩,⟨(Aa (fun z:Int=>AV.v (.int .u64 z)) (TV I i2 hB I)),rfl⟩,⟨(Aa (fun z:Int=>AV.v (.int .i64 z)) (show 7*(j:Int)+7=7*((j+1:Nat):Int) by omega)),rfl⟩,X⟩,X,Fh,X⟩
  have h2:¬(((7*(j:Int)):Int)<(64:Int)):=h2;exact .of_eq (EF i3 (by first | exact PB I | exact PD I _ | exact PA I I I) rfl rfl rfl)
 have h1:¬((((a+j:Nat):Int):Int)<(s.size:Int)):=h1;exact .of_eq (EF i3 (by first | exact PB I | exact PD I _ | exact PA I I I) rfl rfl rfl)
end Go.Eng
