/- Lemmas 27. -/
import Derived.Test.YtkjhcikodmiceaaGreatDoorMA26
set_option maxHeartbeats 4000000
namespace Go.Eng
variable {n:Nd}(x:List Rl)
structure qM(B:Nat)(i:Nf):Prop where
 k0:0<=i.kind
 k3:i.kind<=3
 path:i.path.size<=B
 place:0<=i.place
 number:0<=i.number
 left:0<=i.left
 right:0<=i.right
structure SkF(B:Nat)(s:Sk):Prop where
 path:s.path.size<=B
 place:0<=s.place
 inf:0<=s.inf
structure OE(B:Nat)(n:Nd):Prop where
 path:n.path.size<=B
 rq:n.rq.path.size<=B
 place:0<=n.place
 number:0<=n.number
structure TQ(B:Nat)(c:Cd):Prop where
 path:c.rel.path.size<=B
 place:0<=c.place
 rq:∀q∈c.rel.reqs,q.path.size<=B
section
variable {B:Nat}{x:List Rl}{roots:List Rq}{s:SS}{p:CS}{dec:List Cd}
abbrev dk(B:Nat)(s:SS):Prop:=∀i∈s.infs,qM B i
theorem TG{f:Rq->Nat->Nd}:∀{l:List Rq} {i:Nat},(∀q∈l,∀i,OE B (f q i))->∀n∈Lj f i l,OE B n
 | [],_,_,n,h=>by cases h
 |q::l,i,hq,n,h=>by
  rcases AM.1 h with rfl | h
  .simp_all
  .exact TG (fun q h=>hq q (Aj _ h)) n h
theorem iq:R.size=0:=rfl
theorem oP(hr:∀q∈roots,q.path.size<=B)(hd:∀c∈dec,TQ B c):∀n∈Du roots dec,OE B n:=fun n hn=>by
 rcases Bc.1 hn with h | h
 .exact TG (fun q hq i=>⟨by grind [iq],hr q hq,B4 _,Gd _⟩) n h
 .obtain⟨l,hl,h⟩:=EI.1 h;obtain⟨c,hc,rfl⟩:=Ar.1 hl;have k:=hd c hc;exact TG (fun q hq i=>⟨k.path,k.rq q hq,k.place,Gd _⟩) n h
theorem u5:∀{l:List Nd} {a:CS×List Nd},(∀n∈l,OE B n)->(a.1.size<=B/\∀n∈a.2,OE B n)->((l.foldl (D0 dec) a).1.size<=B/\∀n∈(l.foldl (D0 dec) a).2,OE B n)
 | [],a,_,h=>h
 |n::l,a,hl,h=>by
  refine u5 (l:=l) (a:=D0 dec a n) (fun m hm=>hl m (Aj _ hm)) ?_;have hn:=hl n (Ah ..);unfold D0;split
  .exact h
  .split
   .exact⟨hn.rq,by simp_all⟩
   .refine⟨hn.rq,fun m hm=>?_⟩
    grind
theorem sL(hr:∀q∈roots,q.path.size<=B)(hd:∀c∈dec,TQ B c):(D4 roots dec).1.size<=B/\∀n∈(D4 roots dec).2,OE B n:=
 u5 (oP hr hd) ⟨by grind [iq],fun n h=>by cases h⟩
theorem dq{i:Nf}{l:List Tm}(hi:qM B i)(hs:dk B s):dk B (Ed s i l).2:=by
 grind [Ed]
theorem fc(hn:OE B n)(hs:dk B s):dk B (Bx s n).2:=by
 refine dq ?_ hs
 grind [OZ,qM.mk,OE.path,OE.place,OE.number]
theorem sP(hp:p.size<=B)(hs:dk B s):dk B (Ev x p s).2:=dq ⟨by simp,by simp,hp,by simp,by simp,by simp,by simp⟩ hs
theorem NK(hp:p.size<=B):∀{l:List Nat} {k:Nat} {s:SS},dk B s->dk B (B2 p l k s).2
 | [],_,_,h=>h
 |r::l,k,s,h=>by
  unfold B2;split
  .exact h
  .split
   .exact NK hp h
   .split
    .exact NK hp h
    .exact NK hp (dq ⟨by simp,by simp,hp,by simp,by simp,Gd _,Gd _⟩ h)
theorem oD{reasons:List Nat}(hp:p.size<=B)(hn:OE B n)(hs:dk B s):dk B (DE x p n reasons s).2:=NK hp (sP hp (fc hn hs))
abbrev StF(B:Nat)(st:List (List Sk)):Prop:=∀l∈st,∀k∈l,SkF B k
structure PB(B:Nat)(o:Ko):Prop where
 ss:dk B o.ss
 dec:∀c∈o.dec,TQ B c
 st:StF B o.stack
theorem T8{rec:List Cd->SS->List (List Sk)->Ko}{needs:List Nd}{n0:Nd}{st:List (List Sk)}(hd:∀c∈dec,TQ B c)(Iz:StF B st)(hp:p.size<=B)(hn:∀n∈needs,OE B n)(h0:OE B n0)
  (Ws:∀c s st,TQ B c->dk B s->StF B st->PB B (rec (dec++[c]) s st)) :
  ∀(cs:List Cd) {s:SS} {reasons:List Nat} {skips:List Sk},(∀c∈cs,TQ B c)->dk B s->(∀k∈skips,SkF B k)->PB B (DC rec x p needs n0 dec st cs s reasons skips)
 | [],s,_,_,_,hs,_=>⟨oD hp h0 hs,hd,Iz⟩
 |c::cs,s,reasons,skips,hcs,hs,hk=>by
  have hc:=hcs c (Ah ..);have Aak : ∀c∈cs,TQ B c:=fun c h=>hcs c (Aj _ h);have after:∀(k:Nat) (s:SS),dk B s->PB B (if DN (Ei s k) p=false then⟨k,false,s,dec,st⟩else DC rec x p needs n0 dec st cs s (reasons++[k]) (skips++[⟨p,c.place,k⟩])):=fun k s hs=>by
   split
   .grind [PB.mk]
   .refine T8 hd Iz hp hn h0 Ws cs Aak hs fun y hy=>?_
    grind [SkF.mk,TQ.place]
  unfold DC;dsimp only;split
  .grind [PB.mk]
  .split
   .rename_i n e;exact T8 hd Iz hp hn h0 Ws cs Aak (fc (hn n (Bh e)) hs) hk
   .split
    .grind
    .split
     .rename_i n e;have kc : OE B n:=TG (fun q hq i=>⟨hc.path,hc.rq q hq,hc.place,Gd _⟩) n (Bh e)
      grind [fc]
     grind [PB.ss,PB.mk,PB.dec,PB.st]
theorem cK(hr:∀q∈roots,q.path.size<=B)(hx:∀p,∀c∈Bk x p,TQ B c):∀(n:Nat) {dec:List Cd} {s:SS} {st:List (List Sk)},(∀c∈dec,TQ B c)->dk B s->StF B st->PB B (CF x roots n dec s st)
 |0,_,_,_,hd,hs,Iz=>⟨hs,hd,Iz⟩
 |n+1,dec,s,st,hd,hs,Iz=>by
  unfold CF;obtain⟨k1,k2⟩:=sL hr hd;split
  .grind [PB.mk]
  .rename_i n0 l e;rw[e]at k2;refine T8 hd Iz k1 k2 (k2 n0 (Ah ..)) (fun c s st hc hs Iz=>cK hr hx n (fun d nQ=>?_) hs Iz) _ (hx _) hs (fun k h=>by cases h)
   grind
theorem p5(hr:∀q∈roots,q.path.size<=B)(hx:Aw x=0)(hp:∀r∈x,r.path.size<=B/\∀q∈r.reqs,q.path.size<=B):PB B (Ep x roots):=by
 refine cK hr (fun p c hc=>?_) _ (fun c h=>by cases h) (fun i h=>by cases h) (fun l h=>by cases h);obtain⟨_,c2,_,c4⟩:=Gz hc;have k:=(Bp hx).1 _ c2;have v:=FE k.val
 grind [place,TQ.mk,JE.plc]
end
structure Lo where
 path:CS
 ver:Ver
 arch:CS
 ifc:CS
variable (e:Lo)
structure Lk where
 roots:List Rq
 ents:List Lo
 infs:List Nf
 skips:List Sk
variable (l:Lk)
abbrev Dz:Sl:=⟨e.path,e.ver⟩
abbrev Gp:List Sl:=l.ents.map Dz
abbrev J0:An:=⟨true,Gp l,l.infs,l.skips⟩
def Hv:Bool:=decide (AP e.path=some e.ver.a)&&Bv e.ver&&CK e.arch&&CK e.ifc
def M4(i:Nf):Bool:=decide (0<=i.kind/\i.kind<=3/\i.path.size<=64/\0<=i.place/\0<=i.number/\0<=i.left/\0<=i.right)
def Nl(s:Sk):Bool:=decide (s.path.size<=64/\0<=s.place/\0<=s.inf)
def Dy:Bool:=decide (AK l.roots=0)&&(decide (l.ents.length<=1024)&&(decide (l.infs.length<=65536)&&(decide (l.skips.length<=65536)&&(Be (Gp l)&&(l.ents.all Hv&&(l.infs.all M4&&l.skips.all Nl))))))
def I4:Bool:=match AW x (Dz e)with
 |none=>false
 |some r=>decide (e.arch=r.arch)&&decide (e.ifc=r.ifc)
def ZG:Int:=
 if Aw x≠0\/Dy l=false then 1
 else if l.ents.all (fun e=>(AW x (Dz e)).isSome)=false then 6
 else if l.ents.all (I4 x)=false then 9
 else if Di x l.roots (J0 l)≠0 then 18 else 0
section
variable {x:List Rl}{l m:Lk}
def GW(x:List Rl)(y:Sl):Lo:=match AW x y with
 |none=>⟨y.path,y.ver,⟨#[]⟩,⟨#[]⟩⟩
 |some r=>⟨y.path,y.ver,r.arch,r.ifc⟩
def Vk(x:List Rl)(roots:List Rq)(a:An):Lk:=⟨roots,a.sel.map (GW x),a.infs,a.skips⟩
theorem pX(roots:List Rq)(a:An):Gp (Vk x roots a)=a.sel:=by
 show(a.sel.map (GW x)).map Dz=a.sel;rw[BH]
 conv=>rhs;rw[<-Ks a.sel]
 refine Cg fun y _=>?_;show Dz (GW x y)=y;unfold GW;cases AW x y<;>rfl
theorem Abm{r:Rl}(h:CE r=0):CK r.arch=true/\CK r.ifc=true:=by
 grind [CE]
theorem ig:∀{l:List Rl} {b:Option Rl},BR b l=0->∀r∈l,CE r=0
 | [],_,_,r,h=>by cases h
 |a::l,b,h,r,hr=>by
  unfold BR at h;have ih:=fun(b:Option Rl) (h:BR b l=0)=>ig h r
  grind
theorem AaT(h:Aw x=0){r:Rl}(hr:r∈x):CE r=0:=by
 grind [Aw,ig]
theorem oL{roots:List Rq}{a:An}(hx:Aw x=0)(hr:AK roots=0)(hc:Di x roots a=0)(hf:a.found=true)(h1:a.infs.length<=65536)(h2:a.skips.length<=65536)(h3:a.sel.length<=1024)(hi:Be a.sel=true)
  (wG:∀y∈a.sel,∃r,AW x y=some r) (hn:a.infs.all M4=true) (hk:a.skips.all Nl=true):ZG x (Vk x roots a)=0:=by
 have hs:=pX (x:=x) roots a;have YP:∀e∈(Vk x roots a).ents,∃y∈a.sel,∃r,AW x y=some r/\e=⟨y.path,y.ver,r.arch,r.ifc⟩:=fun e he=>by
  obtain⟨y,hy,rfl⟩:=Ar.1 he<;>grind [GW]
 have AhN:Dy (Vk x roots a)=true:=by
  have he:(Vk x roots a).ents.all Hv=true:=AS.2 fun e he=>by
   obtain⟨y,_,r,e1,rfl⟩:=YP e he;obtain⟨_,k1,k2⟩:=Ce e1;have k3:=AaT hx k1;have k4:=Ub k3;obtain⟨k5,k6⟩:=Abm k3;have e2:r.path=y.path:=Aa Sl.path k2;have e3:r.ver=y.ver:=Aa Sl.ver k2;unfold Hv;dsimp only;rw[<-e2,<-e3,k4.maj,Ax rfl,k4.val,k5,k6];rfl
  unfold Dy;rw[Ax (show AK (Vk x roots a).roots=0 from hr),Ax (show(Vk x roots a).ents.length<=1024 by grind),Ax (show(Vk x roots a).infs.length<=65536 from h1),Ax (show(Vk x roots a).skips.length<=65536 from h2),hs,hi,he];show(true&&(true&&(true&&(true&&(true&&(true&&(a.infs.all M4&&a.skips.all Nl)))))))=true;simp_all
 have hfs:(Vk x roots a).ents.all (fun e=>(AW x (Dz e)).isSome)=true:=AS.2 fun e he=>by
  grind
 have hag:(Vk x roots a).ents.all (I4 x)=true:=AS.2 fun e he=>by
  grind [I4]
 have hcp:Di x (Vk x roots a).roots (J0 (Vk x roots a))=0:=by
  have e:J0 (Vk x roots a)=a:=by
   show(⟨true,Gp (Vk x roots a),a.infs,a.skips⟩:An)=a;rw[hs];cases a;simp_all
  rw[e];exact hc
 grind [ZG]
end
end Go.Eng
namespace Go.Eng
open Go.Proofs Go.Proofs.Tryz
variable {caps:List AV}{x:List Rl}{fF i k:Nat}(p s:CS)
abbrev CV(e:Lo):List AV:=[vs e.path,G e.ver.a,G e.ver.b,G e.ver.c,vs e.arch,vs e.ifc]
abbrev Ea(l:Lk):List AV:=[sl Ac l.roots,sl CV l.ents,sl AG l.infs,sl N l.skips]
theorem Ty{l:List Lo}(h:i<l.length):(l.take (i+1)).map Dz=(l.take i).map Dz++[Dz l[i]]:=by rw[Da h,Bl];rfl
theorem vg(l:Lk)(hl:l.ents.length<=1000000):PC 20 [.agg (Ea l)] (sl Ae (Gp l)):=by
 refine Ps (pT [1] [(3,4)] []) func20 rfl C4 (Z {q:Nat // q<=l.ents.length} (Z (fun q=>⟨[(3,.slice (.id 3 4) (((l.ents.take q.1).map Dz).map Ae)),(7,sl CV l.ents),(8,G (l.ents.map CV).length),(9,G q.1)],[(3,.tok 4 ((l.ents.take q.1).map Dz).length)],Af⟩) (Z (fun q=>l.ents.length-q.1) (J (Z ⟨0,Ak _⟩ ?_) ?_))))
 .exact⟨Z4,Z1,Fh,W⟩
 intro⟨i,i1⟩;have hT:((l.ents.take i).map Dz).length<=1073741824:=(by rw[Lm,BX];omega);refine J (fun h1=>?_) (fun h1=>?_)
 .have h1:(i:Int)<((l.ents.map CV).length:Int):=h1;have n1:=FY h1;refine Z (CV l.ents[i]) (J (Ht n1) (J rfl (yN (yN (yN (J (Yh rfl (show((l.ents.take i).map Dz).length<=2147483647 by omega) aa3) (J (Ii i Wk) (Z ⟨i+1,n1⟩ ?_))))))));exact⟨Dl l.ents.length i Wk,⟨⟨(show AV.slice (.id 3 4) (((l.ents.take i).map Dz).map Ae++[[vs l.ents[i].path,G l.ents[i].ver.a,G l.ents[i].ver.b,G l.ents[i].ver.c]])=.slice (.id 3 4) (((l.ents.take (i+1)).map Dz).map Ae) by rw[Ty n1,Bl];rfl),rfl⟩,X,X,X,W⟩,⟨⟨(show HO.tok 4 ((((l.ents.take i).map Dz).map Ae).length+([[vs l.ents[i].path,G l.ents[i].ver.a,G l.ents[i].ver.b,G l.ents[i].ver.c]]:C0).length)=.tok 4 ((l.ents.take (i+1)).map Dz).length by rw[Ty n1];simp),rfl⟩,W⟩,Fh,W⟩
 have n1:=El h1;exact CD.of_eq (show sl Ae ((l.ents.take i).map Dz)=sl Ae (Gp l) by rw[A3 (B7 (El h1))])
theorem gl(l:Lk)(hl:l.ents.length<=1000000):PC 15 [.agg (Ea l)] (sl Ae (Gp l)):=by
 refine Ps (pC [1] []) func15 rfl C4 (Z {q:Nat // q<=l.ents.length} (Z (fun q=>⟨[(1,.ref 1 0),(3,.slice (.id 5 4) (((l.ents.take q.1).map Dz).map Ae)),(4,G q.1)],[(1,.ro (Ea l)),(5,.tok 4 ((l.ents.take q.1).map Dz).length)],Af⟩) (Z (fun q=>l.ents.length-q.1) (J (Z ⟨0,Ak _⟩ ?_) ?_))))
 .exact⟨Z3,Z2,Fh,W⟩
 intro⟨i,i1⟩;have hT:((l.ents.take i).map Dz).length<=1073741824:=(by rw[Lm,BX];omega);refine J (fun h1=>?_) (fun h1=>?_)
 .have h1:(i:Int)<((l.ents.map CV).length:Int):=h1;have n1:=FY h1;refine Z (CV l.ents[i]) (J (Ht n1) (J rfl (Z (CV l.ents[i]) (J (Ht n1) (J rfl (yN (J (Yh rfl (show((l.ents.take i).map Dz).length<=2147483647 by omega) aa3) (J aa4 (J (Ii i Wk) (Z ⟨i+1,n1⟩ ?_))))))))));exact⟨Dl l.ents.length i Wk,⟨X,⟨(show AV.slice (.id 5 4) (((l.ents.take i).map Dz).map Ae++[[vs l.ents[i].path,G l.ents[i].ver.a,G l.ents[i].ver.b,G l.ents[i].ver.c]])=.slice (.id 5 4) (((l.ents.take (i+1)).map Dz).map Ae) by rw[Ty n1,Bl];rfl),rfl⟩,X,W⟩,⟨X,⟨(show HO.tok 4 ((((l.ents.take i).map Dz).map Ae).length+([[vs l.ents[i].path,G l.ents[i].ver.a,G l.ents[i].ver.b,G l.ents[i].ver.c]]:C0).length)=.tok 4 ((l.ents.take (i+1)).map Dz).length by rw[Ty n1];simp),rfl⟩,W⟩,Fh,W⟩
 have n1:=El h1;exact CD.of_eq (show sl Ae ((l.ents.take i).map Dz)=sl Ae (Gp l) by rw[A3 (B7 (El h1))])
theorem AbZ(l:Lk)(hl:l.ents.length<=1000000):PC 50 [.agg (Ea l)] (.agg [I true,sl Ae (Gp l),sl AG l.infs,sl N l.skips]):=by
 refine Ps (pC [1] []) func50 rfl C4 (yN (U (vg l hl) (yN (J aa4 (yN ?_)))));exact .refl _
theorem uc:PC 102 [vs s] (I (CK s)):=by
 refine Ps Dc func102 rfl C4 (J (fun h1=>?_) (fun h1=>?_))
 .exact CD.of_eq (Aa I (show true=CK s by unfold CK;rw[Ax (show s.size=0 by have q:=h1;omega)];rfl))
 refine J (fun h3=>?_) (fun h3=>?_)
 .exact CD.of_eq (Aa I (show true=CK s by unfold CK;rw[At (show ¬s.size=0 by have q:=h1;omega)];rw[Ax (show s.size=32 by have q:=h3;omega)];rfl))
 exact CD.of_eq (Aa I (show false=CK s by unfold CK;rw[At (show ¬s.size=0 by have q:=h1;omega)];rw[At (show ¬s.size=32 by have q:=h3;omega)];rfl))
theorem i7:PC 62 [vs s] (I (CK s)):=by
 refine Ps Dc func62 rfl C4 (J (fun h1=>?_) (fun h1=>?_))
 .exact CD.of_eq (Aa I (show true=CK s by unfold CK;rw[Ax (show s.size=0 by have q:=h1;omega)];rfl))
 refine J (fun h3=>?_) (fun h3=>?_)
 .exact CD.of_eq (Aa I (show true=CK s by unfold CK;rw[At (show ¬s.size=0 by have q:=h1;omega)];rw[Ax (show s.size=32 by have q:=h3;omega)];rfl))
 exact CD.of_eq (Aa I (show false=CK s by unfold CK;rw[At (show ¬s.size=0 by have q:=h1;omega)];rw[At (show ¬s.size=32 by have q:=h3;omega)];rfl))
theorem Ah2(hs:Dh caps)(l:List (Int))(p:Int->Bool)(hF:∀x∈l,PC fF ([G x]++caps) (I (p x)))(hl:l.length<9223372036854775807) :
  PC 255 [sl DR l,.clo fF caps] (G (KT p l 0)):=by
 refine Ps Dc func255 rfl C4 (Z {i:Nat // i<=l.length/\∀j (hj:j<l.length),j<i->p l[j]=false} (Z (fun i=>⟨[(0,sl DR l),(1,.clo fF caps),(7,G (l.map DR).length),(8,G i.1)],[],Af⟩) (Z (fun i=>l.length-i.1) (J (Z ⟨0,by simp⟩ ?_) ?_))))
 .exact⟨⟨X,⟨rfl,hs.ids _⟩,X,X,W⟩,W,Fh,W⟩
 .intro⟨i,h1,h2⟩;refine J ?_ ?_
  .intro h;have h:i<l.length:=by simpa using h
   have hg:l[i]?=some l[i]:=Ge h;refine Z (DR l[i]) (J (J (Nn i) (by simp[hg])) (J rfl ?_));have Cv:∀h,PC fF ([G l[i]]++caps.map (str0 h)) (I (p l[i])):=fun h=>by rw[hs.map];exact hF l[i] (Ag _)
   cases hp:p l[i]with
   |true=>
    rw[hp]at Cv;refine Z .pure (Z (I true) (J (Cv _) ?_));rw[LU h (fun j hj F6=>h2 j hj F6) hp,GP];exact .refl _
   |false=>
    rw[hp]at Cv;refine Z .pure (Z (I false) (J (Cv _) (J (Ii i Wk) (Z ⟨i+1,by omega,fun j hj F6=>?_⟩ ?_))))
    .by_cases e:j=i
     .subst e;exact hp
     .exact h2 j hj Wk
    .exact⟨Dl l.length i Wk,⟨X,⟨rfl,hs.ids _⟩,X,X,W⟩,W,Fh,W⟩
  .intro h;have h:¬i<l.length:=by simpa using h
   rw[Is fun j hj=>h2 j hj Wk];exact .refl _
theorem Ah0(hs:Dh caps)(l:List (Int))(p:Int->Bool)(hF:∀x∈l,PC fF ([G x]++caps) (I (p x)))(hl:BF l) :
  PC 179 [sl DR l,.clo fF caps] (I (l.any p)):=by
 refine Ps Dc func179 rfl C4 ?_;have hi:=Ah2 hs l p hF (by unfold BF at hl;omega);have Cv:∀h,PC 255 [sl DR l,.clo fF (caps.map (str0 h))] (G (KT p l 0)):=fun h=>by rw[hs.map];exact hi
 refine C1 (U (Cv _) ?_);have ha:=Kz (p:=p) l 0 (B4 0);refine J ?_ ?_
 .intro h;rw[<-ha,Ax h];exact .refl _
 .intro h;rw[<-ha,At h];exact .refl _
theorem Ah1(hs:Dh caps)(l:List (Sk))(p:Sk->Bool)(hF:∀x∈l,PC fF ([.agg (N x)]++caps) (I (p x)))(hl:l.length<9223372036854775807) :
  PC 181 [sl N l,.clo fF caps] (G (KT p l 0)):=by
 refine Ps Dc func181 rfl C4 (Z {i:Nat // i<=l.length/\∀j (hj:j<l.length),j<i->p l[j]=false} (Z (fun i=>⟨[(0,sl N l),(1,.clo fF caps),(7,G (l.map N).length),(8,G i.1)],[],Af⟩) (Z (fun i=>l.length-i.1) (J (Z ⟨0,by simp⟩ ?_) ?_))))
 .exact⟨⟨X,⟨rfl,hs.ids _⟩,X,X,W⟩,W,Fh,W⟩
 .intro⟨i,h1,h2⟩;refine J ?_ ?_
  .intro h;have h:i<l.length:=by simpa using h
   have hg:l[i]?=some l[i]:=Ge h;refine Z (N l[i]) (J (J (Nn i) (by simp[hg])) (J rfl (yN ?_)));have Cv:∀h,PC fF ([.agg (N l[i])]++caps.map (str0 h)) (I (p l[i])):=fun h=>by rw[hs.map];exact hF l[i] (Ag _)
   cases hp:p l[i]with
   |true=>
    rw[hp]at Cv;refine Z .pure (Z (I true) (J (Cv _) ?_));rw[LU h (fun j hj F6=>h2 j hj F6) hp,GP];exact .refl _
   |false=>
    rw[hp]at Cv;refine Z .pure (Z (I false) (J (Cv _) (J (Ii i Wk) (Z ⟨i+1,by omega,fun j hj F6=>?_⟩ ?_))))
    .by_cases e:j=i
     .subst e;exact hp
     .exact h2 j hj Wk
    .exact⟨Dl l.length i Wk,⟨X,⟨rfl,hs.ids _⟩,X,X,W⟩,W,Fh,W⟩
  .intro h;have h:¬i<l.length:=by simpa using h
   rw[Is fun j hj=>h2 j hj Wk];exact .refl _
theorem AgZ(hs:Dh caps)(l:List (Sk))(p:Sk->Bool)(hF:∀x∈l,PC fF ([.agg (N x)]++caps) (I (p x)))(hl:BF l) :
  PC 104 [sl N l,.clo fF caps] (I (l.any p)):=by
 refine Ps Dc func104 rfl C4 ?_;have hi:=Ah1 hs l p hF (by unfold BF at hl;omega);have Cv:∀h,PC 181 [sl N l,.clo fF (caps.map (str0 h))] (G (KT p l 0)):=fun h=>by rw[hs.map];exact hi
 refine C1 (U (Cv _) ?_);have ha:=Kz (p:=p) l 0 (B4 0);refine J ?_ ?_
 .intro h;rw[<-ha,Ax h];exact .refl _
 .intro h;rw[<-ha,At h];exact .refl _
theorem CD.fn(f:Nat):CD (.v (.func (.func f) #[] #[])) (.clo f []):=fun _ _ _ _ h=>by cases h;exact .clo _ f [] #[] rfl (fun i av x h=>by cases h)
theorem Dh.nil:Dh []:=fun _ hc=>absurd hc List.not_mem_nil
def Zj(l:List Int):Bool:=decide (p.size<=64)&&!(l.any fun n=>decide (n<0))
theorem Ac2(n:Int):PC 180 [G n] (I (decide (n<0))):=by
 refine Ps Dc func180 rfl C4 (J (fun h1=>?_) (fun h1=>?_))
 .exact CD.of_eq (Aa I (show true=decide (n<0)from(Ax h1).symm))
 exact CD.of_eq (Aa I (show false=decide (n<0)from(At h1).symm))
theorem ve(l:List Int)(hl:BF l):PC 179 [sl DR l,.v (.func (.func 180) #[] #[])] (I (l.any fun n=>decide (n<0))):=
 (Ah0 (fF:=180) Dh.nil l (fun n=>decide (n<0)) (fun n _=>Ac2 n) hl).args ⟨.refl _,CD.fn 180,trivial⟩
theorem ud(l:List Int)(hl:BF l):PC 103 [vs p,sl DR l] (I (Zj p l)):=by
 refine Ps Dc func103 rfl C4 (J (fun h1=>?_) (fun h1=>?_))
 .refine Ay (Bt (l.any fun n=>decide (n<0))) (fun h2=>?_) (fun h2=>?_)
  .refine C1 (U (cb h2 (ve l hl)) ?_);exact CD.of_eq (Aa I (show false=Zj p l by rw[Zj,Ax (show p.size<=64 by have q:=h1;omega),h2];rfl))
  refine C1 (U (cb h2 (ve l hl)) ?_);exact CD.of_eq (Aa I (show true=Zj p l by rw[Zj,Ax (show p.size<=64 by have q:=h1;omega),h2];rfl))
 exact CD.of_eq (Aa I (show false=Zj p l by rw[Zj,At (show ¬p.size<=64 by have q:=h1;omega)];rfl))
theorem uZ(s:Sk):Zj s.path [s.place,s.inf]=Nl s:=by unfold Zj Nl;rw[CI];simp
theorem uY(i:Nf)(h0:¬i.kind<0)(h3:¬3<i.kind):Zj i.path [i.place,i.number,i.left,i.right]=M4 i:=by unfold Zj M4;rw[CI];simp;omega
theorem Ac0(s:Sk):PC 105 [.agg (N s)] (I (!Nl s)):=by
 refine Ps (pC [1] []) func105 rfl C4 (Ay (Bt (Zj s.path [s.place,s.inf])) (fun h1=>?_) (fun h1=>?_))
 .refine C1 (U (cb h1 (show PC 103 [vs s.path,.slice .none [[G s.place],[G s.inf]]] (I (Zj s.path [s.place,s.inf]))from ud s.path [s.place,s.inf] (show 2<=1073741824 by decide))) ?_);exact CD.of_eq (Aa I (show false=!Nl s by rw[<-uZ,h1];rfl))
 refine C1 (U (cb h1 (show PC 103 [vs s.path,.slice .none [[G s.place],[G s.inf]]] (I (Zj s.path [s.place,s.inf]))from ud s.path [s.place,s.inf] (show 2<=1073741824 by decide))) ?_);exact CD.of_eq (Aa I (show true=!Nl s by rw[<-uZ,h1];rfl))
theorem gt{l:List Sk}:(l.any fun s=>!Nl s)=!l.all Nl:=List.not_all_eq_any_not.symm
theorem vh(l:List Sk)(hl:BF l):PC 104 [sl N l,.v (.func (.func 105) #[] #[])] (I (l.any fun s=>!Nl s)):=
 (AgZ (fF:=105) Dh.nil l (fun s=>!Nl s) (fun s _=>Ac0 s) hl).args ⟨.refl _,CD.fn 105,trivial⟩
def PY(l:List Lo)(i:Nat):Bool:=match l[i]? with
 |none=>true
 |some e=>Hv e&&(decide (i=0)||Ek (l[i-1]?.getD e).path e.path)
section
variable {l:List Lo}{i:Nat}
theorem IW(h:i<l.length):PY l i=(Hv l[i]&&(decide (i=0)||Ek (l[i-1]' Wk).path l[i].path)):=by
 rw[PY,Ge h];simp only;rw[Ge (show i-1<l.length by omega)];rfl
theorem gH(h:∀j,j<l.length->PY l j=true):Be (l.map Dz)=true/\l.all Hv=true:=by
 have hk:∀j (hj:j<l.length),Hv l[j]=true/\(0<j->Ek (l[j-1]' Wk).path l[j].path=true):=fun j hj=>by
  have q:=h j hj;rw[IW hj]at q;obtain⟨q1,q2⟩:=Bool.and_eq_true_iff.1 q;exact⟨q1,fun h0=>by simpa[show j≠0 by omega]using q2⟩
 refine⟨oo ?_,AS.2 fun e he=>?_⟩
 .have go:∀j i (hi:i<l.length) (hj:j<l.length),i<j->Ek l[i].path l[j].path=true:=by
   intro j
   induction j with
   |zero=>intro i _ _ h;omega
   |succ j ih=>
    intro i hi hj cX;have q:=(hk (j+1) hj).2 Wk
    by_cases e:i=j
    .subst e;exact q
    .exact D2 (ih i hi Wk Wk) q
  show(l.map Dz).Pairwise _;rw[ID,Cy];exact fun i j hi hj cX=>go j i hi hj cX
 .obtain⟨j,hj,rfl⟩:=CG.1 he;exact(hk j hj).1
theorem Ny(h:i<l.length)(k:PY l i=false):¬(Be (l.map Dz)=true/\l.all Hv=true):=by
 rintro⟨h1,h2⟩
 have h1:(l.map Dz).Pairwise (fun a b=>Ek a.path b.path=true):=(HI h1).1;rw[IW h,AS.1 h2 _ (Ag h),S0]at k;obtain⟨k1,k2⟩:=Bool.or_eq_false_iff.1 k;have k1:i≠0:=of_decide_eq_false k1;rw[ID,Cy]at h1
 have:=h1 (i-1) i Wk h Wk
 rw[k2]at this;cases this
end
theorem CQ{l:Lk}(h:¬(AK l.roots=0/\l.ents.length<=1024/\l.infs.length<=65536/\l.skips.length<=65536/\(Be (Gp l)=true/\l.ents.all Hv=true)/\l.infs.all M4=true/\l.skips.all Nl=true)):Dy l=false:=by
 cases e:Dy l with
 |false=>rfl
 |true=>
  refine absurd ?_ h;unfold Dy at e;simp only[Aq,A4]at e;obtain⟨a1,a2,a3,a4,a5,a6,a7,a8⟩:=e;exact⟨a1,a2,a3,a4,⟨a5,a6⟩,a7,a8⟩
theorem UF{l:Lk}(a1:AK l.roots=0)(a2:l.ents.length<=1024)(a3:l.infs.length<=65536)(a4:l.skips.length<=65536)(a5:Be (Gp l)=true/\l.ents.all Hv=true)(a7:l.infs.all M4=true):Dy l=l.skips.all Nl:=by
 unfold Dy;rw[Ax a1,Ax a2,Ax a3,Ax a4,a5.1,a5.2,a7];simp
theorem qo(hp:Fp p):PC 66 [vs p] (match AP p with | none=>.tup [vs ⟨#[]⟩,G 0,G 4] | some m=>.tup [vs (Ve p),G m,G 0]):=by
 cases e:AP p with
 |none=>exact Wm.none hp e
 |some m=>exact Wm.some hp e
theorem qn(l:Lk)(Tu:∀q∈l.roots,G5 q)(yj:∀e∈l.ents,Fp e.path)(uz:l.ents.length<=1000000)(hil:l.infs.length<=1000000)(Xk:l.skips.length<=1000000):PC 48 [.agg (Ea l)] (I (Dy l)):=by
 refine Ps (pC [1] [10,16]) func48 rfl C4 (C1 (U (c65 Wm l.roots Tu) (J (fun h1=>?_) (fun h1=>?_))))
 .exact CD.of_eq (Aa I (CQ (fun c=>h1 c.1)).symm)
 have h1:((AK l.roots):Int)=(0:Int):=As h1;refine J (fun h3=>?_) (fun h3=>?_)
 .have n3:1024<l.ents.length:=by have q:=h3;rw[Lm]at q;omega
  exact CD.of_eq (Aa I (CQ (fun c=>absurd c.2.1 (by have q:=h3;rw[Lm]at q;omega))).symm)
 have n3:¬1024<l.ents.length:=by have q:=h3;rw[Lm]at q;omega
 refine J (fun h5=>?_) (fun h5=>?_)
 .have n5:65536<l.infs.length:=by have q:=h5;rw[Lm]at q;omega
  exact CD.of_eq (Aa I (CQ (fun c=>absurd c.2.2.1 (by have q:=h5;rw[Lm]at q;omega))).symm)
 have n5:¬65536<l.infs.length:=by have q:=h5;rw[Lm]at q;omega
 refine J (fun h7=>?_) (fun h7=>?_)
 .have n7:65536<l.skips.length:=by have q:=h7;rw[Lm]at q;omega
  exact CD.of_eq (Aa I (CQ (fun c=>absurd c.2.2.2.1 (by have q:=h7;rw[Lm]at q;omega))).symm)
 have n7:¬65536<l.skips.length:=by have q:=h7;rw[Lm]at q;omega
 refine Z {q:Nat // q<=l.ents.length/\∀j,j<q->PY l.ents j=true} (Z (fun q=>⟨[(1,.ref 1 0),(33,sl CV l.ents),(34,G (l.ents.map CV).length),(35,G q.1)],[(1,.ro (Ea l))],Af⟩) (Z (fun q=>l.ents.length-q.1) (J (Z ⟨0,Ak _,fun j h=>absurd h (Ch _)⟩ ?_) ?_)))
 .exact⟨Z4,Z1,Fh,W⟩
 intro⟨i,i1,i2⟩;have i2:∀j,j<i->PY l.ents j=true:=i2;refine J (fun h9=>?_) (fun h9=>?_)
 .have h9:(i:Int)<((l.ents.map CV).length:Int):=h9;have n9:=FY h9;refine Z (CV l.ents[i]) (J (Ht n9) (J rfl (yN (yN (Ay (CU (AP l.ents[i].path)) (fun JN=>?_) (fun JN=>?_))))))
  .refine Al JN (fun mj JN=>?_);have MU:=(qo l.ents[i].path (yj _ (Ag n9)));rw[JN]at MU;refine C1 (U MU (J (fun h=>absurd h aa3) (fun _=>?_)));refine yN (Ay (Bt (Bv l.ents[i].ver)) (fun F4=>?_) (fun F4=>?_))
   .have F4:(Bv l.ents[i].ver)=true:=F4;refine U (cb F4 (q8 l.ents[i].ver)) (J (fun GH=>?_) (fun GH=>?_))
    .have GH:(l.ents[i].ver.a:Int)≠(mj:Int):=GH;refine J aa4 ?_;have eK:PY l.ents i=false:=by rw[IW n9,Hv,show AP l.ents[i].path=some mj from JN,At (fun e=>GH (D5 e).symm)];rfl
     exact CD.of_eq (Aa I (CQ (fun c=>Ny n9 eK c.2.2.2.2.1)).symm)
    have GH:(l.ents[i].ver.a:Int)=(mj:Int):=As GH;refine Ay (Bt (CK l.ents[i].arch)) (fun LA=>?_) (fun LA=>?_)
    .have LA:(CK l.ents[i].arch)=true:=LA;refine U (cb LA (uc l.ents[i].arch)) (Ay (Bt (CK l.ents[i].ifc)) (fun Jb=>?_) (fun Jb=>?_))
     .have Jb:(CK l.ents[i].ifc)=true:=Jb;refine U (cb Jb (uc l.ents[i].ifc)) (J (fun MQ=>?_) (fun MQ=>?_))
      .have MQ:(0:Int)<(i:Int):=MQ;refine J (by show Au ((i:Int)-(1:Int));unfold Au;omega) (Z (CV (l.ents[i-1]' Wk)) (J (J (show(0:Int)<=(i:Int)-1 by omega) (by rw[show((i:Int)-1).toNat=i-1 by omega];exact Br (Ge Wk))) (J rfl ?_)));refine J (fun YJ=>?_) (fun YJ=>?_)
       .have YJ:Ek (l.ents[i-1]' Wk).path l.ents[i].path=false:=(DZ _ _).trans YJ;refine J aa4 ?_;have eK:PY l.ents i=false:=by rw[IW n9,Hv,show AP l.ents[i].path=some mj from JN,Ax (Aa some (show mj=l.ents[i].ver.a from GH.symm)),F4,LA,Jb,At (show ¬i=0 by omega),YJ];rfl
        exact CD.of_eq (Aa I (CQ (fun c=>Ny n9 eK c.2.2.2.2.1)).symm)
       have YJ:Ek (l.ents[i-1]' Wk).path l.ents[i].path=true:=(DZ _ _).trans (by simpa using YJ);refine J aa4 (J (Ii i Wk) ?_);have eK:PY l.ents i=true:=by rw[IW n9,Hv,show AP l.ents[i].path=some mj from JN,Ax (Aa some (show mj=l.ents[i].ver.a from GH.symm)),F4,LA,Jb,At (show ¬i=0 by omega),YJ];rfl
       refine Z ⟨i+1,n9,fun j h=>by rcases B9 j i with h2 | h2;exact i2 j h2;have e:j=i:=Wk;subst e;exact eK⟩ ?_;exact⟨Dl l.ents.length i Wk,Z4,Z1,Fh,W⟩
      have MQ:¬((0:Int)<(i:Int)):=MQ;refine J aa4 (J (Ii i Wk) ?_);have eK:PY l.ents i=true:=by rw[IW n9,Hv,show AP l.ents[i].path=some mj from JN,Ax (Aa some (show mj=l.ents[i].ver.a from GH.symm)),F4,LA,Jb,Ax (show i=0 by omega)];rfl
      refine Z ⟨i+1,n9,fun j h=>by rcases B9 j i with h2 | h2;exact i2 j h2;have e:j=i:=Wk;subst e;exact eK⟩ ?_;exact⟨Dl l.ents.length i Wk,Z4,Z1,Fh,W⟩
     have Jb:(CK l.ents[i].ifc)=false:=Jb;refine U (cb Jb (uc l.ents[i].ifc)) (J aa4 ?_);have eK:PY l.ents i=false:=by rw[IW n9,Hv,show AP l.ents[i].path=some mj from JN,Ax (Aa some (show mj=l.ents[i].ver.a from GH.symm)),F4,LA,Jb];rfl
     exact CD.of_eq (Aa I (CQ (fun c=>Ny n9 eK c.2.2.2.2.1)).symm)
    have LA:(CK l.ents[i].arch)=false:=LA;refine U (cb LA (uc l.ents[i].arch)) (J aa4 ?_);have eK:PY l.ents i=false:=by rw[IW n9,Hv,show AP l.ents[i].path=some mj from JN,Ax (Aa some (show mj=l.ents[i].ver.a from GH.symm)),F4,LA];rfl
    exact CD.of_eq (Aa I (CQ (fun c=>Ny n9 eK c.2.2.2.2.1)).symm)
   have F4:(Bv l.ents[i].ver)=false:=F4;refine U (cb F4 (q8 l.ents[i].ver)) (J aa4 ?_);have eK:PY l.ents i=false:=by rw[IW n9,Hv,F4];simp
   exact CD.of_eq (Aa I (CQ (fun c=>Ny n9 eK c.2.2.2.2.1)).symm)
  have MU:=(qo l.ents[i].path (yj _ (Ag n9)));rw[JN]at MU;refine C1 (U MU (J (fun _=>?_) (fun h=>absurd aa3 h)));refine J aa4 ?_;have eK:PY l.ents i=false:=by rw[IW n9,Hv,show AP l.ents[i].path=none from JN];rfl
  exact CD.of_eq (Aa I (CQ (fun c=>Ny n9 eK c.2.2.2.2.1)).symm)
 have h9:¬((i:Int)<((l.ents.map CV).length:Int)):=h9;have n9:=El h9;refine cU [(1,.ref 1 0)] [(1,.ro (Ea l))] Z1 Z1 (Z {q:Nat // q<=l.infs.length/\∀j (h:j<l.infs.length),j<q->M4 l.infs[j]=true} (Z (fun q=>⟨[(1,.ref 1 0),(92,sl AG l.infs),(93,G (l.infs.map AG).length),(94,G q.1)],[(1,.ro (Ea l))],Af⟩) (Z (fun q=>l.infs.length-q.1) (J (Z ⟨0,Ak _,fun j _ h=>absurd h (Ch _)⟩ ?_) ?_))))
 .exact⟨Z4,Z1,Fh,W⟩
 intro⟨k,k1,k2⟩;have k1:k<=l.infs.length:=k1;have k2:∀j (h:j<l.infs.length),j<k->M4 l.infs[j]=true:=k2;refine J (fun Wb=>?_) (fun Wb=>?_)
 .have Wb:(k:Int)<((l.infs.map AG).length:Int):=Wb;have n25:=FY Wb;refine Z (AG l.infs[k]) (J (Ht n25) (J rfl (yN (yN (J (fun Wc=>?_) (fun Wc=>?_))))))
  .have Wc:(l.infs[k].kind:Int)<(0:Int):=Wc;have eN:M4 l.infs[k]=false:=by unfold M4;exact At (fun c=>absurd c.1 (by have q:=Wc;omega))
   exact CD.of_eq (Aa I (CQ (fun c=>by have q:=AS.1 c.2.2.2.2.2.1 _ (Ag n25);rw[eN]at q;cases q)).symm)
  have Wc:¬((l.infs[k].kind:Int)<(0:Int)):=Wc;refine J (fun Xe=>?_) (fun Xe=>?_)
  .have Xe:(3:Int)<(l.infs[k].kind:Int):=Xe;have eN:M4 l.infs[k]=false:=by unfold M4;exact At (fun c=>absurd c.2.1 (by have q:=Xe;omega))
   exact CD.of_eq (Aa I (CQ (fun c=>by have q:=AS.1 c.2.2.2.2.2.1 _ (Ag n25);rw[eN]at q;cases q)).symm)
  have Xe:¬((3:Int)<(l.infs[k].kind:Int)):=Xe;refine Ay (Bt (Zj l.infs[k].path [l.infs[k].place,l.infs[k].number,l.infs[k].left,l.infs[k].right])) (fun Xf=>?_) (fun Xf=>?_)
  .have Xf:(Zj l.infs[k].path [l.infs[k].place,l.infs[k].number,l.infs[k].left,l.infs[k].right])=true:=Xf;refine C1 (U (cb Xf (show PC 103 [vs l.infs[k].path,.slice .none [[G l.infs[k].place],[G l.infs[k].number],[G l.infs[k].left],[G l.infs[k].right]]] (I (Zj l.infs[k].path [l.infs[k].place,l.infs[k].number,l.infs[k].left,l.infs[k].right]))from ud l.infs[k].path [l.infs[k].place,l.infs[k].number,l.infs[k].left,l.infs[k].right] (show 4<=1073741824 by decide))) (J (Ii k Wk) ?_));have eN:M4 l.infs[k]=true:=(uY l.infs[k] Wc Xe).symm.trans Xf;refine Z ⟨k+1,n25,fun j hj h=>by rcases B9 j k with h2 | h2;exact k2 j hj h2;have e:j=k:=Wk;subst e;exact eN⟩ ?_;exact⟨Dl l.infs.length k Wk,Z4,Z1,Fh,W⟩
  have Xf:(Zj l.infs[k].path [l.infs[k].place,l.infs[k].number,l.infs[k].left,l.infs[k].right])=false:=Xf;refine C1 (U (cb Xf (show PC 103 [vs l.infs[k].path,.slice .none [[G l.infs[k].place],[G l.infs[k].number],[G l.infs[k].left],[G l.infs[k].right]]] (I (Zj l.infs[k].path [l.infs[k].place,l.infs[k].number,l.infs[k].left,l.infs[k].right]))from ud l.infs[k].path [l.infs[k].place,l.infs[k].number,l.infs[k].left,l.infs[k].right] (show 4<=1073741824 by decide))) ?_);have eN:M4 l.infs[k]=false:=(uY l.infs[k] Wc Xe).symm.trans Xf;exact CD.of_eq (Aa I (CQ (fun c=>by have q:=AS.1 c.2.2.2.2.2.1 _ (Ag n25);rw[eN]at q;cases q)).symm)
 have Wb:¬((k:Int)<((l.infs.map AG).length:Int)):=Wb;have n25:=El Wb;refine cU [(1,.ref 1 0)] [(1,.ro (Ea l))] Z1 Z1 (Ay (Bt (l.skips.any fun s=>!Nl s)) (fun Ts=>?_) (fun Ts=>?_))
 .have Ts:(l.skips.any fun s=>!Nl s)=true:=Ts;refine C1 (U (cb Ts (vh l.skips (Bd Xk aa3))) ?_);have eF:Dy l=l.skips.all Nl:=UF h1 (by have q:=h3;rw[Lm]at q;omega) (by have q:=h5;rw[Lm]at q;omega) (by have q:=h7;rw[Lm]at q;omega) (gH fun j hj=>i2 j (AZ hj (B7 (El h9)))) (AS.2 fun z hz=>by obtain⟨j,hj,rfl⟩:=CG.1 hz;exact k2 j hj (AZ hj (B7 (El Wb))));have eS:(l.skips.any fun s=>!Nl s)=true:=Ts;rw[gt]at eS;exact CD.of_eq (Aa I (show false=Dy l by rw[eF,<-Bool.not_not (l.skips.all Nl),eS];rfl))
 have Ts:(l.skips.any fun s=>!Nl s)=false:=Ts;refine C1 (U (cb Ts (vh l.skips (Bd Xk aa3))) ?_);have eF:Dy l=l.skips.all Nl:=UF h1 (by have q:=h3;rw[Lm]at q;omega) (by have q:=h5;rw[Lm]at q;omega) (by have q:=h7;rw[Lm]at q;omega) (gH fun j hj=>i2 j (AZ hj (B7 (El h9)))) (AS.2 fun z hz=>by obtain⟨j,hj,rfl⟩:=CG.1 hz;exact k2 j hj (AZ hj (B7 (El Wb))));have eS:(l.skips.any fun s=>!Nl s)=false:=Ts;rw[gt]at eS;exact CD.of_eq (Aa I (show true=Dy l by rw[eF,<-Bool.not_not (l.skips.all Nl),eS];rfl))
abbrev zrR:Rl:=⟨⟨#[]⟩,⟨0,0,0⟩,[],⟨#[]⟩,⟨#[]⟩,⟨#[]⟩,false⟩
def Nh(x:List Rl)(e:Lo):Rl:=(AW x (Dz e)).getD zrR
theorem Zv{e:Lo}{r:Rl}(h:AW x (Dz e)=some r):Nh x e=r:=by rw[Nh,h];rfl
theorem vd{l:List Lo}(h:k<l.length):(0:Int)<=(k:Int)/\((l.map (Nh x)).map V)[((k:Nat):Int).toNat]?=some (V (Nh x l[k])):=by
 have q:=Ht (f:=V) (l:=l.map (Nh x)) (i:=k) (by rw[Lm];exact h);rw[List.getElem_map]at q;exact q
theorem tg{l:List Lo}(h:i<l.length):(l.take (i+1)).map (Nh x)=(l.take i).map (Nh x)++[Nh x l[i]]:=by rw[Da h,Bl];rfl
section
variable {x:List Rl}{l:Lk}
theorem t7(h:¬(Aw x=0/\Dy l=true)):1=ZG x l:=by
 unfold ZG;rw[A1]
 by_cases h1:Aw x=0
 .right;cases e:Dy l with
  |false=>rfl
  |true=>exact absurd ⟨h1,e⟩ h
 .exact .inl h1
theorem AbY(h1:Aw x=0)(h2:Dy l=true)(hi:i<l.ents.length)(h:AW x (Dz l.ents[i])=none):6=ZG x l:=by
 unfold ZG;rw[AL (by rw[h2];simp[h1]),A1];refine List.all_eq_false.2 ⟨_,Ag hi,?_⟩;rw[h];decide
theorem ql(h:∀j (hj:j<l.ents.length),(AW x (Dz l.ents[j])).isSome=true):l.ents.all (fun e=>(AW x (Dz e)).isSome)=true:=AS.2 fun e he=>by
 obtain⟨j,hj,rfl⟩:=CG.1 he;exact h j hj
theorem WK{e:Lo}(h:(AW x (Dz e)).isSome=true):I4 x e=(decide (e.arch=(Nh x e).arch)&&decide (e.ifc=(Nh x e).ifc)):=by
 unfold I4 Nh;cases q:AW x (Dz e)with
 |none=>rw[q]at h;cases h
 |some r=>rfl
theorem t8(h1:Aw x=0)(h2:Dy l=true)(h3:∀j (hj:j<l.ents.length),(AW x (Dz l.ents[j])).isSome=true)(hk:k<l.ents.length)(h:I4 x l.ents[k]=false):9=ZG x l:=by
 unfold ZG;rw[AL (by rw[h2];simp[h1]),AL (by rw[ql h3];decide),A1];exact List.all_eq_false.2 ⟨_,Ag hk,by rw[h];decide⟩
theorem t6(h1:Aw x=0)(h2:Dy l=true)(h3:∀j (hj:j<l.ents.length),(AW x (Dz l.ents[j])).isSome=true)(h:∀k (hk:k<l.ents.length),I4 x l.ents[k]=true):ZG x l=if Di x l.roots (J0 l)≠0 then 18 else 0:=by
 unfold ZG;rw[AL (by rw[h2];simp[h1]),AL (by rw[ql h3];decide),AL];rw[AS.2 fun e he=>by obtain⟨j,hj,rfl⟩:=CG.1 he;exact h j hj];decide
end
theorem Ac5(x:List Rl)(ifs:C0)(l:Lk)(_hx:∀r∈x,Eo r)(_hxl:BF x)(h47:PC 47 [.agg (Ic x ifs)] (G (Aw x)))(uq:∀p v,PC 40 [.agg (Ic x ifs),vs p,.agg (Ez v)] (Hi (AW x ⟨p,v⟩)))(h48:PC 48 [.agg (Ea l)] (I (Dy l)))(rQ:PC 49 [.agg (Ic x ifs),sl Ac l.roots,.agg [I true,sl Ae (Gp l),sl AG l.infs,sl N l.skips]] (G (Di x l.roots (J0 l))))(uz:l.ents.length<=1000000):PC 18 [.agg (Ic x ifs),.agg (Ea l)] (G (ZG x l)):=by
 refine Ps (pT [2,3] [(5,9)] [12]) func18 rfl C4 (yN (C1 (U h47 (J (fun h1=>?_) (fun h1=>?_)))))
 .exact CD.of_eq (Aa G (t7 (fun c=>h1 c.1)))
 have h1:((Aw x):Int)=(0:Int):=As h1;refine yN (Ay (Bt (Dy l)) (fun h3=>?_) (fun h3=>?_))
 .refine C1 (U (cb h3 h48) (Z {q:Nat // q<=l.ents.length/\(∀j (hj:j<l.ents.length),j<q->(AW x (Dz l.ents[j])).isSome=true)} (Z (fun q=>⟨[(2,.ref 2 0),(3,.ref 3 0),(5,.slice (.id 5 9) (((l.ents.take q.1).map (Nh x)).map V)),(21,sl CV l.ents),(22,G (l.ents.map CV).length),(23,G q.1)],[(2,.ro (Ic x ifs)),(3,.ro (Ea l)),(5,.tok 9 ((l.ents.take q.1).map (Nh x)).length)],Af⟩) (Z (fun q=>l.ents.length-q.1) (J (Z ⟨0,Ak _,fun j _ h=>absurd h (Ch _)⟩ ?_) ?_)))))
  .exact⟨Z6,Z3,Fh,W⟩
  intro⟨i,i1,i2⟩;have i2:∀j (hj:j<l.ents.length),j<i->(AW x (Dz l.ents[j])).isSome=true:=i2;have hT:((l.ents.take i).map (Nh x)).length<=1000000:=(by rw[Lm,BX];omega);refine J (fun h4=>?_) (fun h4=>?_)
  .have h4:(i:Int)<((l.ents.map CV).length:Int):=h4;have n4:=FY h4;refine Z (CV l.ents[i]) (J (Ht n4) (J rfl (yN (yN (yN (yN (Ay (CU (AW x ⟨l.ents[i].path,l.ents[i].ver⟩)) (fun h5=>?_) (fun h5=>?_))))))))
   .refine Al h5 (fun r h5=>?_);have SC:=(uq l.ents[i].path l.ents[i].ver);rw[h5]at SC;refine C1 (U SC (yN (yN (J (Yh rfl (show((l.ents.take i).map (Nh x)).length<=2147483647 by omega) aa3) (J (Ii i Wk) ?_)))));have er:((l.ents.take i).map (Nh x))++[r]=((l.ents.take (i+1)).map (Nh x)):=by rw[tg n4,Zv h5]
    refine Z ⟨i+1,n4,fun j hj h=>by rcases B9 j i with h2 | h2;exact i2 j hj h2;have e:j=i:=Wk;subst e;rw[h5];rfl⟩ ?_;exact⟨Dl l.ents.length i Wk,⟨X,X,⟨(show AV.slice (.id 5 9) ((((l.ents.take i).map (Nh x)).map V)++[(V r)])=.slice (.id 5 9) (((l.ents.take (i+1)).map (Nh x)).map V) by rw[<-er,Bl];rfl),rfl⟩,X,X,X,W⟩,⟨X,X,⟨(show HO.tok 9 ((((l.ents.take i).map (Nh x)).map V).length+([(V r)]:C0).length)=.tok 9 ((l.ents.take (i+1)).map (Nh x)).length by rw[<-er];simp),rfl⟩,W⟩,Fh,W⟩
   have SC:=(uq l.ents[i].path l.ents[i].ver);rw[h5]at SC;refine C1 (U SC (yN ?_));exact CD.of_eq (Aa G (AbY h1 h3 n4 h5))
  have h4:¬((i:Int)<((l.ents.map CV).length:Int)):=h4;have n4:=El h4;have ei:l.ents.take i=l.ents:=A3 (B7 (El h4));have i3:∀j (hj:j<l.ents.length),(AW x (Dz l.ents[j])).isSome=true:=fun j hj=>i2 j hj (AZ hj (B7 (El h4)));refine cU [(2,.ref 2 0),(3,.ref 3 0),(5,.slice (.id 5 9) ((l.ents.map (Nh x)).map V))] [(2,.ro (Ic x ifs)),(3,.ro (Ea l)),(5,.tok 9 (l.ents.map (Nh x)).length)] ⟨X,X,⟨(show AV.slice (.id 5 9) (((l.ents.take i).map (Nh x)).map V)=AV.slice (.id 5 9) ((l.ents.map (Nh x)).map V) by rw[ei]),rfl⟩,W⟩ ⟨X,X,⟨(show HO.tok 9 ((l.ents.take i).map (Nh x)).length=HO.tok 9 (l.ents.map (Nh x)).length by rw[ei]),rfl⟩,W⟩ ?_
  refine Z {q:Nat // q<=l.ents.length/\(∀j (hj:j<l.ents.length),j<q->I4 x l.ents[j]=true)} (Z (fun q=>⟨[(2,.ref 2 0),(3,.ref 3 0),(5,.slice (.id 5 9) ((l.ents.map (Nh x)).map V)),(44,sl CV l.ents),(45,G (l.ents.map CV).length),(46,G q.1)],[(2,.ro (Ic x ifs)),(3,.ro (Ea l)),(5,.tok 9 (l.ents.map (Nh x)).length)],Af⟩) (Z (fun q=>l.ents.length-q.1) (J (Z ⟨0,Ak _,fun j _ h=>absurd h (Ch _)⟩ ?_) ?_)))
  .exact⟨Z6,Z3,Fh,W⟩
  intro⟨k,k1,k2⟩;have k1:k<=l.ents.length:=k1;have k2:∀j (hj:j<l.ents.length),j<k->I4 x l.ents[j]=true:=k2;refine J (fun h9=>?_) (fun h9=>?_)
  .have h9:(k:Int)<((l.ents.map CV).length:Int):=h9;have n9:=FY h9;refine Z (CV l.ents[k]) (J (Ht n9) (J rfl (yN (yN (Z (V (Nh x l.ents[k])) (J (vd n9) (J rfl (J (fun F4=>?_) (fun F4=>?_)))))))))
   .have F4:(l.ents[k].arch:CS)≠(Nh x l.ents[k]).arch:=F4;refine J aa4 ?_;have eA:I4 x l.ents[k]=false:=by rw[WK (i3 k n9),At F4];rfl
    exact CD.of_eq (Aa G (t8 h1 h3 i3 n9 eA))
   have F4:(l.ents[k].arch:CS)=(Nh x l.ents[k]).arch:=As F4;refine Z (V (Nh x l.ents[k])) (J (vd n9) (J rfl (J (fun LA=>?_) (fun LA=>?_))))
   .have LA:(l.ents[k].ifc:CS)≠(Nh x l.ents[k]).ifc:=LA;refine J aa4 ?_;have eA:I4 x l.ents[k]=false:=by rw[WK (i3 k n9),Ax F4,At LA];rfl
    exact CD.of_eq (Aa G (t8 h1 h3 i3 n9 eA))
   have LA:(l.ents[k].ifc:CS)=(Nh x l.ents[k]).ifc:=As LA;refine J aa4 (J (Ii k Wk) ?_);have eA:I4 x l.ents[k]=true:=by rw[WK (i3 k n9),Ax F4,Ax LA];rfl
   refine Z ⟨k+1,n9,fun j hj h=>by rcases B9 j k with h2 | h2;exact k2 j hj h2;have e:j=k:=Wk;subst e;exact eA⟩ ?_;exact⟨Dl l.ents.length k Wk,Z6,Z3,Fh,W⟩
  have h9:¬((k:Int)<((l.ents.map CV).length:Int)):=h9;have n9:=El h9;refine yN (yN (U (AbZ l uz) (U rQ (J (fun YJ=>?_) (fun YJ=>?_)))))
  .have YJ:((Di x l.roots (J0 l)):Int)≠(0:Int):=YJ;refine J aa4 ?_;exact CD.of_eq (Aa G (show 18=ZG x l by rw[t6 h1 h3 i3 (fun j hj=>k2 j hj (AZ hj (B7 (El h9)))),A1 YJ]))
  have YJ:((Di x l.roots (J0 l)):Int)=(0:Int):=As YJ;refine J aa4 ?_;exact CD.of_eq (Aa G (show 0=ZG x l by rw[t6 h1 h3 i3 (fun j hj=>k2 j hj (AZ hj (B7 (El h9)))),AL (fun h=>h YJ)]))
 have h3:(Dy l)=false:=h3;refine C1 (U (cb h3 h48) ?_);exact CD.of_eq (Aa G (t7 (fun c=>by have q:=h3;rw[c.2]at q;cases q)))
end Go.Eng
