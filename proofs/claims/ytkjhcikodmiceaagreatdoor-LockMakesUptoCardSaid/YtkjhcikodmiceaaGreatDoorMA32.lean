/- Lemmas 32. -/
import Derived.Test.YtkjhcikodmiceaaGreatDoorMA31
import Derived.Shelf.Sort.Plain
import Derived.Shelf.Slices.CompactS
import Derived.Ground.NamesProg
set_option maxHeartbeats 4000000
namespace Go.Eng
open Go.Proofs
variable {l:List CS}{n k:Nat}{a:AV}(x:List Rl)(p:CS)
abbrev yR:List Rl:=x.filter fun r=>!r.yanked
theorem fE:My (yR x) p=(Bk x p).map AC:=by
 unfold My Bk;simp_all
def mC:List (Value×AV):=(AQ (yR x) []).map fun p=>(.string p,sl AC (Bk x p))
theorem oG{x:List Rl}{p:CS}:(Value.string p,a)∈mC x↔p∈AQ (yR x) []/\a=sl AC (Bk x p):=by
 grind [mC]
theorem WW{x:List Rl}{p:CS}:Bk x p=[]↔p∉AQ (yR x) []:=by
 grind [HZ,Bk,List.map_eq_nil_iff,List.filter_eq_nil_iff]
theorem Ab1:∀(p:CS) (a:AV),(Value.string p,a)∈mC x->a=sl AC (Bk x p):=fun _ _ h=>(oG.1 h).2
theorem Ab2:∀p:CS,(∀a,(Value.string p,a)∉mC x)->Bk x p=[]:=fun _ h=>WW.2 fun hp=>h _ (oG.2 ⟨hp,rfl⟩)
theorem Ab3:∀p:CS,Bk x p=[]->∀a,(Value.string p,a)∉mC x:=fun _ h _ ha=>WW.1 h (oG.1 ha).1
abbrev plN:Ns:=⟨[2],[],[],[(52,[12])],[],[12],[50],[(53,(16,3,90,6)),(54,(16,4,91,1)),(55,(16,7,93,10)),(56,(16,8,94,4))],[],[(850013,13),(800013,10016),(810013,20016),(900013,10000000000+92000000+90016)],[5,7,8,9,11,12,13]⟩
abbrev kC:Value×AV:=(.string p,sl AC (Bk x p))
abbrev kA:Value×AV:=(.string p,sl Y (Ba x p))
theorem sJ{x:List Rl}{kv:Value×AV}{QR : List (Value×AV)}(h:(l.map (kC x)).Perm (kv::QR)):∃t r,kv=kC x t/\QR=r.map (kC x)/\l.Perm (t::r):=by
 obtain⟨ps,h1,h2⟩:=Na h l rfl;cases ps<;>grind [List.Perm.symm]
abbrev srN(roots:List Rq)(C A:List (Value×AV)):List (Nat×HO):=
 [(2000,.cells [sl Ac roots,.cmap Ca C,.cmap Ca A,.slice (.id 2001 6) [],.slice (.id 2002 1) [],.mref 2003,I false,.slice .none [],.slice .none [],.msl 2004 0]),(2001,.tok 6 0),(2002,.tok 1 0),(2003,.map FM []),(2004,.arr 1 [])]
theorem fh{x:List Rl}{p:CS}:(Value.string p,a)∈l.map (kA x)↔p∈l/\a=sl Y (Ba x p):=by
 grind
theorem gQ(y:List Rl)(n:Nat):JO y (n+1000)=.free:=by
 grind [JO,Nat.blt_eq]
theorem Yz{h s:Nat->HO}(H:∀n,h (n+1000)=.free):∀j,1000<=j->j<2000->h j≠.free->s j≠.free:=fun j h1 _ hn=>by
 refine absurd (H (j-1000)) ?_;simp_all
theorem qU(h:k<1000):Nat.beq (n+1000) k=false:=by
 grind [Nat.eq_of_beq_eq_true]
theorem gv{y:List Rl}{o:HO}(h:k<1000):(bif Nat.beq (n+1000) k then o else JO y (n+1000))=.free:=by
 grind [qU,gQ]
attribute [local irreducible] IT
set_option maxRecDepth 30000 in
theorem s29(ifs:C0)(roots:List Rq)(hx:∀r∈x,Eo r)(h0:Aw x=0):A6 Tryz.prog 81 [GM x ifs,sl Ac roots] (Ai [] Af) fun r h'=>∃l:List CS,l.Perm (AQ (yR x) [])/\r=.ref 2000 0/\h'=Ai (srN roots (mC x) (l.map (kA x))) Af:=by
 have Mu:x.length<=256:=(Fi h0).1;refine Bi (IU plN) [(16,2000),(90,2001),(91,2002),(14,2003),(92,2004)] rfl BA hm rfl Tryz.func81 aa4 rfl C4 aa4 rfl (Z 0 (Z 0 (Z 0 (Z {i:Nat // i<=x.length} (Z (fun i=>⟨[(2,.ref 2 0),(5,.ref 16 0),(18,sl V x),(19,G (x.map V).length),(20,G i.1)],[(2,.ro (Ic x ifs)),(12,.mapU Ca (Jl (yR (x.take i.1)))),(13,.map Ca []),(14,.map FM []),(16,.cells [sl Ac roots,.mref 12,.mref 13,BY,BY,.mref 14,I false,BY,BY,BY])],JO (yR (x.take i.1))⟩) (Z (fun i=>x.length-i.1) (J (Z ⟨0,Ak _⟩ ?_) ?_)))))))
 .refine⟨Z5,Z5,fun j=>.inl ?_,A2 aa4⟩;show JO [] j=.free;unfold JO;cases (Nat.ble 100 j&&Nat.blt j 1000)<;>rfl
 intro⟨i,i1⟩;have hq:∀k,(yR (x.take k)).length<=256:=fun k=>by
  grind
 refine Z 0 (J ?_ ?_)
 .intro h;have h:i<x.length:=aa0
  have hg:x[i]?=some x[i]:=Ge h;have Qr:x.take (i+1)=x.take i++[x[i]]:=aa0
  refine Z 0 (Z (V x[i]) (J (J Wk aa0) (J rfl ?_)));refine J C4 (yN (Z ⟨[(2,.ref 2 0),(5,.ref 16 0),(7,.ref 7 0),(18,sl V x),(19,G (x.map V).length),(20,G i)],[(2,.ro (Ic x ifs)),(7,.cells (V x[i])),(12,.mapU Ca (Jl (yR (x.take i)))),(13,.map Ca []),(14,.map FM []),(16,.cells [sl Ac roots,.mref 12,.mref 13,BY,BY,.mref 14,I false,BY,BY,BY])],JO (yR (x.take i))⟩ (J ?_ ?_)))
  .exact⟨Z6,⟨X,X,⟨rfl,Io _ (Fm _ (hq _))⟩,X,X,X,W⟩,Hb (hq _) (Fm _ (hq _)),A2 aa4⟩
  refine Z 0 (J (fun hy=>?_) (fun hy=>?_))
  .have ey:yR (x.take (i+1))=yR (x.take i):=by
    grind
   refine Z ⟨[(2,.ref 2 0),(5,.ref 16 0),(18,sl V x),(19,G (x.map V).length),(20,G i)],[(2,.ro (Ic x ifs)),(12,.mapU Ca (Jl (yR (x.take (i+1))))),(13,.map Ca []),(14,.map FM []),(16,.cells [sl Ac roots,.mref 12,.mref 13,BY,BY,.mref 14,I false,BY,BY,BY])],JO (yR (x.take (i+1)))⟩ (J ?_ ?_)
   .rw[ey];exact⟨Z5,⟨X,⟨rfl,Io _ (Fm _ (hq _))⟩,X,X,X,W⟩,Hb (hq _) (Fm _ (hq _)),A2 aa4⟩
   refine Z 0 (J (Ii i Wk) (Z ⟨i+1,by omega⟩ ?_));exact⟨by grind,Z5,⟨X,⟨rfl,Io _ (Fm _ (hq _))⟩,X,X,X,W⟩,Hb (hq _) (Fm _ (hq _)),A2 aa4⟩
  refine Z 0 (yN (C1 (U (wa x[i].ver) (Z ⟨[(2,.ref 2 0),(5,.ref 16 0),(7,.ref 7 0),(8,G (plc x[i].ver)),(18,sl V x),(19,G (x.map V).length),(20,G i)],[(2,.ro (Ic x ifs)),(7,.cells (V x[i])),(12,.mapU Ca (Jl (yR (x.take i)))),(13,.map Ca []),(14,.map FM []),(16,.cells [sl Ac roots,.mref 12,.mref 13,BY,BY,.mref 14,I false,BY,BY,BY])],JO (yR (x.take i))⟩ (J ?_ ?_)))))
  .exact⟨Z7,⟨X,X,⟨rfl,Io _ (Fm _ (hq _))⟩,X,X,X,W⟩,Hb (hq _) (Fm _ (hq _)),A2 aa4⟩
  have ey:yR (x.take (i+1))=yR (x.take i)++[x[i]]:=by
   grind
  have hyl:(yR (x.take i)).length<=256:=by
   simp_all
  have hP:∀l,JO (yR (x.take i)) (l+100)=H3 (yR (x.take i)) l:=Fm _ (hq _);refine Ay (Classical.em (x[i].path∈AQ (yR (x.take i)) [])) (fun hp=>?_) (fun hp=>?_)
  .refine Al (Es.1 hp) (fun k hk=>?_);have hu:=jT hk;have hl:(My (yR (x.take i)) x[i].path).length<=256:=by
    grind
   have Aav:k<256:=by
    have:=(Bg.1 hk).1
    have:=HY (yR (x.take i)) []
    grind
   have hr:JO (yR (x.take i)) (k+100)=.tok 10 (My (yR (x.take i)) x[i].path).length:=by rw[hP,iV hk]
   refine Z 0 ?_;refine Or.inl (Z (.slice (.id (k+100) 10) (My (yR (x.take i)) x[i].path)) (J hu ?_));refine yN (So (e:=242) (m:=9) (es2:=[Up x[i]]) rfl rfl rfl (fun _ h=>h) hr ⟨rfl,trivial⟩ (by show(_+1)*128<=_;omega) aa2 (J (JK ⟨AO _,AO _,AO _,AO _,AO _,AO _,AO _,AO _,AO _,AO _,AO _,AO _,AO _,AO _,AO _,AO _,En (show 49<10000000 by decide),En Wk,En (show 12<10000000 by decide),trivial⟩ aa4) ?_));have e9:Fc (Jl (yR (x.take i))) (.string x[i].path) (.slice (.id (k+100) 10) (My (yR (x.take i)) x[i].path++[Up x[i]]))=Jl (yR (x.take (i+1))):=by rw[ey];exact nq hk
   have hG:∀l,(bif Nat.beq (l+100) (k+100)then HO.tok 10 ((My (yR (x.take i)) x[i].path).length+1)else H3 (yR (x.take i)) l)=H3 (yR (x.take (i+1))) l:=by rw[ey];exact qh hk
   refine Z ⟨[(2,.ref 2 0),(5,.ref 16 0),(18,sl V x),(19,G (x.map V).length),(20,G i)],[(2,.ro (Ic x ifs)),(12,.mapU Ca (Jl (yR (x.take (i+1))))),(13,.map Ca []),(14,.map FM []),(16,.cells [sl Ac roots,.mref 12,.mref 13,BY,BY,.mref 14,I false,BY,BY,BY])],JO (yR (x.take (i+1)))⟩ (J ?_ ?_)
   .refine⟨Z5,⟨X,⟨Aa (HO.mapU Ca) e9,Io _ (Fm _ (hq _))⟩,X,X,X,W⟩,Hb (hq _) (fun l=>?_),Yz (fun n=>?_)⟩
    .show(bif Nat.beq (l+100) (k+100)then HO.tok 10 ((My (yR (x.take i)) x[i].path).length+1)else JO (yR (x.take i)) (l+100))=_;simp_all
    .exact gv (y:=yR (x.take i)) (show k+100<1000 by omega)
   refine Z 0 (J (Ii i Wk) (Z ⟨i+1,by omega⟩ ?_));exact⟨by grind,Z5,⟨X,⟨rfl,Io _ (Fm _ (hq _))⟩,X,X,X,W⟩,Hb (hq _) (Fm _ (hq _)),A2 aa4⟩
  .have UT:(AQ (yR (x.take i)) []).length<=256:=by
    have:=HY (yR (x.take i)) []
    grind
   have hn:=jS hp;have hr:JO (yR (x.take i)) ((AQ (yR (x.take i)) []).length+100)=.free:=by
    rw[hP];unfold H3;simp_all
   refine Z ((AQ (yR (x.take i)) []).length+100) ?_;refine Or.inr (J hn ?_);refine yN (Sn (e:=242) (m:=9) (es2:=[Up x[i]]) rfl rfl rfl (fun _ h=>h) hr rfl ⟨rfl,trivial⟩ (by show 1*128<=_;omega) aa0 ?_);refine J (JK ⟨AO _,AO _,AO _,AO _,AO _,AO _,AO _,AO _,AO _,AO _,AO _,AO _,AO _,AO _,AO _,AO _,En (show 49<10000000 by decide),En (by show _+100<10000000;omega),En (show 12<10000000 by decide),trivial⟩ aa4) ?_;have e9:Fc (Jl (yR (x.take i))) (.string x[i].path) (.slice (.id ((AQ (yR (x.take i)) []).length+100) 10) [Up x[i]])=Jl (yR (x.take (i+1))):=by rw[ey];exact nl hp
   have hG:∀l,(bif Nat.beq (l+100) ((AQ (yR (x.take i)) []).length+100)then HO.tok 10 1 else H3 (yR (x.take i)) l)=H3 (yR (x.take (i+1))) l:=by rw[ey];exact qg hp
   refine Z ⟨[(2,.ref 2 0),(5,.ref 16 0),(18,sl V x),(19,G (x.map V).length),(20,G i)],[(2,.ro (Ic x ifs)),(12,.mapU Ca (Jl (yR (x.take (i+1))))),(13,.map Ca []),(14,.map FM []),(16,.cells [sl Ac roots,.mref 12,.mref 13,BY,BY,.mref 14,I false,BY,BY,BY])],JO (yR (x.take (i+1)))⟩ (J ?_ ?_)
   .refine⟨Z5,⟨X,⟨Aa (HO.mapU Ca) e9,Io _ (Fm _ (hq _))⟩,X,X,X,W⟩,Hb (hq _) (fun l=>?_),Yz (fun n=>?_)⟩
    .show(bif Nat.beq (l+100) ((AQ (yR (x.take i)) []).length+100)then HO.tok 10 1 else JO (yR (x.take i)) (l+100))=_;simp_all
    .exact gv (y:=yR (x.take i)) (show(AQ (yR (x.take i)) []).length+100<1000 by omega)
   refine Z 0 (J (Ii i Wk) (Z ⟨i+1,by omega⟩ ?_));exact⟨by grind,Z5,⟨X,⟨rfl,Io _ (Fm _ (hq _))⟩,X,X,X,W⟩,Hb (hq _) (Fm _ (hq _)),A2 aa4⟩
 .intro h;have h:¬i<x.length:=aa0
  have et:x.take i=x:=A3 Wk;have eM:∀hh:Nat->HO,Tl hh (Jl (yR (x.take i)))=(AQ (yR x) []).map (kC x):=fun hh=>by
   rw[et];unfold Tl Jl;rw[BH];refine C3 fun j=>?_;rw[Ct,Ct,List.getElem?_zipIdx];cases (AQ (yR x) [])[j]? with
   |none=>rfl
   |some q=>show some (Value.string q,AV.slice .none (My (yR x) q))=_;rw[fE];rfl
  refine Z ⟨[(2,.ref 2 0),(5,.ref 16 0)],[(2,.ro (Ic x ifs)),(12,.mapU Ca (Jl (yR (x.take i)))),(13,.map Ca []),(14,.map FM []),(16,.cells [sl Ac roots,.mref 12,.mref 13,BY,BY,.mref 14,I false,BY,BY,BY])],JO (yR (x.take i))⟩ (J ?_ ?_)
  .exact⟨Z2,⟨X,⟨rfl,Io _ (Fm _ (hq _))⟩,X,X,X,W⟩,Hb (hq _) (Fm _ (hq _)),A2 aa4⟩
  refine Z 0 (Z {p:List CS×List CS×Option (Value×AV) // (p.1++p.2.1).Perm (AQ (yR x) [])} (Z (fun p=>⟨[(2,.ref 2 0),(5,.ref 16 0),(56,.ref 56 0)],[(2,.ro (Ic x ifs)),(12,.rom Ca ((AQ (yR x) []).map (kC x))),(13,.map Ca (p.1.1.map (kA x))),(14,.map FM []),(16,.cells [sl Ac roots,.mref 12,.mref 13,.slice (.id 90 6) [],.slice (.id 91 1) [],.mref 14,I false,.slice (.id 93 10) [],.slice (.id 94 4) [],BY]),(56,.iter ((AQ (yR x) []).map (kC x)) (p.1.2.1.map (kC x)) p.1.2.2),(90,.tok 6 0),(91,.tok 1 0),(93,.tok 10 0),(94,.tok 4 0)],Af⟩) (Z (fun p=>p.1.2.1.length) (J (Z ⟨([],AQ (yR x) [],none),.refl _⟩ ?_) ?_))))
  .refine⟨Z3,⟨X,⟨Aa (HO.rom Ca) (eM _),rfl⟩,X,X,X,⟨?_,rfl⟩,X,X,X,X,W⟩,Fh,Yz (fun n=>?_)⟩
   .show HO.iter (Tl _ (Jl (yR (x.take i)))) (Tl _ (Jl (yR (x.take i)))) none=_;rw[eM]
   .exact gQ (yR (x.take i)) n
  intro⟨⟨done,rem,Ew⟩,r1⟩;refine Z 0 (J ?_ ?_)
  .intro hr;have hr:rem=[]:=FQ.1 hr;subst hr;rw[Ey]at r1;refine cU [(5,.ref 16 0)] [(14,.map FM []),(16,.cells [sl Ac roots,.cmap Ca (mC x),.cmap Ca (done.map (kA x)),.slice (.id 90 6) [],.slice (.id 91 1) [],.mref 14,I false,.slice (.id 93 10) [],.slice (.id 94 4) [],.msl 92 0]),(90,.tok 6 0),(91,.tok 1 0),(92,.arr 1 []),(93,.tok 10 0),(94,.tok 4 0)] Z1 Z7 (Z 0 ?_);exact U (.refl _) (Z done (J r1 (J rfl rfl)))
  .intro kv QR hp;refine Al (sJ hp) (fun t hp=>Al hp (fun r hp=>?_));have e1:=hp.1;have e2:=hp.2.1;subst e1;subst e2;have hp:=hp.2.2;refine cU [(2,.ref 2 0),(5,.ref 16 0),(56,.ref 56 0)] [(2,.ro (Ic x ifs)),(12,.rom Ca ((AQ (yR x) []).map (kC x))),(13,.map Ca (done.map (kA x))),(14,.map FM []),(16,.cells [sl Ac roots,.mref 12,.mref 13,.slice (.id 90 6) [],.slice (.id 91 1) [],.mref 14,I false,.slice (.id 93 10) [],.slice (.id 94 4) [],BY]),(56,.iter ((AQ (yR x) []).map (kC x)) (r.map (kC x)) (some (kC x t))),(90,.tok 6 0),(91,.tok 1 0),(93,.tok 10 0),(94,.tok 4 0)] Z3 Z10 (Z 0 (cU [(2,.ref 2 0),(5,.ref 16 0),(10,vs t),(56,.ref 56 0)] [(2,.ro (Ic x ifs)),(12,.rom Ca ((AQ (yR x) []).map (kC x))),(13,.map Ca (done.map (kA x))),(14,.map FM []),(16,.cells [sl Ac roots,.mref 12,.mref 13,.slice (.id 90 6) [],.slice (.id 91 1) [],.mref 14,I false,.slice (.id 93 10) [],.slice (.id 94 4) [],BY]),(56,.iter ((AQ (yR x) []).map (kC x)) (r.map (kC x)) (some (kC x t))),(90,.tok 6 0),(91,.tok 1 0),(93,.tok 10 0),(94,.tok 4 0)] Z4 Z10 (Z 0 ?_)));have Rx:(done++rem).Nodup:=r1.nodup_iff.2 (Fa _ [] KX);have htn:t∉done:=fun hc=>(List.nodup_append.1 Rx).2.2 t hc t (hp.mem_iff.2 (Ah ..)) rfl;have em:Fc (done.map (kA x)) (.string t) (sl Y (Ba x t))=(done++[t]).map (kA x):=by
    grind [Jd]
   have g8:((done++[t])++r).Perm (AQ (yR x) []):=by
    grind [List.Perm.append_left,List.Perm.trans,List.Perm.symm]
   refine yN (U (zg x ifs t (c84 x ifs hx)) (J aa4 (Z ⟨(done++[t],r,some (kC x t)),g8⟩ ?_)));exact⟨by show r.length<rem.length;rw[hp.length_eq,Ec];omega,Z3,⟨X,X,⟨Aa (HO.map Ca) em,rfl⟩,X,X,X,X,X,X,X,W⟩,Fh,A2 aa4⟩
end Go.Eng
namespace Go.Eng
open Go.Proofs Go.Proofs.Tryz
variable {i:Nat}(x:List Rl)(ifs:C0)(roots:List Rq)(m:Int)(a:An)(s:List Sl)(e:Int)
theorem dz{x:List Rl}(h0:Aw x=0){p:CS}(h:p∉AQ (yR x) []):Ba x p=[]:=by
 rw[WP h0]
 have:x.filter (Jw p)=[]:=by
  grind [List.filter_eq_nil_iff,Jw,HZ]
 rw[this];rfl
theorem wl{x:List Rl}{roots:List Rq}(hx:∀r∈x,Eo r)(hr:∀q∈roots,G5 q)(h0:Aw x=0)(h1:AK roots=0){l:List CS}(hl:l.Perm (AQ (yR x) [])):yG x roots (mC x) (l.map (kA x)) where
 hx:=h0
 hr:=h1
 fx:=hx
 fr:=hr
 c1:=Ab1 x
 c2:=Ab2 x
 c3:=Ab3 x
 av p:=by
  by_cases hp:p∈l
  .exact⟨sl Y (Ba x p),fun a ha=>(fh.1 ha).2,fun hn=>(hn _ (fh.2 ⟨hp,rfl⟩)).elim,fun h=>vS p (Ba x p) (OG x p)⟩
  .refine⟨BY,fun a ha=>(hp (fh.1 ha).1).elim,fun _=>rfl,fun h=>?_⟩;have e:=dz h0 (fun hc=>hp (hl.mem_iff.2 hc));have hc:=vS p (Ba x p) (OG x p);rw[e]at hc⊢;exact MF.args hc ⟨.refl _,.nil,trivial⟩
abbrev tc:Ns:=⟨[2],[],[],[],[],[],[],[(50,(9,3,95,3))],[(44,0)],[(100016,1009)],[3,4,5,6,7,8,9,10,11,14,15,16]⟩
abbrev an0:An:=⟨false,[],[],[]⟩
def Cq:An:=if Cn x roots=true/\(Ep x roots).ss.full=false then PH x roots else an0
def HN:Int:=if Cn x roots=true then if(Ep x roots).ss.full=true then 7 else 0 else 1
abbrev ZA:AV:=.tup [.agg (Gl (Cq x roots)),G (HN x roots)]
theorem CD.an0{v:AV}:CD (.tup [.agg [I false,BY,BY,BY],v]) (.tup [.agg (Gl an0),v]):=
 CD.tup ⟨CD.agg ⟨.refl _,.nil,.nil,.nil,trivial⟩,.refl _,trivial⟩
theorem VU{x:List Rl}{roots:List Rq}(hx:∀r∈x,Eo r)(hr:∀q∈roots,G5 q)(h0:Aw x=0)(h1:AK roots=0){L:List CS}(hl:L.Perm (AQ (yR x) [])){o:Ko}(ho:Ep x roots=o) :
  A6 prog 82 [.ref 1000 0] (Ai (JQ roots (mC x) (L.map (kA x)) ss0 [] []) Af) (dj roots (mC x) (L.map (kA x)) o):=by
 rw[<-ho];exact AgP (wl hx hr h0 h1 hl) (x.length+1) (.nil x) (Js.nil roots) ⟨⟨rfl,Ak _⟩,KX⟩ rfl (Nat.lt_succ_of_le (Er _ _)) rfl
theorem HB{x:List Rl}{roots:List Rq}(h:Cn x roots=true):Aw x=0/\AK roots=0:=by
 grind [Cn]
theorem tv(hx:∀r∈x,Eo r)(hr:∀q∈roots,G5 q)(hv:Cn x roots=false):PC 38 [GM x ifs,sl Ac roots] (.tup [.agg (Gl an0),G 1]):=by
 have Qo:=s28 x ifs roots hx hr;rw[hv]at Qo;refine Ps tc func38 rfl C4 (J ?_ ?_)
 .exact Nz rfl
 refine C1 (U Qo (J ?_ ?_))
 .omega
 refine J ?_ ?_
 .exact Nz rfl
 exact CD.an0
theorem pR(hx:∀r∈x,Eo r)(hr:∀q∈roots,G5 q)(hv:Cn x roots=true)(h0:Aw x=0)(h1:AK roots=0)(k:Nat)(infs:List Nf)(drv:List (List Tm))(dec:List Cd)(st:List (List Sk))(ho:Ep x roots=⟨k,false,⟨infs,drv,true⟩,dec,st⟩):PC 38 [GM x ifs,sl Ac roots] (.tup [.agg (Gl an0),G 7]):=by
 have Qo:=s28 x ifs roots hx hr;rw[hv]at Qo;refine Ps tc func38 rfl C4 (J ?_ ?_)
 .exact Nz rfl
 refine C1 (U Qo (cU [(1,sl Ac roots),(2,.ref 2 0),(4,.ref 4 0)] [(2,.ro (Ic x ifs)),(4,.cells [I false,BY,BY,BY])] Z3 Z2 (J ?_ ?_)))
 .exact Nz rfl
 refine Z (.gen [] 5) (J rfl ((s29 x ifs roots hx h0).imp ?_));intro v g q;refine Al q (fun L q=>?_);have q1:=q.2.1;have q2:=q.2.2;have qp:=q.1;subst q1;subst q2;refine cU [(4,.ref 4 0),(6,.ref 11900 0)] [(4,.cells [I false,BY,BY,BY]),(11900,.cells [sl Ac roots,.cmap Ca (mC x),.cmap Ca (L.map (kA x)),.slice (.id 11901 6) [],.slice (.id 11902 1) [],.mref 11903,I false,.slice .none [],.slice .none [],.msl 11904 0]),(11901,.tok 6 0),(11902,.tok 1 0),(11903,.map FM []),(11904,.arr 1 [])] Z2 Z6 (Z (.gen [(11900,1000),(11901,1001),(11902,1002),(11903,1003),(11904,1004)] 1) (J rfl ((VU hx hr h0 h1 qp ho).imp ?_)));intro v g q;have q1:=q.1;have q2:=q.2;subst q1;subst q2;refine cU [(4,.ref 4 0),(6,.ref 11900 0),(7,G (k:Nat)),(8,I false)] [(4,.cells [I false,BY,BY,BY]),(11900,.cells [sl Ac roots,.cmap Ca (mC x),.cmap Ca (L.map (kA x)),.slice (.id 11901 6) (infs.map AG),.slice (.id 11902 1) (drv.map F),.mref 11903,I true,sl AC dec,sl Ae (Q dec),.msl 12200 st.length]),(11901,.tok 6 infs.length),(11902,.tok 1 drv.length),(11903,.map FM (FO 0 infs)),(12200,.arr 1 (st.map Bb))] Z4 Z6 (J (fun _=>?_) (fun h=>by cases h));refine cU [(4,.ref 4 0)] [(4,.cells [I false,BY,BY,BY])] Z1 Z1 (J ?_ ?_)
 .exact Nz rfl
 refine J ?_ ?_
 .exact Nz rfl
 exact CD.an0
theorem xH(hx:∀r∈x,Eo r)(hr:∀q∈roots,G5 q)(hv:Cn x roots=true)(h0:Aw x=0)(h1:AK roots=0)(k:Nat)(infs:List Nf)(drv:List (List Tm))(dec:List Cd)(st:List (List Sk))(ho:Ep x roots=⟨k,false,⟨infs,drv,false⟩,dec,st⟩)(hk:k<infs.length)(hl:infs.length<=65536):PC 38 [GM x ifs,sl Ac roots] (.tup [.agg (Gl ⟨false,[],infs.take (k+1),[]⟩),G 0]):=by
 have Qo:=s28 x ifs roots hx hr;rw[hv]at Qo;refine Ps tc func38 rfl C4 (J ?_ ?_)
 .exact Nz rfl
 refine C1 (U Qo (cU [(1,sl Ac roots),(2,.ref 2 0),(4,.ref 4 0)] [(2,.ro (Ic x ifs)),(4,.cells [I false,BY,BY,BY])] Z3 Z2 (J ?_ ?_)))
 .exact Nz rfl
 refine Z (.gen [] 5) (J rfl ((s29 x ifs roots hx h0).imp ?_));intro v g q;refine Al q (fun L q=>?_);have q1:=q.2.1;have q2:=q.2.2;have qp:=q.1;subst q1;subst q2;refine cU [(4,.ref 4 0),(6,.ref 11900 0)] [(4,.cells [I false,BY,BY,BY]),(11900,.cells [sl Ac roots,.cmap Ca (mC x),.cmap Ca (L.map (kA x)),.slice (.id 11901 6) [],.slice (.id 11902 1) [],.mref 11903,I false,.slice .none [],.slice .none [],.msl 11904 0]),(11901,.tok 6 0),(11902,.tok 1 0),(11903,.map FM []),(11904,.arr 1 [])] Z2 Z6 (Z (.gen [(11900,1000),(11901,1001),(11902,1002),(11903,1003),(11904,1004)] 1) (J rfl ((VU hx hr h0 h1 qp ho).imp ?_)));intro v g q;have q1:=q.1;have q2:=q.2;subst q1;subst q2;refine cU [(4,.ref 4 0),(6,.ref 11900 0),(7,G (k:Nat)),(8,I false)] [(4,.cells [I false,BY,BY,BY]),(11900,.cells [sl Ac roots,.cmap Ca (mC x),.cmap Ca (L.map (kA x)),.slice (.id 11901 6) (infs.map AG),.slice (.id 11902 1) (drv.map F),.mref 11903,I false,sl AC dec,sl Ae (Q dec),.msl 12200 st.length]),(11901,.tok 6 infs.length),(11902,.tok 1 drv.length),(11903,.map FM (FO 0 infs)),(12200,.arr 1 (st.map Bb))] Z4 Z6 (J (fun h=>by cases h) (fun _=>?_));refine cU [(4,.ref 4 0),(6,.ref 11900 0),(7,G (k:Nat)),(8,I false)] [(4,.cells [I false,BY,BY,BY]),(11900,.cells [sl Ac roots,.cmap Ca (mC x),.cmap Ca (L.map (kA x)),.slice (.id 11901 6) (infs.map AG),.slice (.id 11902 1) (drv.map F),.mref 11903,I false,sl AC dec,sl Ae (Q dec),.msl 12200 st.length]),(11901,.tok 6 infs.length),(11902,.tok 1 drv.length),(11903,.map FM (FO 0 infs)),(12200,.arr 1 (st.map Bb))] Z4 Z6 (cU [(4,.ref 4 0),(6,.ref 11900 0),(7,G (k:Nat))] [(4,.cells [I false,BY,BY,BY]),(11900,.cells [sl Ac roots,.cmap Ca (mC x),.cmap Ca (L.map (kA x)),.slice (.id 11901 6) (infs.map AG),.slice (.id 11902 1) (drv.map F),.mref 11903,I false,sl AC dec,sl Ae (Q dec),.msl 12200 st.length]),(11901,.tok 6 infs.length),(11902,.tok 1 drv.length),(11903,.map FM (FO 0 infs)),(12200,.arr 1 (st.map Bb))] Z3 Z6 (J (by grind [Au]) ?_));have el:(infs.map AG).length=infs.length:=Lm ..;refine J ⟨B4 _,by grind,by grind⟩ ?_;refine J (fun cs hcs=>by obtain⟨i,_,rfl⟩:=Ar.1 hcs;rfl) (J ?_ ?_)
 .exact Nz rfl
 refine J ?_ ?_
 .exact Nz rfl
 have et:((infs.map AG).take ((k:Int)+1).toNat).drop (0:Int).toNat=(infs.take (k+1)).map AG:=by
  simp_all
 exact CD.tup ⟨CD.agg ⟨.refl _,.nil,.of_eq (show AV.slice .none (((infs.map AG).take ((k:Int)+1).toNat).drop (0:Int).toNat)=_ by rw[et]),.nil,trivial⟩,.refl _,trivial⟩
theorem Xo(y:Sl):∀l:List Sl,(Wu y l).Perm (y::l)
 | []=>.refl _
 |z::l=>by
  unfold Wu;split
  .simp_all
  .exact((Xo y l).cons z).trans (List.Perm.swap y z l)
theorem VZ:∀l:List Sl,(DK l).Perm l
 | []=>.refl _
 |y::l=>(Xo y _).trans ((VZ l).cons y)
theorem aM{b:Nat}:∀{st:List (List Sk)},(∀s∈st,s.length<=b)->st.flatten.length<=b*st.length
 | [],_=>by simp
 |s::st,h=>by
  rw[Cs,AD,Ec,Nat.mul_succ]
  have:=h s (Ah ..)
  have:=aM (st:=st) fun t ht=>h t (Aj _ ht)
  omega
theorem pZ{st:List (List Sk)}(h:st.length<=256)(hs:∀s∈st,s.length<=256)(i:Nat):((st.take i).flatten).length<=65536:=by
 have h1:=aM (b:=256) (st:=st.take i) fun s eU=>hs s (EJ eU)
 grind
theorem tw(hx:∀r∈x,Eo r)(hr:∀q∈roots,G5 q)(hv:Cn x roots=true)(h0:Aw x=0)(h1:AK roots=0)(k:Nat)(infs:List Nf)(drv:List (List Tm))(dec:List Cd)(st:List (List Sk))(ho:Ep x roots=⟨k,true,⟨infs,drv,false⟩,dec,st⟩)(hd:dec.length<=256)(hn:((Q dec).map (·.path)).Nodup)(Iz:st.length<=256)(hsk:∀s∈st,s.length<=256):PC 38 [GM x ifs,sl Ac roots] (.tup [.agg (Gl ⟨true,DK (Q dec),infs,st.flatten⟩),G 0]):=by
 have Qo:=s28 x ifs roots hx hr;rw[hv]at Qo;refine Ps tc func38 rfl C4 (J ?_ ?_)
 .exact Nz rfl
 refine C1 (U Qo (cU [(1,sl Ac roots),(2,.ref 2 0),(4,.ref 4 0)] [(2,.ro (Ic x ifs)),(4,.cells [I false,BY,BY,BY])] Z3 Z2 (J ?_ ?_)))
 .exact Nz rfl
 refine Z (.gen [] 5) (J rfl ((s29 x ifs roots hx h0).imp ?_));intro v g q;refine Al q (fun L q=>?_);have q1:=q.2.1;have q2:=q.2.2;have qp:=q.1;subst q1;subst q2;refine cU [(4,.ref 4 0),(6,.ref 11900 0)] [(4,.cells [I false,BY,BY,BY]),(11900,.cells [sl Ac roots,.cmap Ca (mC x),.cmap Ca (L.map (kA x)),.slice (.id 11901 6) [],.slice (.id 11902 1) [],.mref 11903,I false,.slice .none [],.slice .none [],.msl 11904 0]),(11901,.tok 6 0),(11902,.tok 1 0),(11903,.map FM []),(11904,.arr 1 [])] Z2 Z6 (Z (.gen [(11900,1000),(11901,1001),(11902,1002),(11903,1003),(11904,1004)] 1) (J rfl ((VU hx hr h0 h1 qp ho).imp ?_)));intro v g q;have q1:=q.1;have q2:=q.2;subst q1;subst q2;refine cU [(4,.ref 4 0),(6,.ref 11900 0),(7,G (k:Nat)),(8,I true)] [(4,.cells [I false,BY,BY,BY]),(11900,.cells [sl Ac roots,.cmap Ca (mC x),.cmap Ca (L.map (kA x)),.slice (.id 11901 6) (infs.map AG),.slice (.id 11902 1) (drv.map F),.mref 11903,I false,sl AC dec,sl Ae (Q dec),.msl 12200 st.length]),(11901,.tok 6 infs.length),(11902,.tok 1 drv.length),(11903,.map FM (FO 0 infs)),(12200,.arr 1 (st.map Bb))] Z4 Z6 (J (fun h=>by cases h) (fun _=>?_));refine cU [(4,.ref 4 0),(6,.ref 11900 0),(8,I true)] [(4,.cells [I false,BY,BY,BY]),(11900,.cells [sl Ac roots,.cmap Ca (mC x),.cmap Ca (L.map (kA x)),.slice (.id 11901 6) (infs.map AG),.slice (.id 11902 1) (drv.map F),.mref 11903,I false,sl AC dec,sl Ae (Q dec),.msl 12200 st.length]),(11901,.tok 6 infs.length),(11902,.tok 1 drv.length),(11903,.map FM (FO 0 infs)),(12200,.arr 1 (st.map Bb))] Z3 Z6 (cU [(4,.ref 4 0),(6,.ref 11900 0)] [(4,.cells [I false,BY,BY,BY]),(11900,.cells [sl Ac roots,.cmap Ca (mC x),.cmap Ca (L.map (kA x)),.slice (.id 11901 6) (infs.map AG),.slice (.id 11902 1) (drv.map F),.mref 11903,I false,sl AC dec,sl Ae (Q dec),.msl 12200 st.length]),(11901,.tok 6 infs.length),(11902,.tok 1 drv.length),(11903,.map FM (FO 0 infs)),(12200,.arr 1 (st.map Bb))] Z2 Z6 ?_)
 have r9:(Q dec).length<=256:=aa0
 have gY:BF (Q dec):=Bd r9 aa3;refine Z (Q dec).length (Z 4 (Z ((Q dec).map Ae) (J rfl (J (AgR (Q dec) gY) (J ?_ ?_)))))
 .exact Nz rfl
 refine J aa4 (cU [(4,.ref 4 0),(6,.ref 11900 0),(9,.ref 9 0)] [(4,.cells [I false,BY,BY,BY]),(9,.cells [I true,.msl 14400 (Q dec).length,.slice (.id 11901 6) (infs.map AG),BY]),(11900,.cells [sl Ac roots,.cmap Ca (mC x),.cmap Ca (L.map (kA x)),.slice (.id 11901 6) (infs.map AG),.slice (.id 11902 1) (drv.map F),.mref 11903,I false,sl AC dec,sl Ae (Q dec),.msl 12200 st.length]),(11901,.tok 6 infs.length),(11902,.tok 1 drv.length),(11903,.map FM (FO 0 infs)),(12200,.arr 1 (st.map Bb)),(14400,.arr 4 ((Q dec).map Ae))] Z3 Z8 (Z (.gen [(14400,1000)] 0) (J rfl ((s47 84 Tryz.closure84 (enters_of func84 aa4 rfl) (Q dec) gY hn).imp ?_))));intro v g q;have q1:=q.1;have q2:=q.2;subst q1;subst q2;refine cU [(4,.ref 4 0),(6,.ref 11900 0),(9,.ref 9 0)] [(4,.cells [I false,BY,BY,BY]),(9,.cells [I true,.msl 14400 (Q dec).length,.slice (.id 11901 6) (infs.map AG),.slice (.id 95 3) []]),(95,.tok 3 0),(11900,.cells [sl Ac roots,.cmap Ca (mC x),.cmap Ca (L.map (kA x)),.slice (.id 11901 6) (infs.map AG),.slice (.id 11902 1) (drv.map F),.mref 11903,I false,sl AC dec,sl Ae (Q dec),.msl 12200 st.length]),(11901,.tok 6 infs.length),(11902,.tok 1 drv.length),(11903,.map FM (FO 0 infs)),(12200,.arr 1 (st.map Bb)),(14400,.arr 4 ((DK (Q dec)).map Ae))] Z3 Z9 (Z {i:Nat // i<=st.length} (Z (fun i=>⟨[(4,.ref 4 0),(6,.ref 11900 0),(9,.ref 9 0),(56,.msl 12200 st.length),(57,G (st.length:Nat)),(58,G i.1)],[(4,.cells [I false,BY,BY,BY]),(9,.cells [I true,.msl 14400 (Q dec).length,.slice (.id 11901 6) (infs.map AG),.slice (.id 95 3) ((st.take i.1).flatten.map N)]),(95,.tok 3 ((st.take i.1).flatten.map N).length),(11900,.cells [sl Ac roots,.cmap Ca (mC x),.cmap Ca (L.map (kA x)),.slice (.id 11901 6) (infs.map AG),.slice (.id 11902 1) (drv.map F),.mref 11903,I false,sl AC dec,sl Ae (Q dec),.msl 12200 st.length]),(11901,.tok 6 infs.length),(11902,.tok 1 drv.length),(11903,.map FM (FO 0 infs)),(12200,.arr 1 (st.map Bb)),(14400,.arr 4 ((DK (Q dec)).map Ae))],Af⟩) (Z (fun i=>st.length-i.1) (J (Z ⟨0,Ak _⟩ ?_) ?_))))
 .exact⟨Z6,Z9,Fh,W⟩
 intro⟨i,i1⟩;refine J ?_ ?_
 .intro h;have h:(i:Int)<(st.length:Nat):=h;have h:i<st.length:=Wk
  have hg:st[i]?=some st[i]:=Ge h;have Qr:st.take (i+1)=st.take i++[st[i]]:=aa0
  refine J (J Wk Wk) (J aa0 (Z (Bb st[i]) (J aa0 ?_)));refine cU [(4,.ref 4 0),(6,.ref 11900 0),(9,.ref 9 0),(11,sl N st[i]),(56,.msl 12200 st.length),(57,G (st.length:Nat)),(58,G i)] [(4,.cells [I false,BY,BY,BY]),(9,.cells [I true,.msl 14400 (Q dec).length,.slice (.id 11901 6) (infs.map AG),.slice (.id 95 3) ((st.take i).flatten.map N)]),(95,.tok 3 ((st.take i).flatten.map N).length),(11900,.cells [sl Ac roots,.cmap Ca (mC x),.cmap Ca (L.map (kA x)),.slice (.id 11901 6) (infs.map AG),.slice (.id 11902 1) (drv.map F),.mref 11903,I false,sl AC dec,sl Ae (Q dec),.msl 12200 st.length]),(11901,.tok 6 infs.length),(11902,.tok 1 drv.length),(11903,.map FM (FO 0 infs)),(12200,.arr 1 (st.map Bb)),(14400,.arr 4 ((DK (Q dec)).map Ae))] Z7 Z9 ?_
  have hfl:((st.take i).flatten).length<=65536/\st[i].length<=256:=⟨pZ Iz hsk i,hsk _ (Ag _)⟩;have De:A7 3 (st[i].map N)/\((st.take i).flatten.map N).length=((st.take i).flatten.map N).length/\(((st.take i).flatten.map N).length+(st[i].map N).length)*32<=140737488355328/\((st.take i).flatten.map N).length+(st[i].map N).length<=9223372036854775807:=by
   grind [B8]
  refine J De (J ?_ ?_)
  .exact Nz rfl
  have ef:((st.take i).flatten.map N)++st[i].map N=((st.take (i+1)).flatten.map N):=aa2
  have en:((st.take i).flatten.map N).length+(st[i].map N).length=((st.take (i+1)).flatten.map N).length:=aa2
  refine cU [(4,.ref 4 0),(6,.ref 11900 0),(9,.ref 9 0),(56,.msl 12200 st.length),(57,G (st.length:Nat)),(58,G i)] [(4,.cells [I false,BY,BY,BY]),(9,.cells [I true,.msl 14400 (Q dec).length,.slice (.id 11901 6) (infs.map AG),.slice (.id 95 3) ((st.take (i+1)).flatten.map N)]),(95,.tok 3 ((st.take (i+1)).flatten.map N).length),(11900,.cells [sl Ac roots,.cmap Ca (mC x),.cmap Ca (L.map (kA x)),.slice (.id 11901 6) (infs.map AG),.slice (.id 11902 1) (drv.map F),.mref 11903,I false,sl AC dec,sl Ae (Q dec),.msl 12200 st.length]),(11901,.tok 6 infs.length),(11902,.tok 1 drv.length),(11903,.map FM (FO 0 infs)),(12200,.arr 1 (st.map Bb)),(14400,.arr 4 ((DK (Q dec)).map Ae))] Z6 ⟨X,⟨Aa (fun z=>HO.cells [I true,.msl 14400 (Q dec).length,.slice (.id 11901 6) (infs.map AG),.slice (.id 95 3) z]) ef,rfl⟩,⟨Aa (HO.tok 3) en,rfl⟩,X,X,X,X,X,X,W⟩ (J (Ii i Wk) (Z ⟨i+1,by omega⟩ ?_));exact⟨by grind,Z6,Z9,Fh,W⟩
 .intro h;have h:¬(i:Int)<(st.length:Nat):=h;have et:st.take i=st:=A3 Wk;have Xk:(Q dec).length=((DK (Q dec)).map Ae).length:=(VZ (Q dec)).length_eq.symm.trans (Lm ..).symm;refine J Xk (cU [(4,.ref 4 0),(9,.ref 9 0)] [(4,.cells [I false,BY,BY,BY]),(9,.cells [I true,.slice (.id 14400 4) ((DK (Q dec)).map Ae),.slice (.id 11901 6) (infs.map AG),.slice (.id 95 3) (st.flatten.map N)]),(95,.tok 3 (st.flatten.map N).length),(11901,.tok 6 infs.length),(14400,.tok 4 ((DK (Q dec)).map Ae).length)] Z2 ⟨X,⟨Aa (fun z:List (List Sk)=>HO.cells [I true,.slice (.id 14400 4) ((DK (Q dec)).map Ae),.slice (.id 11901 6) (infs.map AG),.slice (.id 95 3) (z.flatten.map N)]) et,rfl⟩,⟨Aa (fun z:List (List Sk)=>HO.tok 3 (z.flatten.map N).length) et,rfl⟩,X,X,W⟩ (J ?_ ?_))
  .exact Nz rfl
  refine J ?_ ?_
  .grind
  refine J ?_ ?_
  .exact Nz rfl
  exact .refl _
theorem RU{s:SS}{b:List Cd}{p:CS}{needs:List Nd}:∀{cs:List Cd} {sk:List Sk},GF s b p needs cs sk->sk.length<=cs.length
 | [],sk,h=>by
  have h:sk=[]:=h;simp_all
 |c::cs,sk,h=>by
  have h:if(needs.all fun n=>has n.rq.set c.place)=true then _ else _:=h
  by_cases hc:(needs.all fun n=>has n.rq.set c.place)=true
  .rw[A1 hc]at h;obtain⟨k,rest,rfl,_,h3⟩:=h
   have:=RU h3
   simp_all
  .rw[AL hc]at h
   have:=RU h
   grind
theorem WY{x:List Rl}{roots:List Rq}{s:SS}:∀{t:List Cd} {sl:List (List Sk)} {b:List Cd},KU x roots s b t sl->sl.length=t.length/\∀k∈sl,k.length<=x.length
 | [],[],_,_=>⟨rfl,fun _ h=>by cases h⟩
 | [],_::_,_,h=>h.elim
 |_::_,[],_,h=>h.elim
 |c::t,sk::sl,b,⟨⟨p,needs,pre,post,hs⟩,h⟩=>by
  obtain⟨h1,h2⟩:=WY h;refine⟨by simp_all,fun k hk=>?_⟩;rcases AM.1 hk with rfl | hk
  .have e1:=RU hs.skips;have e2:=WV x p;rw[hs.cands,AD]at e2;omega
  simp_all
theorem s21(hx:∀r∈x,Eo r)(hr:∀q∈roots,G5 q):PC 38 [GM x ifs,sl Ac roots] (ZA x roots):=by
 unfold ZA Cq HN;cases hv:Cn x roots with
 |false=>grind [tv]
 |true=>
  obtain⟨h0,h1⟩:=HB hv;have hR:=IR h0 h1;have Mu:=(Fi h0).1;have hA:PH x roots=if(Ep x roots).found=true then⟨true,DK (Q (Ep x roots).dec),(Ep x roots).ss.infs,(Ep x roots).stack.flatten⟩else⟨false,[],(Ep x roots).ss.infs.take ((Ep x roots).res+1),[]⟩:=rfl
  rw[hA];generalize ho:Ep x roots=o at hR⊢;obtain⟨k,b,⟨infs,drv,full⟩,dec,st⟩:=o;have hl:infs.length<=65536:=hR.der.len;have hdl:drv.length=infs.length:=hR.der.dlen;cases b with
  |false=>
   cases full with
   |true=>grind [pR]
   |false=>
    have hk:k<drv.length:=((hR.no rfl).2.2 rfl).1
    grind [xH]
  |true=>
   obtain⟨hf,t,sl,e1,e2,hC,_⟩:=hR.yes rfl;subst hf;have e1:dec=[]++t:=e1;have e2:st=[]++sl:=e2;rw[GK]at e1 e2;subst e1;subst e2;have hD:Df x ([]++dec):=(KU.ok (.nil x) (.nil roots) hC).1;rw[GK]at hD;have hdx:=Uj hD
   grind [WY,J9,tw,Df.nodup]
def Jo:Int:=if HN x roots≠0 then HN x roots else if(Cq x roots).found=true then 0 else 17
def VR:List Sl:=if Jo x roots=0 then(Cq x roots).sel else []
abbrev AfS:Ns:=(pC [2] [])
theorem xG(h:PC 38 [GM x ifs,sl Ac roots] (.tup [.agg (Gl a),G e])) :
  PC 19 [GM x ifs,sl Ac roots] (.tup [if e≠0 then sl Ae []else if a.found=true then sl Ae a.sel else sl Ae [],G (if e≠0 then e else if a.found=true then 0 else 17)]):=by
 refine Ps AfS func19 rfl C4 (J ?_ ?_)
 .exact Nz rfl
 refine C1 (U h (J ?_ ?_))
 .exact Nz rfl
 refine J (fun he=>?_) (fun he=>?_)
 .have e1:AV.tup [sl Ae [],G e]=.tup [if e≠0 then sl Ae []else if a.found=true then sl Ae a.sel else sl Ae [],G (if e≠0 then e else if a.found=true then 0 else 17)]:=aa0
  exact(show CD (.tup [BY,G e]) (.tup [sl Ae ([]:List Sl),G e])from CD.tup ⟨.nil,.refl _,trivial⟩).trans (.of_eq e1)
 .have he:e=0:=BV.1 he;have ER:¬e≠0:=fun h=>h he;refine J (fun hb=>?_) (fun hb=>?_)
  .have e1:AV.tup [sl Ae a.sel,G 0]=.tup [if e≠0 then sl Ae []else if a.found=true then sl Ae a.sel else sl Ae [],G (if e≠0 then e else if a.found=true then 0 else 17)]:=aa0
   exact .of_eq e1
  .have hb:¬a.found=true:=aa0
   have e1:AV.tup [sl Ae [],G 17]=.tup [if e≠0 then sl Ae []else if a.found=true then sl Ae a.sel else sl Ae [],G (if e≠0 then e else if a.found=true then 0 else 17)]:=aa0
   exact(show CD (.tup [BY,G 17]) (.tup [sl Ae ([]:List Sl),G 17])from CD.tup ⟨.nil,.refl _,trivial⟩).trans (.of_eq e1)
theorem s16(hx:∀r∈x,Eo r)(hr:∀q∈roots,G5 q):PC 19 [GM x ifs,sl Ac roots] (.tup [sl Ae (VR x roots),G (Jo x roots)]):=by
 grind [xG,s21,VR,Jo]
theorem gG{x:List Rl}{s:List Sl}(h:i<s.length):(s.take (i+1)).map (GW x)=(s.take i).map (GW x)++[GW x s[i]]:=by rw[Da h,Bl];rfl
theorem iL{α:Type}{s:List α}(h:i<s.length):s.take (i+1)=s.take i++[s[i]]:=Da h
theorem Ac1(wt:PC 19 [.agg (Ic x ifs),sl Ac roots] (.tup [sl Ae s,G e]))(c0:¬e=0):PC 11 [.agg (Ic x ifs),sl Ac roots] (.tup [.agg [BY,BY,BY,BY],G e]):=by
 refine Ps (pC [2] []) func11 rfl C4 (yN (C1 (U wt (J (fun _=>?_) (fun hf=>absurd c0 hf)))));refine yN (yN ?_);exact .refl _
theorem vf(wt:PC 19 [.agg (Ic x ifs),sl Ac roots] (.tup [sl Ae s,G 0]))(Tt:PC 38 [.agg (Ic x ifs),sl Ac roots] (.tup [.agg (Gl a),G 0]))(uq:∀p v,PC 40 [.agg (Ic x ifs),vs p,.agg (Ez v)] (Hi (AW x ⟨p,v⟩)))(wG:∀y∈a.sel,(AW x y).isSome=true)(hrs:∀q∈roots,BF q.set)(hrl:roots.length<=1000000)(yh:a.sel.length<=1000000):PC 11 [.agg (Ic x ifs),sl Ac roots] (.tup [.agg (Ea (Vk x roots a)),G 0]):=by
 refine Ps ⟨[2,8],[],[],[],[],[],[],[(42,(10,0,60,2)),(43,(10,1,61,6))],[],[],[8]⟩ func11 rfl C4 (yN (C1 (U wt (J (fun h=>absurd h aa3) (fun _=>?_)))));refine yN (C1 (U Tt (yN (J (fun h=>absurd h aa3) (fun _=>?_)))));refine yN (cU [(1,sl Ac roots),(2,.ref 2 0),(4,.ref 4 0),(8,.ref 8 0),(10,.ref 10 0)] [(2,.ro (Ic x ifs)),(4,.cells [BY,BY,BY,BY]),(8,.ro (Gl a)),(10,.cells [BY,BY,sl AG a.infs,sl N a.skips])] Z5 Z4 (Z {q:Nat // q<=roots.length} (Z (fun q=>⟨[(2,.ref 2 0),(4,.ref 4 0),(8,.ref 8 0),(10,.ref 10 0),(42,sl Ac roots),(43,G (roots.map Ac).length),(44,G q.1)],[(2,.ro (Ic x ifs)),(4,.cells [BY,BY,BY,BY]),(8,.ro (Gl a)),(10,.cells [.slice (.id 60 2) ((roots.take q.1).map Ac),.slice (.id 61 6) [],sl AG a.infs,sl N a.skips]),(60,.tok 2 (roots.take q.1).length),(61,.tok 6 0)],Af⟩) (Z (fun q=>roots.length-q.1) (J (Z ⟨0,Ak _⟩ ?_) ?_)))))
 .exact⟨Z7,Z6,Fh,W⟩
 intro⟨i,i1⟩;have i1:i<=roots.length:=i1;have iT:(roots.take i).length<=1000000:=(by rw[BX];omega);refine J (fun h1=>?_) (fun h1=>?_)
 .have h1:(i:Int)<((roots.map Ac).length:Int):=h1;have n1:=FY h1;refine Z (Ac roots[i]) (J (Ht n1) (J rfl (yN (yN (C1 (U (yZ roots[i].set (hrs _ (Ag n1))) (yN (yN (J (Yh rfl (show(roots.take i).length<=2147483647 by omega) aa3) (yN (J (Ii i Wk) ?_)))))))))));have er:(roots.take i).map Ac++[[vs roots[i].path,sl Y roots[i].set]]=(roots.take (i+1)).map Ac:=by rw[iL n1,Bl];rfl
  refine Z ⟨i+1,n1⟩ ?_;exact⟨Dl roots.length i Wk,Z7,⟨X,X,X,⟨(Aa (fun E:C0=>HO.cells [.slice (.id 60 2) E,.slice (.id 61 6) [],sl AG a.infs,sl N a.skips]) er),rfl⟩,⟨(show HO.tok 2 (((roots.take i).map Ac).length+([[vs roots[i].path,sl Y roots[i].set]]:C0).length)=.tok 2 (roots.take (i+1)).length by rw[iL n1,AD,Lm];rfl),rfl⟩,X,W⟩,Fh,W⟩
 have h1:¬((i:Int)<((roots.map Ac).length:Int)):=h1;have n1:=El h1;refine Z {q:Nat // q<=a.sel.length} (Z (fun q=>⟨[(2,.ref 2 0),(4,.ref 4 0),(10,.ref 10 0),(60,sl Ae a.sel),(61,G (a.sel.map Ae).length),(62,G q.1)],[(2,.ro (Ic x ifs)),(4,.cells [BY,BY,BY,BY]),(10,.cells [.slice (.id 60 2) ((roots.take i).map Ac),.slice (.id 61 6) (((a.sel.take q.1).map (GW x)).map CV),sl AG a.infs,sl N a.skips]),(60,.tok 2 (roots.take i).length),(61,.tok 6 ((a.sel.take q.1).map (GW x)).length)],Af⟩) (Z (fun q=>a.sel.length-q.1) (J (Z ⟨0,Ak _⟩ ?_) ?_)))
 .exact⟨Z6,Z5,Fh,W⟩
 intro⟨k,k1⟩;have k1:k<=a.sel.length:=k1;have kT:((a.sel.take k).map (GW x)).length<=1000000:=(by rw[Lm,BX];omega);refine J (fun h4=>?_) (fun h4=>?_)
 .have h4:(k:Int)<((a.sel.map Ae).length:Int):=h4;have n4:=FY h4;obtain⟨r,hr⟩:=G6.1 (wG _ (Ag n4));refine Z (Ae a.sel[k]) (J (Ht n4) (J rfl (yN (yN (yN (yN ?_))))));have SC:=(uq a.sel[k].path a.sel[k].ver);rw[(show AW x ⟨a.sel[k].path,a.sel[k].ver⟩=some r from hr)]at SC;refine C1 (U SC (yN (yN (J (Yh rfl (show((a.sel.take k).map (GW x)).length<=2147483647 by omega) aa3) (yN (J (Ii k Wk) ?_))))));have ee:GW x a.sel[k]=⟨a.sel[k].path,a.sel[k].ver,r.arch,r.ifc⟩:=by unfold GW;rw[show AW x a.sel[k]=some r from hr]
  have er:((a.sel.take k).map (GW x)).map CV++[[vs a.sel[k].path,G a.sel[k].ver.a,G a.sel[k].ver.b,G a.sel[k].ver.c,vs r.arch,vs r.ifc]]=((a.sel.take (k+1)).map (GW x)).map CV:=by rw[gG n4,Bl,ee];rfl
  refine Z ⟨k+1,n4⟩ ?_;exact⟨Dl a.sel.length k Wk,Z6,⟨X,X,⟨(Aa (fun E:C0=>HO.cells [.slice (.id 60 2) ((roots.take i).map Ac),.slice (.id 61 6) E,sl AG a.infs,sl N a.skips]) er),rfl⟩,X,⟨(show HO.tok 6 ((((a.sel.take k).map (GW x)).map CV).length+([[vs a.sel[k].path,G a.sel[k].ver.a,G a.sel[k].ver.b,G a.sel[k].ver.c,vs r.arch,vs r.ifc]]:C0).length)=.tok 6 ((a.sel.take (k+1)).map (GW x)).length by rw[gG n4,AD,Lm (f:=CV)];rfl),rfl⟩,W⟩,Fh,W⟩
 have h4:¬((k:Int)<((a.sel.map Ae).length:Int)):=h4;have n4:=El h4;refine yN (yN (yN ?_));exact CD.of_eq (show AV.tup [.agg [sl Ac (roots.take i),sl CV ((a.sel.take k).map (GW x)),sl AG a.infs,sl N a.skips],G 0]=.tup [.agg (Ea (Vk x roots a)),G 0] by rw[A3 (l:=roots) (B7 (El h1)),A3 (l:=a.sel) (B7 (El h4))];rfl)
abbrev FR(l:List Sl):List AV:=[sl Ae l]
abbrev lfS(l:List (List Cd)):List (List Sl):=l.map fun d=>DK (Q d)
abbrev lvC(n:Nat)(dec:List Cd)(N:List Nd)(c:Cd):List (List Cd):=if cn dec N c then Cp x roots n (dec++[c])else []
theorem fq{x:List Rl}{roots:List Rq}{n:Nat}{dec:List Cd}(h:(D4 roots dec).2=[]):Cp x roots (n+1) dec=[dec]:=by unfold Cp;rw[h]
def HF:Int:=if Cn x roots=false\/m<0\/1024<m then 1 else 0
def IF:List (List Sl):=if HF x roots m=0 then(lfS (Cp x roots (x.length+1) [])).take m.toNat else []
section
variable {x:List Rl}{roots:List Rq}
def X3(x:List Rl)(roots:List Rq):Prop:=∃s,lS x roots s
theorem SX(hv:Cn x roots=true)(hx:x.length<=16):HN x roots=0:=by
 grind [HN,G2]
theorem NZ(hv:Cn x roots=true)(hx:x.length<=16):Cq x roots=PH x roots:=by
 grind [Cq,G2]
theorem Xd(hv:Cn x roots=true)(hx:x.length<=16):(Cq x roots).found=true↔X3 x roots:=by
 obtain⟨h0,h1⟩:=HB hv;have hR:=IR h0 h1;have hf:=G2 (roots:=roots) hx;rw[NZ hv hx];unfold PH;generalize Ep x roots=o at *
 constructor
 .intro h
  by_cases OW:o.found=true
  .obtain⟨_,t,sl,y2,y3,y4,y5⟩:=hR.yes OW;have hm:o.dec∈Cp x roots (x.length+1) []:=List.mem_of_head? y5;exact⟨_,(JT (.nil x) (.nil roots) _ hm).sol h0⟩
  simp_all
 .rintro⟨s,hs⟩
  by_cases OW:o.found=true
  .simp_all
  .have OW:o.found=false:=aa0
   obtain⟨n4,n5⟩:=(hR.no OW).2.2 hf;have kd:Ei o.ss o.res=[]:=by
    cases h:Ei o.ss o.res with
    |nil=>rfl
    |cons u l=>
     rw[h]at n5
     have:=(JL.1 n5).2 u (Ah ..)
     cases this
   have YQ:Ei o.ss o.res∈o.ss.drv:=AA (ES n4)
   have:=Im hs (fun _ h=>by cases h) hR.der.der _ YQ
   rw[kd]at this;cases this
theorem tB(hv:Cn x roots=true)(hx:x.length<=16):(Jo x roots=0↔X3 x roots)/\(Jo x roots=17↔¬X3 x roots):=by
 grind [Jo,SX,Xd]
end
theorem fW{x:List Rl}{roots:List Rq}(h:(Ga x 16&&EG roots)=true):x.length<=16:=by
 simp only[Aq,Ga,A4]at h;exact h.1.2
end Go.Eng
namespace Go.Eng
theorem bL{p:CS}{m:Int}(h:AP p=some m):p.size<=64:=by
 unfold AP Pd at h;split at h
 all_goals simp_all
theorem VL:∀{l:List Rq} {b:Option CS},DL b l=0->∀q∈l,q.path.size<=64
 | [],_,_,q,h=>by cases h
 |a::l,b,h,q,hq=>by
  unfold DL at h;split at h
  .rename_i h1;rcases AM.1 hq with rfl | hq
   .unfold Hd at h1;cases e:AP q.path<;>grind [bL]
   .exact VL h q hq
  omega
theorem cD{l:List Rq}(h:AK l=0):∀q∈l,q.path.size<=64:=by
 grind [AK,VL]
theorem Ab7{i:Nf}(h:qM 64 i):M4 i=true:=Ax ⟨h.k0,h.k3,h.path,h.place,h.number,h.left,h.right⟩
theorem AbV{s:Sk}(h:SkF 64 s):Nl s=true:=Ax ⟨h.path,h.place,h.inf⟩
section
variable {x:List Rl}{roots:List Rq}
theorem du(hx:Aw x=0)(hr:AK roots=0):(PH x roots).infs.all M4=true/\(PH x roots).skips.all Nl=true:=by
 have o:=p5 (B:=64) (cD hr) hx fun r h=>by
  have k:=(Bp hx).1 r h;exact⟨bL k.maj,cD k.reqs⟩
 grind [PH,Ab7,AbV,PB.ss,PB.st]
theorem Ab4(hx:x.length<=16)(h:Jo x roots=0)(h1:(Cq x roots).infs.length<=3000)(h2:(Cq x roots).skips.length<=3000):ZG x (Vk x roots (Cq x roots))=0/\(Cq x roots).sel.length<=16:=by
 have hv:Cn x roots=true:=by
  grind [HN,Jo]
 obtain⟨h0,hr⟩:=HB hv;have hA:=NZ hv hx;have hf:(Cq x roots).found=true:=by
  grind [Jo]
 have hc:=TY h0 hr (G2 (roots:=roots) hx);obtain⟨f1,f2⟩:=du h0 hr;rw[<-hA]at hc f1 f2;obtain⟨_,c1 | ⟨_,⟨l,hR⟩,_,_⟩⟩:=WZ hc
 .simp_all
 have Ry:=FP hR.sol0.sel;have CN:(Cq x roots).sel.length<=16:=by
  have hI:Pz (Cq x roots).sel:=(HI hR.sol0.inc).1;have hn:(Cq x roots).sel.Nodup:=hI.imp fun {a b} h e=>by grind [Dd]
  refine Bd (CC (m:=x.map Cr) hn fun y hy=>?_) aa0
  grind [Ce]
 exact⟨oL h0 hr hc hf Wk Wk Wk hR.sol0.inc (fun y hy=>(Ry.2.2 y hy).imp fun _ h=>h.2) f1 f2,CN⟩
end
end Go.Eng
namespace Go.Proofs
open Go.Proofs.Tryz
open Go.Shelf
def Tryz.laySortStr_ren:Go.Shelf.Ren:=⟨fun | 190=>77 | 125=>146 | 258=>145 | 128=>219 | 129=>220 | 302=>210 | 303=>211 | 304=>212 | 305=>213 | 306=>214 | 307=>215 | 308=>216 | 309=>217 | 310=>218 | 333=>282 | 329=>283 | 330=>284 | 334=>285 | 335=>286 | 336=>252 | 344=>338 | n=>n,fun | 31=>144 | 9=>9 | 3=>3 | 46=>240 | 0=>0 | 51=>299 | 53=>229 | 4=>4 | 183=>309 | 182=>308 | 131=>150 | 5=>5 | 218=>372 | 222=>208 | 228=>408 | 229=>409 | n=>n,fun | n=>n⟩
theorem Tryz.laySortStr:Go.Proofs.Lays.n190 prog Tryz.laySortStr_ren:={
 mixed:=by kernel_rfl
 f125:=Go.Eng.A0a func146
 f128:=Go.Eng.A0a func219
 f129:=Go.Eng.A0a func220
 f190:=Go.Eng.A0a func77
 f258:=Go.Eng.A0a func145
 f302:=Go.Eng.A0a func210
 f303:=Go.Eng.A0a func211
 f304:=Go.Eng.A0a func212
 f305:=Go.Eng.A0a func213
 f306:=Go.Eng.A0a func214
 f307:=Go.Eng.A0a func215
 f308:=Go.Eng.A0a func216
 f309:=Go.Eng.A0a func217
 f310:=Go.Eng.A0a func218
 f329:=Go.Eng.A0a func283
 f330:=Go.Eng.A0a func284
 f333:=Go.Eng.A0a func282
 f334:=Go.Eng.A0a func285
 f335:=Go.Eng.A0a func286
 f336:=Go.Eng.A0a func252
 f344:=Go.Eng.A0a func338
 t0:=underlying0
 a0:=isAgg0
 z0:=sizeOf0
 v0:=zeroValue0
 t3:=underlying3
 a3:=isAgg3
 z3:=sizeOf3
 v3:=zeroValue3
 t4:=underlying4
 a4:=isAgg4
 z4:=sizeOf4
 v4:=zeroValue4
 t5:=underlying5
 a5:=isAgg5
 z5:=sizeOf5
 v5:=zeroValue5
 t9:=underlying9
 a9:=isAgg9
 z9:=sizeOf9
 v9:=zeroValue9
 t31:=underlying144
 a31:=isAgg144
 z31:=sizeOf144
 v31:=zeroValue144
 t46:=underlying240
 a46:=isAgg240
 z46:=sizeOf240
 v46:=zeroValue240
 t51:=underlying299
 a51:=isAgg299
 z51:=sizeOf299
 v51:=zeroValue299
 t53:=underlying229
 a53:=isAgg229
 z53:=sizeOf229
 v53:=zeroValue229
 t131:=underlying150
 a131:=isAgg150
 z131:=sizeOf150
 v131:=zeroValue150
 t182:=underlying308
 a182:=isAgg308
 z182:=sizeOf308
 v182:=zeroValue308
 t183:=underlying309
 a183:=isAgg309
 z183:=sizeOf309
 v183:=zeroValue309
 t218:=underlying372
 a218:=isAgg372
 z218:=sizeOf372
 v218:=zeroValue372
 t222:=underlying208
 a222:=isAgg208
 z222:=sizeOf208
 v222:=zeroValue208
 t228:=underlying408
 a228:=isAgg408
 z228:=sizeOf408
 v228:=zeroValue408
 t229:=underlying409
 a229:=isAgg409
 z229:=sizeOf409
 v229:=zeroValue409 }
def Tryz.layCompactStr_ren:Go.Shelf.Ren:=⟨fun | 194=>79 | n=>n,fun | 31=>144 | 9=>9 | 3=>3 | 4=>4 | 0=>0 | n=>n,fun | n=>n⟩
theorem Tryz.layCompactStr:Go.Proofs.Lays.n194 prog Tryz.layCompactStr_ren:={
 mixed:=by kernel_rfl
 f194:=Go.Eng.A0a func79
 t0:=underlying0
 a0:=isAgg0
 z0:=sizeOf0
 v0:=zeroValue0
 t3:=underlying3
 a3:=isAgg3
 z3:=sizeOf3
 v3:=zeroValue3
 t4:=underlying4
 a4:=isAgg4
 z4:=sizeOf4
 v4:=zeroValue4
 t9:=underlying9
 a9:=isAgg9
 z9:=sizeOf9
 v9:=zeroValue9
 t31:=underlying144
 a31:=isAgg144
 z31:=sizeOf144
 v31:=zeroValue144 }
end Go.Proofs
