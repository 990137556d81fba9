/- Lemmas 27. -/
import Derived.Test.YtkjhcikodmiceaaGreatDoorUA26
import Derived.Shelf.Sort.Plain
import Derived.Shelf.Slices.CompactS
import Derived.Ground.NamesProg
set_option maxHeartbeats 4000000
namespace Go.Eng
open Go.Proofs
variable {l:List ByteArray}{n k:Nat}{a:AV}(x:List Rl)(p:ByteArray)
abbrev yR:List Rl:=x.filter fun r=>!r.yanked
theorem Zj:KJ (yR x) p=(Bn x p).map Ax:=by
 unfold KJ Bn;simp_all
def mC:List (Value×AV):=(AE (yR x) []).map fun p=>(.string p,sl Ax (Bn x p))
theorem gR{x:List Rl}{p:ByteArray}:(Value.string p,a)∈mC x↔p∈AE (yR x) []/\a=sl Ax (Bn x p):=by
 grind [mC]
theorem TX{x:List Rl}{p:ByteArray}:Bn x p=[]↔p∉AE (yR x) []:=by
 grind [GQ,Bn,List.map_eq_nil_iff,List.filter_eq_nil_iff]
theorem sc:∀(p:ByteArray) (a:AV),(Value.string p,a)∈mC x->a=sl Ax (Bn x p):=fun _ _ h=>(gR.1 h).2
theorem sd:∀p:ByteArray,(∀a,(Value.string p,a)∉mC x)->Bn x p=[]:=fun _ h=>TX.2 fun hp=>h _ (gR.2 ⟨hp,rfl⟩)
theorem se:∀p:ByteArray,Bn x p=[]->∀a,(Value.string p,a)∉mC x:=fun _ h _ ha=>TX.1 h (gR.1 ha).1
abbrev plN:MF:=⟨[2],[],[],[(52,[12])],[],[12],[50],[(53,(16,3,90,6)),(54,(16,4,91,1)),(55,(16,7,93,10)),(56,(16,8,94,4))],[],[(850013,13),(800013,10016),(810013,20016),(900013,10000000000+92000000+90016)],[5,7,8,9,11,12,13]⟩
abbrev kC:Value×AV:=(.string p,sl Ax (Bn x p))
abbrev kA:Value×AV:=(.string p,sl Aj (Br x p))
theorem lm{x:List Rl}{kv:Value×AV}{Ol : List (Value×AV)}(h:(l.map (kC x)).Perm (kv::Ol)):∃t r,kv=kC x t/\Ol=r.map (kC x)/\l.Perm (t::r):=by
 obtain⟨ps,h1,h2⟩:=Lv h l rfl;cases ps<;>grind [List.Perm.symm]
abbrev srN(roots:List Rq)(C A:List (Value×AV)):List (Nat×HO):=
 [(2000,.cells [sl Ac roots,.cmap BS C,.cmap BS A,.slice (.id 2001 6) [],.slice (.id 2002 1) [],.mref 2003,vb false,.slice .none [],.slice .none [],.msl 2004 0]),(2001,.tok 6 0),(2002,.tok 1 0),(2003,.map EX []),(2004,.arr 1 [])]
theorem YZ{x:List Rl}{p:ByteArray}:(Value.string p,a)∈l.map (kA x)↔p∈l/\a=sl Aj (Br x p):=by
 grind
theorem am(y:List Rl)(n:Nat):Ij y (n+1000)=.free:=by
 grind [Ij,Nat.blt_eq]
theorem Ve{h s:Nat->HO}(H:∀n,h (n+1000)=.free):∀j,1000<=j->j<2000->h j≠.free->s j≠.free:=fun j h1 _ hn=>by
 refine absurd (H (j-1000)) ?_;simp_all
theorem jM(h:k<1000):Nat.beq (n+1000) k=false:=by
 grind [Nat.eq_of_beq_eq_true]
theorem ZQ{y:List Rl}{o:HO}(h:k<1000):(bif Nat.beq (n+1000) k then o else Ij y (n+1000))=.free:=by
 grind [jM,am]
attribute [local irreducible] Hs
set_option maxRecDepth 30000 in
theorem yv(ifs:List (List AV))(roots:List Rq)(hx:∀r∈x,Ir r)(h0:AC x=0):AW Tryz.prog 81 [IP x ifs,sl Ac roots] (Ae [] Ab) fun r h'=>∃l:List ByteArray,l.Perm (AE (yR x) [])/\r=.ref 2000 0/\h'=Ae (srN roots (mC x) (l.map (kA x))) Ab:=by
 have oK:x.length<=256:=(Iy h0).1;refine A7 (H5 plN) [(16,2000),(90,2001),(91,2002),(14,2003),(92,2004)] rfl Bu hm rfl Tryz.func81 aa0 rfl (Nz rfl) aa0 rfl (Xi 0 (Xi 0 (Xi 0 (Xi {i:Nat // i<=x.length} (Xi (fun i=>⟨[(2,.ref 2 0),(5,.ref 16 0),(18,sl Al x),(19,vi (x.map Al).length),(20,vi i.1)],[(2,.ro (Ic x ifs)),(12,.mapU BS (HQ (yR (x.take i.1)))),(13,.map BS []),(14,.map EX []),(16,.cells [sl Ac roots,.mref 12,.mref 13,nzA,nzA,.mref 14,vb false,nzA,nzA,nzA])],Ij (yR (x.take i.1))⟩) (Xi (fun i=>x.length-i.1) (Yi (Xi ⟨0,Ar _⟩ ?_) ?_)))))))
 .refine⟨Z5,Z5,fun j=>.inl ?_,Be aa0⟩;show Ij [] j=.free;unfold Ij;cases (Nat.ble 100 j&&Nat.blt j 1000)<;>rfl
 intro⟨i,i1⟩;have hq:∀k,(yR (x.take k)).length<=256:=fun k=>by
  grind
 refine Xi 0 (Yi ?_ ?_)
 .intro h;have h:i<x.length:=by simp_all
  have hg:x[i]?=some x[i]:=Ge h;have NX:x.take (i+1)=x.take i++[x[i]]:=by simp_all
  refine Xi 0 (Xi (Al x[i]) (Yi (Yi ch (by simp_all)) (Yi rfl ?_)));refine Yi (Nz rfl) (yN (Xi ⟨[(2,.ref 2 0),(5,.ref 16 0),(7,.ref 7 0),(18,sl Al x),(19,vi (x.map Al).length),(20,vi i)],[(2,.ro (Ic x ifs)),(7,.cells (Al x[i])),(12,.mapU BS (HQ (yR (x.take i)))),(13,.map BS []),(14,.map EX []),(16,.cells [sl Ac roots,.mref 12,.mref 13,nzA,nzA,.mref 14,vb false,nzA,nzA,nzA])],Ij (yR (x.take i))⟩ (Yi ?_ ?_)))
  .exact⟨Z6,⟨Zr,Zr,⟨rfl,G3 _ (Ev _ (hq _))⟩,Zr,Zr,Zr,Tv⟩,F4 (hq _) (Ev _ (hq _)),Be aa0⟩
  refine Xi 0 (Yi (fun hy=>?_) (fun hy=>?_))
  .have ey:yR (x.take (i+1))=yR (x.take i):=by
    grind
   refine Xi ⟨[(2,.ref 2 0),(5,.ref 16 0),(18,sl Al x),(19,vi (x.map Al).length),(20,vi i)],[(2,.ro (Ic x ifs)),(12,.mapU BS (HQ (yR (x.take (i+1))))),(13,.map BS []),(14,.map EX []),(16,.cells [sl Ac roots,.mref 12,.mref 13,nzA,nzA,.mref 14,vb false,nzA,nzA,nzA])],Ij (yR (x.take (i+1)))⟩ (Yi ?_ ?_)
   .rw[ey];exact⟨Z5,⟨Zr,⟨rfl,G3 _ (Ev _ (hq _))⟩,Zr,Zr,Zr,Tv⟩,F4 (hq _) (Ev _ (hq _)),Be aa0⟩
   refine Xi 0 (Yi (Ii i ch) (Xi ⟨i+1,by omega⟩ ?_));exact⟨by grind,Z5,⟨Zr,⟨rfl,G3 _ (Ev _ (hq _))⟩,Zr,Zr,Zr,Tv⟩,F4 (hq _) (Ev _ (hq _)),Be aa0⟩
  refine Xi 0 (yN (Xi .pure (Xi _ (Yi (nR x[i].ver) (Xi ⟨[(2,.ref 2 0),(5,.ref 16 0),(7,.ref 7 0),(8,vi (plc x[i].ver)),(18,sl Al x),(19,vi (x.map Al).length),(20,vi i)],[(2,.ro (Ic x ifs)),(7,.cells (Al x[i])),(12,.mapU BS (HQ (yR (x.take i)))),(13,.map BS []),(14,.map EX []),(16,.cells [sl Ac roots,.mref 12,.mref 13,nzA,nzA,.mref 14,vb false,nzA,nzA,nzA])],Ij (yR (x.take i))⟩ (Yi ?_ ?_))))))
  .exact⟨Z7,⟨Zr,Zr,⟨rfl,G3 _ (Ev _ (hq _))⟩,Zr,Zr,Zr,Tv⟩,F4 (hq _) (Ev _ (hq _)),Be aa0⟩
  have ey:yR (x.take (i+1))=yR (x.take i)++[x[i]]:=by
   grind
  have hyl:(yR (x.take i)).length<=256:=by
   simp_all
  have hP:∀l,Ij (yR (x.take i)) (l+100)=GR (yR (x.take i)) l:=Ev _ (hq _);refine Bs (Classical.em (x[i].path∈AE (yR (x.take i)) [])) (fun hp=>?_) (fun hp=>?_)
  .refine AJ (DA.1 hp) (fun k hk=>?_);have hu:=cn hk;have hl:(KJ (yR (x.take i)) x[i].path).length<=256:=by
    grind
   have rE:k<256:=by
    have:=(AZ.1 hk).1
    have:=GP (yR (x.take i)) []
    grind
   have hr:Ij (yR (x.take i)) (k+100)=.tok 10 (KJ (yR (x.take i)) x[i].path).length:=by rw[hP,bl hk]
   refine Xi 0 ?_;refine Or.inl (Xi (.slice (.id (k+100) 10) (KJ (yR (x.take i)) x[i].path)) (Yi hu ?_));refine yN (PG (e:=242) (m:=9) (es2:=[Rp x[i]]) rfl rfl rfl (fun _ h=>h) hr ⟨rfl,trivial⟩ (by show(_+1)*128<=_;omega) (by grind) (Yi (Ie ⟨AD _,AD _,AD _,AD _,AD _,AD _,AD _,AD _,AD _,AD _,AD _,AD _,AD _,AD _,AD _,AD _,Dz (show 49<10000000 by decide),Dz ch,Dz (show 12<10000000 by decide),trivial⟩ aa0) ?_));have e9:Ej (HQ (yR (x.take i))) (.string x[i].path) (.slice (.id (k+100) 10) (KJ (yR (x.take i)) x[i].path++[Rp x[i]]))=HQ (yR (x.take (i+1))):=by rw[ey];exact fX hk
   have hG:∀l,(bif Nat.beq (l+100) (k+100)then HO.tok 10 ((KJ (yR (x.take i)) x[i].path).length+1)else GR (yR (x.take i)) l)=GR (yR (x.take (i+1))) l:=by rw[ey];exact je hk
   refine Xi ⟨[(2,.ref 2 0),(5,.ref 16 0),(18,sl Al x),(19,vi (x.map Al).length),(20,vi i)],[(2,.ro (Ic x ifs)),(12,.mapU BS (HQ (yR (x.take (i+1))))),(13,.map BS []),(14,.map EX []),(16,.cells [sl Ac roots,.mref 12,.mref 13,nzA,nzA,.mref 14,vb false,nzA,nzA,nzA])],Ij (yR (x.take (i+1)))⟩ (Yi ?_ ?_)
   .refine⟨Z5,⟨Zr,⟨Aa (HO.mapU BS) e9,G3 _ (Ev _ (hq _))⟩,Zr,Zr,Zr,Tv⟩,F4 (hq _) (fun l=>?_),Ve (fun n=>?_)⟩
    .show(bif Nat.beq (l+100) (k+100)then HO.tok 10 ((KJ (yR (x.take i)) x[i].path).length+1)else Ij (yR (x.take i)) (l+100))=_;simp_all
    .exact ZQ (y:=yR (x.take i)) (show k+100<1000 by omega)
   refine Xi 0 (Yi (Ii i ch) (Xi ⟨i+1,by omega⟩ ?_));exact⟨by grind,Z5,⟨Zr,⟨rfl,G3 _ (Ev _ (hq _))⟩,Zr,Zr,Zr,Tv⟩,F4 (hq _) (Ev _ (hq _)),Be aa0⟩
  .have NV:(AE (yR (x.take i)) []).length<=256:=by
    have:=GP (yR (x.take i)) []
    grind
   have hn:=cj hp;have hr:Ij (yR (x.take i)) ((AE (yR (x.take i)) []).length+100)=.free:=by
    rw[hP];unfold GR;simp_all
   refine Xi ((AE (yR (x.take i)) []).length+100) ?_;refine Or.inr (Yi hn ?_);refine yN (PF (e:=242) (m:=9) (es2:=[Rp x[i]]) rfl rfl rfl (fun _ h=>h) hr rfl ⟨rfl,trivial⟩ (by show 1*128<=_;omega) (by simp_all) ?_);refine Yi (Ie ⟨AD _,AD _,AD _,AD _,AD _,AD _,AD _,AD _,AD _,AD _,AD _,AD _,AD _,AD _,AD _,AD _,Dz (show 49<10000000 by decide),Dz (by show _+100<10000000;omega),Dz (show 12<10000000 by decide),trivial⟩ aa0) ?_;have e9:Ej (HQ (yR (x.take i))) (.string x[i].path) (.slice (.id ((AE (yR (x.take i)) []).length+100) 10) [Rp x[i]])=HQ (yR (x.take (i+1))):=by rw[ey];exact fV hp
   have hG:∀l,(bif Nat.beq (l+100) ((AE (yR (x.take i)) []).length+100)then HO.tok 10 1 else GR (yR (x.take i)) l)=GR (yR (x.take (i+1))) l:=by rw[ey];exact jd hp
   refine Xi ⟨[(2,.ref 2 0),(5,.ref 16 0),(18,sl Al x),(19,vi (x.map Al).length),(20,vi i)],[(2,.ro (Ic x ifs)),(12,.mapU BS (HQ (yR (x.take (i+1))))),(13,.map BS []),(14,.map EX []),(16,.cells [sl Ac roots,.mref 12,.mref 13,nzA,nzA,.mref 14,vb false,nzA,nzA,nzA])],Ij (yR (x.take (i+1)))⟩ (Yi ?_ ?_)
   .refine⟨Z5,⟨Zr,⟨Aa (HO.mapU BS) e9,G3 _ (Ev _ (hq _))⟩,Zr,Zr,Zr,Tv⟩,F4 (hq _) (fun l=>?_),Ve (fun n=>?_)⟩
    .show(bif Nat.beq (l+100) ((AE (yR (x.take i)) []).length+100)then HO.tok 10 1 else Ij (yR (x.take i)) (l+100))=_;simp_all
    .exact ZQ (y:=yR (x.take i)) (show(AE (yR (x.take i)) []).length+100<1000 by omega)
   refine Xi 0 (Yi (Ii i ch) (Xi ⟨i+1,by omega⟩ ?_));exact⟨by grind,Z5,⟨Zr,⟨rfl,G3 _ (Ev _ (hq _))⟩,Zr,Zr,Zr,Tv⟩,F4 (hq _) (Ev _ (hq _)),Be aa0⟩
 .intro h;have h:¬i<x.length:=by simp_all
  have et:x.take i=x:=Bd ch;have eM:∀hh:Nat->HO,Qw hh (HQ (yR (x.take i)))=(AE (yR x) []).map (kC x):=fun hh=>by
   rw[et];unfold Qw HQ;rw[Bx];refine B7 fun j=>?_;rw[BC,BC,List.getElem?_zipIdx];cases (AE (yR x) [])[j]? with
   |none=>rfl
   |some q=>show some (Value.string q,AV.slice .none (KJ (yR x) q))=_;rw[Zj];rfl
  refine Xi ⟨[(2,.ref 2 0),(5,.ref 16 0)],[(2,.ro (Ic x ifs)),(12,.mapU BS (HQ (yR (x.take i)))),(13,.map BS []),(14,.map EX []),(16,.cells [sl Ac roots,.mref 12,.mref 13,nzA,nzA,.mref 14,vb false,nzA,nzA,nzA])],Ij (yR (x.take i))⟩ (Yi ?_ ?_)
  .exact⟨Z2,⟨Zr,⟨rfl,G3 _ (Ev _ (hq _))⟩,Zr,Zr,Zr,Tv⟩,F4 (hq _) (Ev _ (hq _)),Be aa0⟩
  refine Xi 0 (Xi {p:List ByteArray×List ByteArray×Option (Value×AV) // (p.1++p.2.1).Perm (AE (yR x) [])} (Xi (fun p=>⟨[(2,.ref 2 0),(5,.ref 16 0),(56,.ref 56 0)],[(2,.ro (Ic x ifs)),(12,.rom BS ((AE (yR x) []).map (kC x))),(13,.map BS (p.1.1.map (kA x))),(14,.map EX []),(16,.cells [sl Ac roots,.mref 12,.mref 13,.slice (.id 90 6) [],.slice (.id 91 1) [],.mref 14,vb false,.slice (.id 93 10) [],.slice (.id 94 4) [],nzA]),(56,.iter ((AE (yR x) []).map (kC x)) (p.1.2.1.map (kC x)) p.1.2.2),(90,.tok 6 0),(91,.tok 1 0),(93,.tok 10 0),(94,.tok 4 0)],Ab⟩) (Xi (fun p=>p.1.2.1.length) (Yi (Xi ⟨([],AE (yR x) [],none),.refl _⟩ ?_) ?_))))
  .refine⟨Z3,⟨Zr,⟨Aa (HO.rom BS) (eM _),rfl⟩,Zr,Zr,Zr,⟨?_,rfl⟩,Zr,Zr,Zr,Zr,Tv⟩,Fh,Ve (fun n=>?_)⟩
   .show HO.iter (Qw _ (HQ (yR (x.take i)))) (Qw _ (HQ (yR (x.take i)))) none=_;rw[eM]
   .exact am (yR (x.take i)) n
  intro⟨⟨done,rem,DD⟩,r1⟩;refine Xi 0 (Yi ?_ ?_)
  .intro hr;have hr:rem=[]:=Dv.1 hr;subst hr;rw[Dm]at r1;refine cU [(5,.ref 16 0)] [(14,.map EX []),(16,.cells [sl Ac roots,.cmap BS (mC x),.cmap BS (done.map (kA x)),.slice (.id 90 6) [],.slice (.id 91 1) [],.mref 14,vb false,.slice (.id 93 10) [],.slice (.id 94 4) [],.msl 92 0]),(90,.tok 6 0),(91,.tok 1 0),(92,.arr 1 []),(93,.tok 10 0),(94,.tok 4 0)] Z1 Z7 (Xi 0 ?_);exact Xi _ (Yi (.refl _) (Xi done (Yi r1 (Yi rfl rfl))))
  .intro kv Ol hp;refine AJ (lm hp) (fun t hp=>AJ hp (fun r hp=>?_));have e1:=hp.1;have e2:=hp.2.1;subst e1;subst e2;have hp:=hp.2.2;refine cU [(2,.ref 2 0),(5,.ref 16 0),(56,.ref 56 0)] [(2,.ro (Ic x ifs)),(12,.rom BS ((AE (yR x) []).map (kC x))),(13,.map BS (done.map (kA x))),(14,.map EX []),(16,.cells [sl Ac roots,.mref 12,.mref 13,.slice (.id 90 6) [],.slice (.id 91 1) [],.mref 14,vb false,.slice (.id 93 10) [],.slice (.id 94 4) [],nzA]),(56,.iter ((AE (yR x) []).map (kC x)) (r.map (kC x)) (some (kC x t))),(90,.tok 6 0),(91,.tok 1 0),(93,.tok 10 0),(94,.tok 4 0)] Z3 Z10 (Xi 0 (cU [(2,.ref 2 0),(5,.ref 16 0),(10,vs t),(56,.ref 56 0)] [(2,.ro (Ic x ifs)),(12,.rom BS ((AE (yR x) []).map (kC x))),(13,.map BS (done.map (kA x))),(14,.map EX []),(16,.cells [sl Ac roots,.mref 12,.mref 13,.slice (.id 90 6) [],.slice (.id 91 1) [],.mref 14,vb false,.slice (.id 93 10) [],.slice (.id 94 4) [],nzA]),(56,.iter ((AE (yR x) []).map (kC x)) (r.map (kC x)) (some (kC x t))),(90,.tok 6 0),(91,.tok 1 0),(93,.tok 10 0),(94,.tok 4 0)] Z4 Z10 (Xi 0 ?_)));have RP:(done++rem).Nodup:=r1.nodup_iff.2 (Ei _ [] Jj);have z6:t∉done:=fun hc=>(List.nodup_append.1 RP).2.2 t hc t (hp.mem_iff.2 (Ad ..)) rfl;have em:Ej (done.map (kA x)) (.string t) (sl Aj (Br x t))=(done++[t]).map (kA x):=by
    grind [HG]
   have aw:((done++[t])++r).Perm (AE (yR x) []):=by
    grind [List.Perm.append_left,List.Perm.trans,List.Perm.symm]
   refine yN (Xi _ (Yi (qu x ifs t (c84 x ifs hx)) (Yi aa0 (Xi ⟨(done++[t],r,some (kC x t)),aw⟩ ?_))));exact⟨by show r.length<rem.length;rw[hp.length_eq,Dp];omega,Z3,⟨Zr,Zr,⟨Aa (HO.map BS) em,rfl⟩,Zr,Zr,Zr,Zr,Zr,Zr,Zr,Tv⟩,Fh,Be aa0⟩
end Go.Eng
namespace Go.Eng
open Go.Proofs
variable {i:Nat}(x:List Rl)(ifs:List (List AV))(l:Lk)(roots:List Rq)(a:An)(s:List Sl)(e:Int)
theorem Ym{x:List Rl}(h0:AC x=0){p:ByteArray}(h:p∉AE (yR x) []):Br x p=[]:=by
 rw[bG h0]
 have:x.filter (ae p)=[]:=by
  grind [List.filter_eq_nil_iff,ae,GQ]
 rw[this];rfl
theorem n6{x:List Rl}{roots:List Rq}(hx:∀r∈x,Ir r)(hr:∀q∈roots,KL q)(h0:AC x=0)(h1:A8 roots=0){l:List ByteArray}(hl:l.Perm (AE (yR x) [])):qa x roots (mC x) (l.map (kA x)) where
 hx:=h0
 hr:=h1
 fx:=hx
 fr:=hr
 c1:=sc x
 c2:=sd x
 c3:=se x
 av p:=by
  by_cases hp:p∈l
  .exact⟨sl Aj (Br x p),fun a ha=>(YZ.1 ha).2,fun hn=>(hn _ (YZ.2 ⟨hp,rfl⟩)).elim,fun h=>nK p (Br x p) (MI x p)⟩
  .refine⟨nzA,fun a ha=>(hp (YZ.1 ha).1).elim,fun _=>rfl,fun h=>?_⟩;have e:=Ym h0 (fun hc=>hp (hl.mem_iff.2 hc));have hc:=nK p (Br x p) (MI x p);rw[e]at hc⊢;exact KP.args hc ⟨.refl _,.nil,trivial⟩
abbrev lI:MF:=⟨[2],[],[],[],[],[],[],[(50,(9,3,95,3))],[(44,0)],[(100016,1009)],[3,4,5,6,7,8,9,10,11,14,15,16]⟩
abbrev an0:An:=⟨false,[],[],[]⟩
def Db:An:=if EF x roots=true/\(Es x roots).ss.full=false then eJ x roots else an0
def Jd:Int:=if EF x roots=true then if(Es x roots).ss.full=true then 7 else 0 else 1
abbrev VQ:AV:=.tup [.agg (IS (Db x roots)),vi (Jd x roots)]
theorem DC.an0{v:AV}:DC (.tup [.agg [vb false,nzA,nzA,nzA],v]) (.tup [.agg (IS an0),v]):=
 DC.tup ⟨DC.agg ⟨.refl _,.nil,.nil,.nil,trivial⟩,.refl _,trivial⟩
theorem SP{x:List Rl}{roots:List Rq}(hx:∀r∈x,Ir r)(hr:∀q∈roots,KL q)(h0:AC x=0)(h1:A8 roots=0){L:List ByteArray}(hl:L.Perm (AE (yR x) [])){o:Jm}(ho:Es x roots=o) :
  AW Tryz.prog 82 [.ref 1000 0] (Ae (Ik roots (mC x) (L.map (kA x)) tb [] []) Ab) (Yd roots (mC x) (L.map (kA x)) o):=by
 rw[<-ho];exact yy (n6 hx hr h0 h1 hl) (x.length+1) (.nil x) (HZ.nil roots) ⟨⟨rfl,Ar _⟩,Jj⟩ rfl (Nat.lt_succ_of_le (Hg _ _)) rfl
theorem XY{x:List Rl}{roots:List Rq}(h:EF x roots=true):AC x=0/\A8 roots=0:=by
 grind [EF]
theorem lV(hx:∀r∈x,Ir r)(hr:∀q∈roots,KL q)(hv:EF x roots=false):PC 38 [IP x ifs,sl Ac roots] (.tup [.agg (IS an0),vi 1]):=by
 have RL:=uu x ifs roots hx hr;rw[hv]at RL;refine Ps lI Tryz.func38 rfl (Nz rfl) (Yi ?_ ?_)
 .exact Nz rfl
 refine Xi .pure (Xi _ (Yi RL (Yi ?_ ?_)))
 .omega
 refine Yi ?_ ?_
 .exact Nz rfl
 exact DC.an0
theorem iR(hx:∀r∈x,Ir r)(hr:∀q∈roots,KL q)(hv:EF x roots=true)(h0:AC x=0)(h1:A8 roots=0)(k:Nat)(infs:List Nf)(drv:List (List Tm))(dec:List Cd)(st:List (List Sk))(ho:Es x roots=⟨k,false,⟨infs,drv,true⟩,dec,st⟩):PC 38 [IP x ifs,sl Ac roots] (.tup [.agg (IS an0),vi 7]):=by
 have RL:=uu x ifs roots hx hr;rw[hv]at RL;refine Ps lI Tryz.func38 rfl (Nz rfl) (Yi ?_ ?_)
 .exact Nz rfl
 refine Xi .pure (Xi _ (Yi RL (cU [(1,sl Ac roots),(2,.ref 2 0),(4,.ref 4 0)] [(2,.ro (Ic x ifs)),(4,.cells [vb false,nzA,nzA,nzA])] Z3 Z2 (Yi ?_ ?_))))
 .exact Nz rfl
 refine Xi (.gen [] 5) (Yi rfl ((yv x ifs roots hx h0).imp ?_));intro v g q;refine AJ q (fun L q=>?_);have q1:=q.2.1;have q2:=q.2.2;have qp:=q.1;subst q1;subst q2;refine cU [(4,.ref 4 0),(6,.ref 11900 0)] [(4,.cells [vb false,nzA,nzA,nzA]),(11900,.cells [sl Ac roots,.cmap BS (mC x),.cmap BS (L.map (kA x)),.slice (.id 11901 6) [],.slice (.id 11902 1) [],.mref 11903,vb false,.slice .none [],.slice .none [],.msl 11904 0]),(11901,.tok 6 0),(11902,.tok 1 0),(11903,.map EX []),(11904,.arr 1 [])] Z2 Z6 (Xi (.gen [(11900,1000),(11901,1001),(11902,1002),(11903,1003),(11904,1004)] 1) (Yi rfl ((SP hx hr h0 h1 qp ho).imp ?_)));intro v g q;have q1:=q.1;have q2:=q.2;subst q1;subst q2;refine cU [(4,.ref 4 0),(6,.ref 11900 0),(7,vi (k:Nat)),(8,vb false)] [(4,.cells [vb false,nzA,nzA,nzA]),(11900,.cells [sl Ac roots,.cmap BS (mC x),.cmap BS (L.map (kA x)),.slice (.id 11901 6) (infs.map AG),.slice (.id 11902 1) (drv.map Ap),.mref 11903,vb true,sl Ax dec,sl Ah (At dec),.msl 12200 st.length]),(11901,.tok 6 infs.length),(11902,.tok 1 drv.length),(11903,.map EX (E0 0 infs)),(12200,.arr 1 (st.map AU))] Z4 Z6 (Yi (fun _=>?_) (fun h=>by cases h));refine cU [(4,.ref 4 0)] [(4,.cells [vb false,nzA,nzA,nzA])] Z1 Z1 (Yi ?_ ?_)
 .exact Nz rfl
 refine Yi ?_ ?_
 .exact Nz rfl
 exact DC.an0
theorem po(hx:∀r∈x,Ir r)(hr:∀q∈roots,KL q)(hv:EF x roots=true)(h0:AC x=0)(h1:A8 roots=0)(k:Nat)(infs:List Nf)(drv:List (List Tm))(dec:List Cd)(st:List (List Sk))(ho:Es x roots=⟨k,false,⟨infs,drv,false⟩,dec,st⟩)(hk:k<infs.length)(hl:infs.length<=65536):PC 38 [IP x ifs,sl Ac roots] (.tup [.agg (IS ⟨false,[],infs.take (k+1),[]⟩),vi 0]):=by
 have RL:=uu x ifs roots hx hr;rw[hv]at RL;refine Ps lI Tryz.func38 rfl (Nz rfl) (Yi ?_ ?_)
 .exact Nz rfl
 refine Xi .pure (Xi _ (Yi RL (cU [(1,sl Ac roots),(2,.ref 2 0),(4,.ref 4 0)] [(2,.ro (Ic x ifs)),(4,.cells [vb false,nzA,nzA,nzA])] Z3 Z2 (Yi ?_ ?_))))
 .exact Nz rfl
 refine Xi (.gen [] 5) (Yi rfl ((yv x ifs roots hx h0).imp ?_));intro v g q;refine AJ q (fun L q=>?_);have q1:=q.2.1;have q2:=q.2.2;have qp:=q.1;subst q1;subst q2;refine cU [(4,.ref 4 0),(6,.ref 11900 0)] [(4,.cells [vb false,nzA,nzA,nzA]),(11900,.cells [sl Ac roots,.cmap BS (mC x),.cmap BS (L.map (kA x)),.slice (.id 11901 6) [],.slice (.id 11902 1) [],.mref 11903,vb false,.slice .none [],.slice .none [],.msl 11904 0]),(11901,.tok 6 0),(11902,.tok 1 0),(11903,.map EX []),(11904,.arr 1 [])] Z2 Z6 (Xi (.gen [(11900,1000),(11901,1001),(11902,1002),(11903,1003),(11904,1004)] 1) (Yi rfl ((SP hx hr h0 h1 qp ho).imp ?_)));intro v g q;have q1:=q.1;have q2:=q.2;subst q1;subst q2;refine cU [(4,.ref 4 0),(6,.ref 11900 0),(7,vi (k:Nat)),(8,vb false)] [(4,.cells [vb false,nzA,nzA,nzA]),(11900,.cells [sl Ac roots,.cmap BS (mC x),.cmap BS (L.map (kA x)),.slice (.id 11901 6) (infs.map AG),.slice (.id 11902 1) (drv.map Ap),.mref 11903,vb false,sl Ax dec,sl Ah (At dec),.msl 12200 st.length]),(11901,.tok 6 infs.length),(11902,.tok 1 drv.length),(11903,.map EX (E0 0 infs)),(12200,.arr 1 (st.map AU))] Z4 Z6 (Yi (fun h=>by cases h) (fun _=>?_));refine cU [(4,.ref 4 0),(6,.ref 11900 0),(7,vi (k:Nat)),(8,vb false)] [(4,.cells [vb false,nzA,nzA,nzA]),(11900,.cells [sl Ac roots,.cmap BS (mC x),.cmap BS (L.map (kA x)),.slice (.id 11901 6) (infs.map AG),.slice (.id 11902 1) (drv.map Ap),.mref 11903,vb false,sl Ax dec,sl Ah (At dec),.msl 12200 st.length]),(11901,.tok 6 infs.length),(11902,.tok 1 drv.length),(11903,.map EX (E0 0 infs)),(12200,.arr 1 (st.map AU))] Z4 Z6 (cU [(4,.ref 4 0),(6,.ref 11900 0),(7,vi (k:Nat))] [(4,.cells [vb false,nzA,nzA,nzA]),(11900,.cells [sl Ac roots,.cmap BS (mC x),.cmap BS (L.map (kA x)),.slice (.id 11901 6) (infs.map AG),.slice (.id 11902 1) (drv.map Ap),.mref 11903,vb false,sl Ax dec,sl Ah (At dec),.msl 12200 st.length]),(11901,.tok 6 infs.length),(11902,.tok 1 drv.length),(11903,.map EX (E0 0 infs)),(12200,.arr 1 (st.map AU))] Z3 Z6 (Yi (by grind [AQ]) ?_));have el:(infs.map AG).length=infs.length:=Lm ..;refine Yi ⟨B6 _,by grind,by grind⟩ ?_;refine Yi (fun cs hcs=>by obtain⟨i,_,rfl⟩:=Ak.1 hcs;rfl) (Yi ?_ ?_)
 .exact Nz rfl
 refine Yi ?_ ?_
 .exact Nz rfl
 have et:((infs.map AG).take ((k:Int)+1).toNat).drop (0:Int).toNat=(infs.take (k+1)).map AG:=by
  simp_all
 exact DC.tup ⟨DC.agg ⟨.refl _,.nil,.of_eq (show AV.slice .none (((infs.map AG).take ((k:Int)+1).toNat).drop (0:Int).toNat)=_ by rw[et]),.nil,trivial⟩,.refl _,trivial⟩
theorem Ug(y:Sl):∀l:List Sl,(Tt y l).Perm (y::l)
 | []=>.refl _
 |z::l=>by
  unfold Tt;split
  .simp_all
  .exact((Ug y l).cons z).trans (List.Perm.swap y z l)
theorem SU:∀l:List Sl,(Ed l).Perm l
 | []=>.refl _
 |y::l=>(Ug y _).trans ((SU l).cons y)
theorem WK{b:Nat}:∀{st:List (List Sk)},(∀s∈st,s.length<=b)->st.flatten.length<=b*st.length
 | [],_=>by simp
 |s::st,h=>by
  rw[BW,Au,Dp,Nat.mul_succ]
  have:=h s (Ad ..)
  have:=WK (st:=st) fun t ht=>h t (Af _ ht)
  omega
theorem iW{st:List (List Sk)}(h:st.length<=256)(hs:∀s∈st,s.length<=256)(i:Nat):((st.take i).flatten).length<=65536:=by
 have h1:=WK (b:=256) (st:=st.take i) fun s cA=>hs s (EI cA)
 grind
theorem lW(hx:∀r∈x,Ir r)(hr:∀q∈roots,KL q)(hv:EF x roots=true)(h0:AC x=0)(h1:A8 roots=0)(k:Nat)(infs:List Nf)(drv:List (List Tm))(dec:List Cd)(st:List (List Sk))(ho:Es x roots=⟨k,true,⟨infs,drv,false⟩,dec,st⟩)(hd:dec.length<=256)(hn:((At dec).map (·.path)).Nodup)(HF:st.length<=256)(zX:∀s∈st,s.length<=256):PC 38 [IP x ifs,sl Ac roots] (.tup [.agg (IS ⟨true,Ed (At dec),infs,st.flatten⟩),vi 0]):=by
 have RL:=uu x ifs roots hx hr;rw[hv]at RL;refine Ps lI Tryz.func38 rfl (Nz rfl) (Yi ?_ ?_)
 .exact Nz rfl
 refine Xi .pure (Xi _ (Yi RL (cU [(1,sl Ac roots),(2,.ref 2 0),(4,.ref 4 0)] [(2,.ro (Ic x ifs)),(4,.cells [vb false,nzA,nzA,nzA])] Z3 Z2 (Yi ?_ ?_))))
 .exact Nz rfl
 refine Xi (.gen [] 5) (Yi rfl ((yv x ifs roots hx h0).imp ?_));intro v g q;refine AJ q (fun L q=>?_);have q1:=q.2.1;have q2:=q.2.2;have qp:=q.1;subst q1;subst q2;refine cU [(4,.ref 4 0),(6,.ref 11900 0)] [(4,.cells [vb false,nzA,nzA,nzA]),(11900,.cells [sl Ac roots,.cmap BS (mC x),.cmap BS (L.map (kA x)),.slice (.id 11901 6) [],.slice (.id 11902 1) [],.mref 11903,vb false,.slice .none [],.slice .none [],.msl 11904 0]),(11901,.tok 6 0),(11902,.tok 1 0),(11903,.map EX []),(11904,.arr 1 [])] Z2 Z6 (Xi (.gen [(11900,1000),(11901,1001),(11902,1002),(11903,1003),(11904,1004)] 1) (Yi rfl ((SP hx hr h0 h1 qp ho).imp ?_)));intro v g q;have q1:=q.1;have q2:=q.2;subst q1;subst q2;refine cU [(4,.ref 4 0),(6,.ref 11900 0),(7,vi (k:Nat)),(8,vb true)] [(4,.cells [vb false,nzA,nzA,nzA]),(11900,.cells [sl Ac roots,.cmap BS (mC x),.cmap BS (L.map (kA x)),.slice (.id 11901 6) (infs.map AG),.slice (.id 11902 1) (drv.map Ap),.mref 11903,vb false,sl Ax dec,sl Ah (At dec),.msl 12200 st.length]),(11901,.tok 6 infs.length),(11902,.tok 1 drv.length),(11903,.map EX (E0 0 infs)),(12200,.arr 1 (st.map AU))] Z4 Z6 (Yi (fun h=>by cases h) (fun _=>?_));refine cU [(4,.ref 4 0),(6,.ref 11900 0),(8,vb true)] [(4,.cells [vb false,nzA,nzA,nzA]),(11900,.cells [sl Ac roots,.cmap BS (mC x),.cmap BS (L.map (kA x)),.slice (.id 11901 6) (infs.map AG),.slice (.id 11902 1) (drv.map Ap),.mref 11903,vb false,sl Ax dec,sl Ah (At dec),.msl 12200 st.length]),(11901,.tok 6 infs.length),(11902,.tok 1 drv.length),(11903,.map EX (E0 0 infs)),(12200,.arr 1 (st.map AU))] Z3 Z6 (cU [(4,.ref 4 0),(6,.ref 11900 0)] [(4,.cells [vb false,nzA,nzA,nzA]),(11900,.cells [sl Ac roots,.cmap BS (mC x),.cmap BS (L.map (kA x)),.slice (.id 11901 6) (infs.map AG),.slice (.id 11902 1) (drv.map Ap),.mref 11903,vb false,sl Ax dec,sl Ah (At dec),.msl 12200 st.length]),(11901,.tok 6 infs.length),(11902,.tok 1 drv.length),(11903,.map EX (E0 0 infs)),(12200,.arr 1 (st.map AU))] Z2 Z6 ?_)
 have oz:(At dec).length<=256:=by simp_all
 have ar:Cr (At dec):=AH oz Wk;refine Xi (At dec).length (Xi 4 (Xi ((At dec).map Ah) (Yi rfl (Yi (yA (At dec) ar) (Yi ?_ ?_)))))
 .exact Nz rfl
 refine Yi aa0 (cU [(4,.ref 4 0),(6,.ref 11900 0),(9,.ref 9 0)] [(4,.cells [vb false,nzA,nzA,nzA]),(9,.cells [vb true,.msl 14400 (At dec).length,.slice (.id 11901 6) (infs.map AG),nzA]),(11900,.cells [sl Ac roots,.cmap BS (mC x),.cmap BS (L.map (kA x)),.slice (.id 11901 6) (infs.map AG),.slice (.id 11902 1) (drv.map Ap),.mref 11903,vb false,sl Ax dec,sl Ah (At dec),.msl 12200 st.length]),(11901,.tok 6 infs.length),(11902,.tok 1 drv.length),(11903,.map EX (E0 0 infs)),(12200,.arr 1 (st.map AU)),(14400,.arr 4 ((At dec).map Ah))] Z3 Z8 (Xi (.gen [(14400,1000)] 0) (Yi rfl ((s47 84 Tryz.closure84 (enters_of Tryz.func84 aa0 rfl) (At dec) ar hn).imp ?_))));intro v g q;have q1:=q.1;have q2:=q.2;subst q1;subst q2;refine cU [(4,.ref 4 0),(6,.ref 11900 0),(9,.ref 9 0)] [(4,.cells [vb false,nzA,nzA,nzA]),(9,.cells [vb true,.msl 14400 (At dec).length,.slice (.id 11901 6) (infs.map AG),.slice (.id 95 3) []]),(95,.tok 3 0),(11900,.cells [sl Ac roots,.cmap BS (mC x),.cmap BS (L.map (kA x)),.slice (.id 11901 6) (infs.map AG),.slice (.id 11902 1) (drv.map Ap),.mref 11903,vb false,sl Ax dec,sl Ah (At dec),.msl 12200 st.length]),(11901,.tok 6 infs.length),(11902,.tok 1 drv.length),(11903,.map EX (E0 0 infs)),(12200,.arr 1 (st.map AU)),(14400,.arr 4 ((Ed (At dec)).map Ah))] Z3 Z9 (Xi {i:Nat // i<=st.length} (Xi (fun i=>⟨[(4,.ref 4 0),(6,.ref 11900 0),(9,.ref 9 0),(56,.msl 12200 st.length),(57,vi (st.length:Nat)),(58,vi i.1)],[(4,.cells [vb false,nzA,nzA,nzA]),(9,.cells [vb true,.msl 14400 (At dec).length,.slice (.id 11901 6) (infs.map AG),.slice (.id 95 3) ((st.take i.1).flatten.map Ay)]),(95,.tok 3 ((st.take i.1).flatten.map Ay).length),(11900,.cells [sl Ac roots,.cmap BS (mC x),.cmap BS (L.map (kA x)),.slice (.id 11901 6) (infs.map AG),.slice (.id 11902 1) (drv.map Ap),.mref 11903,vb false,sl Ax dec,sl Ah (At dec),.msl 12200 st.length]),(11901,.tok 6 infs.length),(11902,.tok 1 drv.length),(11903,.map EX (E0 0 infs)),(12200,.arr 1 (st.map AU)),(14400,.arr 4 ((Ed (At dec)).map Ah))],Ab⟩) (Xi (fun i=>st.length-i.1) (Yi (Xi ⟨0,Ar _⟩ ?_) ?_))))
 .exact⟨Z6,Z9,Fh,Tv⟩
 intro⟨i,i1⟩;refine Yi ?_ ?_
 .intro h;have h:(i:Int)<(st.length:Nat):=h;have h:i<st.length:=by omega
  have hg:st[i]?=some st[i]:=Ge h;have NX:st.take (i+1)=st.take i++[st[i]]:=by simp_all
  refine Yi (Yi ch ch) (Yi (by simp_all) (Xi (AU st[i]) (Yi (by simp_all) ?_)));refine cU [(4,.ref 4 0),(6,.ref 11900 0),(9,.ref 9 0),(11,sl Ay st[i]),(56,.msl 12200 st.length),(57,vi (st.length:Nat)),(58,vi i)] [(4,.cells [vb false,nzA,nzA,nzA]),(9,.cells [vb true,.msl 14400 (At dec).length,.slice (.id 11901 6) (infs.map AG),.slice (.id 95 3) ((st.take i).flatten.map Ay)]),(95,.tok 3 ((st.take i).flatten.map Ay).length),(11900,.cells [sl Ac roots,.cmap BS (mC x),.cmap BS (L.map (kA x)),.slice (.id 11901 6) (infs.map AG),.slice (.id 11902 1) (drv.map Ap),.mref 11903,vb false,sl Ax dec,sl Ah (At dec),.msl 12200 st.length]),(11901,.tok 6 infs.length),(11902,.tok 1 drv.length),(11903,.map EX (E0 0 infs)),(12200,.arr 1 (st.map AU)),(14400,.arr 4 ((Ed (At dec)).map Ah))] Z7 Z9 ?_
  have hfl:((st.take i).flatten).length<=65536/\st[i].length<=256:=⟨iW HF zX i,zX _ (Ao _)⟩;have Di:BJ 3 (st[i].map Ay)/\((st.take i).flatten.map Ay).length=((st.take i).flatten.map Ay).length/\(((st.take i).flatten.map Ay).length+(st[i].map Ay).length)*32<=140737488355328/\((st.take i).flatten.map Ay).length+(st[i].map Ay).length<=9223372036854775807:=by
   grind [Df]
  refine Yi Di (Yi ?_ ?_)
  .exact Nz rfl
  have ef:((st.take i).flatten.map Ay)++st[i].map Ay=((st.take (i+1)).flatten.map Ay):=by grind
  have en:((st.take i).flatten.map Ay).length+(st[i].map Ay).length=((st.take (i+1)).flatten.map Ay).length:=by grind
  refine cU [(4,.ref 4 0),(6,.ref 11900 0),(9,.ref 9 0),(56,.msl 12200 st.length),(57,vi (st.length:Nat)),(58,vi i)] [(4,.cells [vb false,nzA,nzA,nzA]),(9,.cells [vb true,.msl 14400 (At dec).length,.slice (.id 11901 6) (infs.map AG),.slice (.id 95 3) ((st.take (i+1)).flatten.map Ay)]),(95,.tok 3 ((st.take (i+1)).flatten.map Ay).length),(11900,.cells [sl Ac roots,.cmap BS (mC x),.cmap BS (L.map (kA x)),.slice (.id 11901 6) (infs.map AG),.slice (.id 11902 1) (drv.map Ap),.mref 11903,vb false,sl Ax dec,sl Ah (At dec),.msl 12200 st.length]),(11901,.tok 6 infs.length),(11902,.tok 1 drv.length),(11903,.map EX (E0 0 infs)),(12200,.arr 1 (st.map AU)),(14400,.arr 4 ((Ed (At dec)).map Ah))] Z6 ⟨Zr,⟨Aa (fun z=>HO.cells [vb true,.msl 14400 (At dec).length,.slice (.id 11901 6) (infs.map AG),.slice (.id 95 3) z]) ef,rfl⟩,⟨Aa (HO.tok 3) en,rfl⟩,Zr,Zr,Zr,Zr,Zr,Zr,Tv⟩ (Yi (Ii i ch) (Xi ⟨i+1,by omega⟩ ?_));exact⟨by grind,Z6,Z9,Fh,Tv⟩
 .intro h;have h:¬(i:Int)<(st.length:Nat):=h;have et:st.take i=st:=Bd ch;have X4:(At dec).length=((Ed (At dec)).map Ah).length:=(SU (At dec)).length_eq.symm.trans (Lm ..).symm;refine Yi X4 (cU [(4,.ref 4 0),(9,.ref 9 0)] [(4,.cells [vb false,nzA,nzA,nzA]),(9,.cells [vb true,.slice (.id 14400 4) ((Ed (At dec)).map Ah),.slice (.id 11901 6) (infs.map AG),.slice (.id 95 3) (st.flatten.map Ay)]),(95,.tok 3 (st.flatten.map Ay).length),(11901,.tok 6 infs.length),(14400,.tok 4 ((Ed (At dec)).map Ah).length)] Z2 ⟨Zr,⟨Aa (fun z:List (List Sk)=>HO.cells [vb true,.slice (.id 14400 4) ((Ed (At dec)).map Ah),.slice (.id 11901 6) (infs.map AG),.slice (.id 95 3) (z.flatten.map Ay)]) et,rfl⟩,⟨Aa (fun z:List (List Sk)=>HO.tok 3 (z.flatten.map Ay).length) et,rfl⟩,Zr,Zr,Tv⟩ (Yi ?_ ?_))
  .exact Nz rfl
  refine Yi ?_ ?_
  .grind
  refine Yi ?_ ?_
  .exact Nz rfl
  exact .refl _
theorem Pn{s:SS}{b:List Cd}{p:ByteArray}{needs:List Nd}:∀{cs:List Cd} {sk:List Sk},Fz s b p needs cs sk->sk.length<=cs.length
 | [],sk,h=>by
  have h:sk=[]:=h;simp_all
 |c::cs,sk,h=>by
  have h:if(needs.all fun n=>has n.rq.set c.place)=true then _ else _:=h
  by_cases hc:(needs.all fun n=>has n.rq.set c.place)=true
  .rw[A1 hc]at h;obtain⟨k,rest,rfl,_,h3⟩:=h
   have:=Pn h3
   simp_all
  .rw[AO hc]at h
   have:=Pn h
   grind
theorem TZ{x:List Rl}{roots:List Rq}{s:SS}:∀{t:List Cd} {sl:List (List Sk)} {b:List Cd},Jf x roots s b t sl->sl.length=t.length/\∀k∈sl,k.length<=x.length
 | [],[],_,_=>⟨rfl,fun _ h=>by cases h⟩
 | [],_::_,_,h=>h.elim
 |_::_,[],_,h=>h.elim
 |c::t,sk::sl,b,⟨⟨p,needs,pre,post,hs⟩,h⟩=>by
  obtain⟨h1,h2⟩:=TZ h;refine⟨by simp_all,fun k hk=>?_⟩;rcases AA.1 hk with rfl | hk
  .have e1:=Pn hs.skips;have e2:=TW x p;rw[hs.cands,Au]at e2;omega
  simp_all
theorem yt(hx:∀r∈x,Ir r)(hr:∀q∈roots,KL q):PC 38 [IP x ifs,sl Ac roots] (VQ x roots):=by
 unfold VQ Db Jd;cases hv:EF x roots with
 |false=>grind [lV]
 |true=>
  obtain⟨h0,h1⟩:=XY hv;have hR:=UD h0 h1;have oK:=(Iy h0).1;have hA:eJ x roots=if(Es x roots).found=true then⟨true,Ed (At (Es x roots).dec),(Es x roots).ss.infs,(Es x roots).stack.flatten⟩else⟨false,[],(Es x roots).ss.infs.take ((Es x roots).res+1),[]⟩:=rfl
  rw[hA];generalize ho:Es x roots=o at hR⊢;obtain⟨k,b,⟨infs,drv,full⟩,dec,st⟩:=o;have hl:infs.length<=65536:=hR.der.len;have hdl:drv.length=infs.length:=hR.der.dlen;cases b with
  |false=>
   cases full with
   |true=>grind [iR]
   |false=>
    have hk:k<drv.length:=((hR.no rfl).2.2 rfl).1
    grind [po]
  |true=>
   obtain⟨hf,t,sl,e1,e2,hC,_⟩:=hR.yes rfl;subst hf;have e1:dec=[]++t:=e1;have e2:st=[]++sl:=e2;rw[FF]at e1 e2;subst e1;subst e2;have hD:CT x ([]++dec):=(Jf.ok (.nil x) (.nil roots) hC).1;rw[FF]at hD;have hdx:=Wt hD
   grind [TZ,Kb,lW,CT.nodup]
def TA:Int:=if Jd x roots≠0 then Jd x roots else if(Db x roots).found=true then 0 else 17
def dH:List Sl:=if TA x roots=0 then(Db x roots).sel else []
abbrev xC:MF:=(pC [2] [])
theorem pn(h:PC 38 [IP x ifs,sl Ac roots] (.tup [.agg (IS a),vi e])) :
  PC 19 [IP x ifs,sl Ac roots] (.tup [if e≠0 then sl Ah []else if a.found=true then sl Ah a.sel else sl Ah [],vi (if e≠0 then e else if a.found=true then 0 else 17)]):=by
 refine Ps xC Tryz.func19 rfl (Nz rfl) (Yi ?_ ?_)
 .exact Nz rfl
 refine Xi .pure (Xi _ (Yi h (Yi ?_ ?_)))
 .exact Nz rfl
 refine Yi (fun he=>?_) (fun he=>?_)
 .have e1:AV.tup [sl Ah [],vi e]=.tup [if e≠0 then sl Ah []else if a.found=true then sl Ah a.sel else sl Ah [],vi (if e≠0 then e else if a.found=true then 0 else 17)]:=by simp_all
  exact(show DC (.tup [nzA,vi e]) (.tup [sl Ah ([]:List Sl),vi e])from DC.tup ⟨.nil,.refl _,trivial⟩).trans (.of_eq e1)
 .have he:e=0:=BI.1 he;have DT:¬e≠0:=fun h=>h he;refine Yi (fun hb=>?_) (fun hb=>?_)
  .have e1:AV.tup [sl Ah a.sel,vi 0]=.tup [if e≠0 then sl Ah []else if a.found=true then sl Ah a.sel else sl Ah [],vi (if e≠0 then e else if a.found=true then 0 else 17)]:=by simp_all
   exact .of_eq e1
  .have hb:¬a.found=true:=by simp_all
   have e1:AV.tup [sl Ah [],vi 17]=.tup [if e≠0 then sl Ah []else if a.found=true then sl Ah a.sel else sl Ah [],vi (if e≠0 then e else if a.found=true then 0 else 17)]:=by simp_all
   exact(show DC (.tup [nzA,vi 17]) (.tup [sl Ah ([]:List Sl),vi 17])from DC.tup ⟨.nil,.refl _,trivial⟩).trans (.of_eq e1)
theorem s16(hx:∀r∈x,Ir r)(hr:∀q∈roots,KL q):PC 19 [IP x ifs,sl Ac roots] (.tup [sl Ah (dH x roots),vi (TA x roots)]):=by
 grind [pn,yt,dH,TA]
theorem ZW{x:List Rl}{s:List Sl}(h:i<s.length):(s.take (i+1)).map (GL x)=(s.take i).map (GL x)++[GL x s[i]]:=by rw[D5 h,Bm];rfl
theorem aY{α:Type}{s:List α}(h:i<s.length):s.take (i+1)=s.take i++[s[i]]:=D5 h
theorem m9(km:PC 19 [.agg (Ic x ifs),sl Ac roots] (.tup [sl Ah s,vi 0]))(kp:PC 38 [.agg (Ic x ifs),sl Ac roots] (.tup [.agg (IS a),vi 0]))(tD:∀p v,PC 40 [.agg (Ic x ifs),vs p,.agg (Gi v)] (Mx (Bg x ⟨p,v⟩)))(pP:∀y∈a.sel,(Bg x y).isSome=true)(rT:∀q∈roots,Cr q.set)(hrl:roots.length<=1000000)(ze:a.sel.length<=1000000):PC 11 [.agg (Ic x ifs),sl Ac roots] (.tup [.agg (Dj (ul x roots a)),vi 0]):=by
 refine Ps ⟨[2,8],[],[],[],[],[],[],[(42,(10,0,60,2)),(43,(10,1,61,6))],[],[],[8]⟩ Tryz.func11 rfl (Nz rfl) (yN (Xi .pure (Xi _ (Yi km (Yi (fun h=>absurd h Wk) (fun _=>?_))))));refine yN (Xi .pure (Xi _ (Yi kp (yN (Yi (fun h=>absurd h Wk) (fun _=>?_))))));refine yN (cU [(1,sl Ac roots),(2,.ref 2 0),(4,.ref 4 0),(8,.ref 8 0),(10,.ref 10 0)] [(2,.ro (Ic x ifs)),(4,.cells [nzA,nzA,nzA,nzA]),(8,.ro (IS a)),(10,.cells [nzA,nzA,sl AG a.infs,sl Ay a.skips])] Z5 Z4 (Xi {q:Nat // q<=roots.length} (Xi (fun q=>⟨[(2,.ref 2 0),(4,.ref 4 0),(8,.ref 8 0),(10,.ref 10 0),(42,sl Ac roots),(43,vi (roots.map Ac).length),(44,vi q.1)],[(2,.ro (Ic x ifs)),(4,.cells [nzA,nzA,nzA,nzA]),(8,.ro (IS a)),(10,.cells [.slice (.id 60 2) ((roots.take q.1).map Ac),.slice (.id 61 6) [],sl AG a.infs,sl Ay a.skips]),(60,.tok 2 (roots.take q.1).length),(61,.tok 6 0)],Ab⟩) (Xi (fun q=>roots.length-q.1) (Yi (Xi ⟨0,Ar _⟩ ?_) ?_)))))
 .exact⟨Z7,Z6,Fh,Tv⟩
 intro⟨i,i1⟩;have i1:i<=roots.length:=i1;have iT:(roots.take i).length<=1000000:=(by rw[CB];omega);refine Yi (fun h1=>?_) (fun h1=>?_)
 .have h1:(i:Int)<((roots.map Ac).length:Int):=h1;have n1:=Jb h1;refine Xi (Ac roots[i]) (Yi (N0 n1) (Yi rfl (yN (yN (Xi .pure (Xi _ (Yi (qm roots[i].set (rT _ (Ao n1))) (yN (yN (Yi (X2 rfl (show(roots.take i).length<=2147483647 by omega) Wk) (yN (Yi (Ii i ch) ?_))))))))))));have er:(roots.take i).map Ac++[[vs roots[i].path,sl Aj roots[i].set]]=(roots.take (i+1)).map Ac:=by rw[aY n1,Bm];rfl
  refine Xi ⟨i+1,n1⟩ ?_;exact⟨Dl roots.length i ch,Z7,⟨Zr,Zr,Zr,⟨(Aa (fun E:List (List AV)=>HO.cells [.slice (.id 60 2) E,.slice (.id 61 6) [],sl AG a.infs,sl Ay a.skips]) er),rfl⟩,⟨(show HO.tok 2 (((roots.take i).map Ac).length+([[vs roots[i].path,sl Aj roots[i].set]]:List (List AV)).length)=.tok 2 (roots.take (i+1)).length by rw[aY n1,Au,Lm];rfl),rfl⟩,Zr,Tv⟩,Fh,Tv⟩
 have h1:¬((i:Int)<((roots.map Ac).length:Int)):=h1;have n1:=FS h1;refine Xi {q:Nat // q<=a.sel.length} (Xi (fun q=>⟨[(2,.ref 2 0),(4,.ref 4 0),(10,.ref 10 0),(60,sl Ah a.sel),(61,vi (a.sel.map Ah).length),(62,vi q.1)],[(2,.ro (Ic x ifs)),(4,.cells [nzA,nzA,nzA,nzA]),(10,.cells [.slice (.id 60 2) ((roots.take i).map Ac),.slice (.id 61 6) (((a.sel.take q.1).map (GL x)).map A3),sl AG a.infs,sl Ay a.skips]),(60,.tok 2 (roots.take i).length),(61,.tok 6 ((a.sel.take q.1).map (GL x)).length)],Ab⟩) (Xi (fun q=>a.sel.length-q.1) (Yi (Xi ⟨0,Ar _⟩ ?_) ?_)))
 .exact⟨Z6,Z5,Fh,Tv⟩
 intro⟨k,k1⟩;have k1:k<=a.sel.length:=k1;have kT:((a.sel.take k).map (GL x)).length<=1000000:=(by rw[Lm,CB];omega);refine Yi (fun h4=>?_) (fun h4=>?_)
 .have h4:(k:Int)<((a.sel.map Ah).length:Int):=h4;have n4:=Jb h4;obtain⟨r,hr⟩:=Option.isSome_iff_exists.1 (pP _ (Ao n4));refine Xi (Ah a.sel[k]) (Yi (N0 n4) (Yi rfl (yN (yN (yN (yN ?_))))));have gj:=(tD a.sel[k].path a.sel[k].ver);rw[(show Bg x ⟨a.sel[k].path,a.sel[k].ver⟩=some r from hr)]at gj;refine Xi .pure (Xi _ (Yi gj (yN (yN (Yi (X2 rfl (show((a.sel.take k).map (GL x)).length<=2147483647 by omega) Wk) (yN (Yi (Ii k ch) ?_)))))));have ee:GL x a.sel[k]=⟨a.sel[k].path,a.sel[k].ver,r.arch,r.ifc⟩:=by unfold GL;rw[show Bg x a.sel[k]=some r from hr]
  have er:((a.sel.take k).map (GL x)).map A3++[[vs a.sel[k].path,vi a.sel[k].ver.a,vi a.sel[k].ver.b,vi a.sel[k].ver.c,vs r.arch,vs r.ifc]]=((a.sel.take (k+1)).map (GL x)).map A3:=by rw[ZW n4,Bm,ee];rfl
  refine Xi ⟨k+1,n4⟩ ?_;exact⟨Dl a.sel.length k ch,Z6,⟨Zr,Zr,⟨(Aa (fun E:List (List AV)=>HO.cells [.slice (.id 60 2) ((roots.take i).map Ac),.slice (.id 61 6) E,sl AG a.infs,sl Ay a.skips]) er),rfl⟩,Zr,⟨(show HO.tok 6 ((((a.sel.take k).map (GL x)).map A3).length+([[vs a.sel[k].path,vi a.sel[k].ver.a,vi a.sel[k].ver.b,vi a.sel[k].ver.c,vs r.arch,vs r.ifc]]:List (List AV)).length)=.tok 6 ((a.sel.take (k+1)).map (GL x)).length by rw[ZW n4,Au,Lm (f:=A3)];rfl),rfl⟩,Tv⟩,Fh,Tv⟩
 have h4:¬((k:Int)<((a.sel.map Ah).length:Int)):=h4;have n4:=FS h4;refine yN (yN (yN ?_));exact DC.of_eq (show AV.tup [.agg [sl Ac (roots.take i),sl A3 ((a.sel.take k).map (GL x)),sl AG a.infs,sl Ay a.skips],vi 0]=.tup [.agg (Dj (ul x roots a)),vi 0] by rw[Bd (l:=roots) (Cj (FS h1)),Bd (l:=a.sel) (Cj (FS h4))];rfl)
section
variable {x:List Rl}{roots:List Rq}
theorem Qf(hv:EF x roots=true)(hx:x.length<=16):Jd x roots=0:=by
 grind [Jd,Kn]
theorem UC(hv:EF x roots=true)(hx:x.length<=16):Db x roots=eJ x roots:=by
 grind [Db,Kn]
end
theorem ZB{x:List Rl}{roots:List Rq}(h:(Er x 16&&CE roots)=true):x.length<=16:=by
 simp only[Ag,Er,A5]at h;exact h.1.2
section
variable {x:List Rl}{l:Lk}
theorem gV(hx:x.length<=16)(h:LF x l=0):TA x l.roots=0/\Jd x l.roots=0/\dH x l.roots=Gu l/\(Db x l.roots).sel=Gu l/\F9 x l.roots (Gu l)=0/\(ul x l.roots (Db x l.roots)).ents=l.ents/\∀y∈(Db x l.roots).sel,(Bg x y).isSome=true:=by
 obtain⟨h1,h2,h3,h4⟩:=S8 h;have hr:A8 l.roots=0:=by
  unfold Fo at h2;exact BD (Bool.and_eq_true_iff.1 h2).1
 have hv:EF x l.roots=true:=by unfold EF;rw[As h1,As hr];rfl
 have hE:=Qf hv hx;have hA:=UC hv hx;have hc:=QT h1 hr (Kn (roots:=l.roots) hx);rw[<-hA]at hc;obtain⟨u1,u2⟩:=MX hc h4;have hS:TA x l.roots=0:=by unfold TA;rw[AO (fun c=>c hE),A1 u1]
 refine⟨hS,hE,by unfold dH;rw[A1 hS,u2],u2,?_,?_,?_⟩
 .unfold Fe at h4;split at h4
  .rename_i c;exact absurd h4 c
  .rw[AO (show ¬(Ks l).found=false from Bool.noConfusion)]at h4;split at h4
   .cases h4
   .rename_i c;exact Decidable.not_not.1 c
 .show(Db x l.roots).sel.map (GL x)=l.ents;rw[u2,<-Vc h]
 .intro y hy;rw[u2]at hy;obtain⟨e,he,rfl⟩:=Ak.1 hy;have q:=AF.1 h3 e he;unfold H2 at q;cases c:Bg x (Dt e)with
  |none=>rw[c]at q;cases q
  |some r=>rfl
end
theorem r8(hA:PC 9 [] (vb true))(b1 b2:Bool)(e:Int)(mR:PC 10 [IP x ifs,sl Ac l.roots] (vb b1))(kF:PC 17 [.agg (Dj l)] (vb b2))(kv:b1=true->b2=true->PC 18 [IP x ifs,.agg (Dj l)] (vi e))(hb:b1=true->b2=true->¬e=0):PC 4 [IP x ifs,.agg (Dj l)] (vb true):=by
 refine Ps (pC [2,3,7] []) Tryz.func4 rfl (Nz rfl) (Xi .pure (Xi _ (Yi hA (yN (Bs (Bt b1) (fun h1=>?_) (fun h1=>?_))))))
 .have h1:b1=true:=h1;refine Xi .pure (Xi _ (Yi (cb h1 mR) (yN (Bs (Bt b2) (fun h2=>?_) (fun h2=>?_)))))
  .have h2:b2=true:=h2;refine Xi .pure (Xi _ (Yi (cb h2 kF) (yN (yN (Xi .pure (Xi _ (Yi (kv h1 h2) (Yi (fun h3=>?_) (fun h3=>?_)))))))))
   .have h3:(e:Int)≠(0:Int):=h3;exact .refl _
   have h3:(e:Int)=(0:Int):=AP h3;exact absurd h3 (hb h1 h2)
  have h2:b2=false:=h2;refine Xi .pure (Xi _ (Yi (cb h2 kF) ?_));exact .refl _
 have h1:b1=false:=h1;refine Xi .pure (Xi _ (Yi (cb h1 mR) ?_));exact .refl _
theorem r9(mk:Lk)(s:List Sl)(hA:PC 9 [] (vb true))(mR:PC 10 [IP x ifs,sl Ac l.roots] (vb true))(kF:PC 17 [.agg (Dj l)] (vb true))(kv:PC 18 [IP x ifs,.agg (Dj l)] (vi 0))(mS:PC 19 [IP x ifs,sl Ac l.roots] (.tup [sl Ah s,vi 0]))(pZ:PC 11 [IP x ifs,sl Ac l.roots] (.tup [.agg (Dj mk),vi 0]))(xt:PC 20 [.agg (Dj l)] (sl Ah s))(k14:PC 14 [sl Ah s,sl Ah s] (vb true))(rZ:PC 21 [IP x ifs,sl Ac l.roots,sl Ah s] (vi 0))(k22:PC 22 [sl A3 l.ents,sl A3 mk.ents] (vb true)):PC 4 [IP x ifs,.agg (Dj l)] (vb true):=by
 refine Ps (pC [2,3,7] []) Tryz.func4 rfl (Nz rfl) (Xi .pure (Xi _ (Yi hA (yN (Xi .pure (Xi _ (Yi mR (yN (Xi .pure (Xi _ (Yi kF (yN (yN (Xi .pure (Xi _ (Yi kv (Yi (fun h=>absurd h Wk) (fun _=>?_))))))))))))))))));refine yN (Xi .pure (Xi _ (Yi mS (yN (Xi .pure (Xi _ (Yi pZ (yN (Yi (fun _=>?_) (fun h=>absurd Wk h))))))))));refine Yi (fun _=>?_) (fun h=>absurd Wk h);refine yN (Xi .pure (Xi _ (Yi xt (Xi .pure (Xi _ (Yi k14 (yN (Xi .pure (Xi _ (Yi rZ (Yi (fun _=>?_) (fun h=>absurd Wk h))))))))))));refine Xi .pure (Xi _ (Yi k22 ?_));exact .refl _
theorem xw(L:UQ x l.roots)(hk:eD l)(hA:PC 9 [] (vb true)):PC 4 [IP x ifs,.agg (Dj l)] (vb true):=by
 have mR:=L.c11 ifs;have kF:=m8 l (AH hk.el Wk) (AH hk.il Wk) (AH hk.kl Wk) L.rs
 by_cases hg:(Er x 16&&CE l.roots)=true/\KY l=true/\LF x l=0
 .obtain⟨hs,hf,hv⟩:=hg;have kv:=N1 (ifs:=ifs) L hs (NL hf);rw[hs]at mR;rw[hf]at kF;rw[hv]at kv;have hf:=NL hf;have e1:(Gu l).length<=16:=by rw[Lm];exact hf.el
  obtain⟨u1,u2,u3,u4,u5,u6,u7⟩:=gV (ZB hs) hv;have mS:=s16 x ifs l.roots L.x L.rq;rw[u1,u3]at mS;have xu:PC 38 [IP x ifs,sl Ac l.roots] (.tup [.agg (IS (Db x l.roots)),vi 0]):=by have q:=yt x ifs l.roots L.x L.rq;unfold VQ at q;rw[u2]at q;exact q
  have pZ:=m9 x ifs l.roots (Db x l.roots) (Gu l) mS xu (fun p v=>tx x ifs p v (L.c84 ifs) L.x) u7 (fun q hq=>(L.rq q hq).1) (aa hs) (by rw[u4];omega);have rZ:=L.c45 ifs hs (Gu l) ch;unfold qb at rZ;rw[u5]at rZ;exact r9 x ifs l _ _ hA mR kF kv mS pZ (jp l (AH hf.el Wk)) (cb (As rfl) (c27 (Gu l) (Gu l) (show _<=_ by omega))) rZ (by rw[u6];exact tj l.ents (AH hf.el Wk))
 .exact r8 x ifs l hA _ _ _ mR kF (fun a b=>N1 L a (NL b)) fun a b c=>hg ⟨a,b,c⟩
end Go.Eng
namespace Go.Eng
end Go.Eng
namespace Go.Proofs
open Go.Shelf
def Tryz.laySortStr_ren:Go.Shelf.Ren:=⟨fun | 190=>77 | 125=>146 | 258=>145 | 128=>219 | 129=>220 | 302=>210 | 303=>211 | 304=>212 | 305=>213 | 306=>214 | 307=>215 | 308=>216 | 309=>217 | 310=>218 | 333=>282 | 329=>283 | 330=>284 | 334=>285 | 335=>286 | 336=>252 | 344=>338 | n=>n,fun | 31=>144 | 9=>9 | 3=>3 | 46=>240 | 0=>0 | 51=>299 | 53=>229 | 4=>4 | 183=>309 | 182=>308 | 131=>150 | 5=>5 | 218=>372 | 222=>208 | 228=>408 | 229=>409 | n=>n,fun | n=>n⟩
theorem Tryz.laySortStr:Go.Proofs.Lays.n190 Tryz.prog Tryz.laySortStr_ren:={
 mixed:=by kernel_rfl
 f125:=Go.Eng.A0a Tryz.func146
 f128:=Go.Eng.A0a Tryz.func219
 f129:=Go.Eng.A0a Tryz.func220
 f190:=Go.Eng.A0a Tryz.func77
 f258:=Go.Eng.A0a Tryz.func145
 f302:=Go.Eng.A0a Tryz.func210
 f303:=Go.Eng.A0a Tryz.func211
 f304:=Go.Eng.A0a Tryz.func212
 f305:=Go.Eng.A0a Tryz.func213
 f306:=Go.Eng.A0a Tryz.func214
 f307:=Go.Eng.A0a Tryz.func215
 f308:=Go.Eng.A0a Tryz.func216
 f309:=Go.Eng.A0a Tryz.func217
 f310:=Go.Eng.A0a Tryz.func218
 f329:=Go.Eng.A0a Tryz.func283
 f330:=Go.Eng.A0a Tryz.func284
 f333:=Go.Eng.A0a Tryz.func282
 f334:=Go.Eng.A0a Tryz.func285
 f335:=Go.Eng.A0a Tryz.func286
 f336:=Go.Eng.A0a Tryz.func252
 f344:=Go.Eng.A0a Tryz.func338
 t0:=Tryz.underlying0
 a0:=Tryz.isAgg0
 z0:=Tryz.sizeOf0
 v0:=Tryz.zeroValue0
 t3:=Tryz.underlying3
 a3:=Tryz.isAgg3
 z3:=Tryz.sizeOf3
 v3:=Tryz.zeroValue3
 t4:=Tryz.underlying4
 a4:=Tryz.isAgg4
 z4:=Tryz.sizeOf4
 v4:=Tryz.zeroValue4
 t5:=Tryz.underlying5
 a5:=Tryz.isAgg5
 z5:=Tryz.sizeOf5
 v5:=Tryz.zeroValue5
 t9:=Tryz.underlying9
 a9:=Tryz.isAgg9
 z9:=Tryz.sizeOf9
 v9:=Tryz.zeroValue9
 t31:=Tryz.underlying144
 a31:=Tryz.isAgg144
 z31:=Tryz.sizeOf144
 v31:=Tryz.zeroValue144
 t46:=Tryz.underlying240
 a46:=Tryz.isAgg240
 z46:=Tryz.sizeOf240
 v46:=Tryz.zeroValue240
 t51:=Tryz.underlying299
 a51:=Tryz.isAgg299
 z51:=Tryz.sizeOf299
 v51:=Tryz.zeroValue299
 t53:=Tryz.underlying229
 a53:=Tryz.isAgg229
 z53:=Tryz.sizeOf229
 v53:=Tryz.zeroValue229
 t131:=Tryz.underlying150
 a131:=Tryz.isAgg150
 z131:=Tryz.sizeOf150
 v131:=Tryz.zeroValue150
 t182:=Tryz.underlying308
 a182:=Tryz.isAgg308
 z182:=Tryz.sizeOf308
 v182:=Tryz.zeroValue308
 t183:=Tryz.underlying309
 a183:=Tryz.isAgg309
 z183:=Tryz.sizeOf309
 v183:=Tryz.zeroValue309
 t218:=Tryz.underlying372
 a218:=Tryz.isAgg372
 z218:=Tryz.sizeOf372
 v218:=Tryz.zeroValue372
 t222:=Tryz.underlying208
 a222:=Tryz.isAgg208
 z222:=Tryz.sizeOf208
 v222:=Tryz.zeroValue208
 t228:=Tryz.underlying408
 a228:=Tryz.isAgg408
 z228:=Tryz.sizeOf408
 v228:=Tryz.zeroValue408
 t229:=Tryz.underlying409
 a229:=Tryz.isAgg409
 z229:=Tryz.sizeOf409
 v229:=Tryz.zeroValue409 }
def Tryz.layCompactStr_ren:Go.Shelf.Ren:=⟨fun | 194=>79 | n=>n,fun | 31=>144 | 9=>9 | 3=>3 | 4=>4 | 0=>0 | n=>n,fun | n=>n⟩
theorem Tryz.layCompactStr:Go.Proofs.Lays.n194 Tryz.prog Tryz.layCompactStr_ren:={
 mixed:=by kernel_rfl
 f194:=Go.Eng.A0a Tryz.func79
 t0:=Tryz.underlying0
 a0:=Tryz.isAgg0
 z0:=Tryz.sizeOf0
 v0:=Tryz.zeroValue0
 t3:=Tryz.underlying3
 a3:=Tryz.isAgg3
 z3:=Tryz.sizeOf3
 v3:=Tryz.zeroValue3
 t4:=Tryz.underlying4
 a4:=Tryz.isAgg4
 z4:=Tryz.sizeOf4
 v4:=Tryz.zeroValue4
 t9:=Tryz.underlying9
 a9:=Tryz.isAgg9
 z9:=Tryz.sizeOf9
 v9:=Tryz.zeroValue9
 t31:=Tryz.underlying144
 a31:=Tryz.isAgg144
 z31:=Tryz.sizeOf144
 v31:=Tryz.zeroValue144 }
end Go.Proofs
