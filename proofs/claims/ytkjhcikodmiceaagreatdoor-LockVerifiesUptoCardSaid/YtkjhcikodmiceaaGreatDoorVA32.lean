/- Lemmas 32. -/
import Derived.Test.YtkjhcikodmiceaaGreatDoorVA31
import Derived.Shelf.Sort.Plain
import Derived.Shelf.Slices.CompactS
import Derived.Ground.NamesProg
set_option maxHeartbeats 4000000
namespace Go.Eng
open Go.Proofs
variable {l:List CS}{n k:Nat}{a:AV}(x:List Rl)(p:CS)
abbrev yR:List Rl:=x.filter fun r=>!r.yanked
theorem dt:Md (yR x) p=(BA x p).map AE:=by
 unfold Md BA;simp_all
def mC:List (Value×AV):=(AP (yR x) []).map fun p=>(.string p,sl AE (BA x p))
theorem mS{x:List Rl}{p:CS}:(Value.string p,a)∈mC x↔p∈AP (yR x) []/\a=sl AE (BA x p):=by
 grind [mC]
theorem Wi{x:List Rl}{p:CS}:BA x p=[]↔p∉AP (yR x) []:=by
 grind [HF,BA,List.map_eq_nil_iff,List.filter_eq_nil_iff]
theorem zf:∀(p:CS) (a:AV),(Value.string p,a)∈mC x->a=sl AE (BA x p):=fun _ _ h=>(mS.1 h).2
theorem zg:∀p:CS,(∀a,(Value.string p,a)∉mC x)->BA x p=[]:=fun _ h=>Wi.2 fun hp=>h _ (mS.2 ⟨hp,rfl⟩)
theorem zh:∀p:CS,BA x p=[]->∀a,(Value.string p,a)∉mC x:=fun _ h _ ha=>Wi.1 h (mS.1 ha).1
abbrev plN:M5:=⟨[2],[],[],[(52,[12])],[],[12],[50],[(53,(16,3,90,6)),(54,(16,4,91,1)),(55,(16,7,93,10)),(56,(16,8,94,4))],[],[(850013,13),(800013,10016),(810013,20016),(900013,10000000000+92000000+90016)],[5,7,8,9,11,12,13]⟩
abbrev kC:Value×AV:=(.string p,sl AE (BA x p))
abbrev kA:Value×AV:=(.string p,sl Ab (A9 x p))
theorem qR{x:List Rl}{kv:Value×AV}{Ql : List (Value×AV)}(h:(l.map (kC x)).Perm (kv::Ql)):∃t r,kv=kC x t/\Ql=r.map (kC x)/\l.Perm (t::r):=by
 obtain⟨ps,h1,h2⟩:=MR h l rfl;cases ps<;>grind [List.Perm.symm]
abbrev srN(roots:List Rq)(C A:List (Value×AV)):List (Nat×HO):=
 [(2000,.cells [sl Ad roots,.cmap Cc C,.cmap Cc A,.slice (.id 2001 6) [],.slice (.id 2002 1) [],.mref 2003,vb false,.slice .none [],.slice .none [],.msl 2004 0]),(2001,.tok 6 0),(2002,.tok 1 0),(2003,.map FL []),(2004,.arr 1 [])]
theorem da{x:List Rl}{p:CS}:(Value.string p,a)∈l.map (kA x)↔p∈l/\a=sl Ab (A9 x p):=by
 grind
theorem fe(y:List Rl)(n:Nat):Jr y (n+1000)=.free:=by
 grind [Jr,Nat.blt_eq]
theorem XP{h s:Nat->HO}(H:∀n,h (n+1000)=.free):∀j,1000<=j->j<2000->h j≠.free->s j≠.free:=fun j h1 _ hn=>by
 refine absurd (H (j-1000)) ?_;simp_all
theorem ph(h:k<1000):Nat.beq (n+1000) k=false:=by
 grind [Nat.eq_of_beq_eq_true]
theorem d4{y:List Rl}{o:HO}(h:k<1000):(bif Nat.beq (n+1000) k then o else Jr y (n+1000))=.free:=by
 grind [ph,fe]
attribute [local irreducible] Ix
set_option maxRecDepth 30000 in
theorem s29(ifs:C0)(roots:List Rq)(hx:∀r∈x,Fk r)(h0:At x=0):Bg Tryz.prog 81 [Jf x ifs,sl Ad roots] (Ai [] Af) fun r h'=>∃l:List CS,l.Perm (AP (yR x) [])/\r=.ref 2000 0/\h'=Ai (srN roots (mC x) (l.map (kA x))) Af:=by
 have L0:x.length<=256:=(Fs h0).1;refine Bj (I9 plN) [(16,2000),(90,2001),(91,2002),(14,2003),(92,2004)] rfl BI hm rfl Tryz.func81 aa2 rfl (Nz rfl) aa2 rfl (Xi 0 (Xi 0 (Xi 0 (Xi {i:Nat // i<=x.length} (Xi (fun i=>⟨[(2,.ref 2 0),(5,.ref 16 0),(18,sl Am x),(19,vi (x.map Am).length),(20,vi i.1)],[(2,.ro (Ic x ifs)),(12,.mapU Cc (IZ (yR (x.take i.1)))),(13,.map Cc []),(14,.map FL []),(16,.cells [sl Ad roots,.mref 12,.mref 13,nzA,nzA,.mref 14,vb false,nzA,nzA,nzA])],Jr (yR (x.take i.1))⟩) (Xi (fun i=>x.length-i.1) (Yi (Xi ⟨0,Al _⟩ ?_) ?_)))))))
 .refine⟨Z5,Z5,fun j=>.inl ?_,Bn aa2⟩;show Jr [] j=.free;unfold Jr;cases (Nat.ble 100 j&&Nat.blt j 1000)<;>rfl
 intro⟨i,i1⟩;have hq:∀k,(yR (x.take k)).length<=256:=fun k=>by
  grind
 refine Xi 0 (Yi ?_ ?_)
 .intro h;have h:i<x.length:=by simp_all
  have hg:x[i]?=some x[i]:=Ge h;have PL:x.take (i+1)=x.take i++[x[i]]:=by simp_all
  refine Xi 0 (Xi (Am x[i]) (Yi (Yi Wk (by simp_all)) (Yi rfl ?_)));refine Yi (Nz rfl) (yN (Xi ⟨[(2,.ref 2 0),(5,.ref 16 0),(7,.ref 7 0),(18,sl Am x),(19,vi (x.map Am).length),(20,vi i)],[(2,.ro (Ic x ifs)),(7,.cells (Am x[i])),(12,.mapU Cc (IZ (yR (x.take i)))),(13,.map Cc []),(14,.map FL []),(16,.cells [sl Ad roots,.mref 12,.mref 13,nzA,nzA,.mref 14,vb false,nzA,nzA,nzA])],Jr (yR (x.take i))⟩ (Yi ?_ ?_)))
  .exact⟨Z6,⟨Zr,Zr,⟨rfl,H5 _ (Fi _ (hq _))⟩,Zr,Zr,Zr,Tv⟩,G0 (hq _) (Fi _ (hq _)),Bn aa2⟩
  refine Xi 0 (Yi (fun hy=>?_) (fun hy=>?_))
  .have ey:yR (x.take (i+1))=yR (x.take i):=by
    grind
   refine Xi ⟨[(2,.ref 2 0),(5,.ref 16 0),(18,sl Am x),(19,vi (x.map Am).length),(20,vi i)],[(2,.ro (Ic x ifs)),(12,.mapU Cc (IZ (yR (x.take (i+1))))),(13,.map Cc []),(14,.map FL []),(16,.cells [sl Ad roots,.mref 12,.mref 13,nzA,nzA,.mref 14,vb false,nzA,nzA,nzA])],Jr (yR (x.take (i+1)))⟩ (Yi ?_ ?_)
   .rw[ey];exact⟨Z5,⟨Zr,⟨rfl,H5 _ (Fi _ (hq _))⟩,Zr,Zr,Zr,Tv⟩,G0 (hq _) (Fi _ (hq _)),Bn aa2⟩
   refine Xi 0 (Yi (Ii i Wk) (Xi ⟨i+1,by omega⟩ ?_));exact⟨by grind,Z5,⟨Zr,⟨rfl,H5 _ (Fi _ (hq _))⟩,Zr,Zr,Zr,Tv⟩,G0 (hq _) (Fi _ (hq _)),Bn aa2⟩
  refine Xi 0 (yN (C1 (C2 (tX x[i].ver) (Xi ⟨[(2,.ref 2 0),(5,.ref 16 0),(7,.ref 7 0),(8,vi (plc x[i].ver)),(18,sl Am x),(19,vi (x.map Am).length),(20,vi i)],[(2,.ro (Ic x ifs)),(7,.cells (Am x[i])),(12,.mapU Cc (IZ (yR (x.take i)))),(13,.map Cc []),(14,.map FL []),(16,.cells [sl Ad roots,.mref 12,.mref 13,nzA,nzA,.mref 14,vb false,nzA,nzA,nzA])],Jr (yR (x.take i))⟩ (Yi ?_ ?_)))))
  .exact⟨Z7,⟨Zr,Zr,⟨rfl,H5 _ (Fi _ (hq _))⟩,Zr,Zr,Zr,Tv⟩,G0 (hq _) (Fi _ (hq _)),Bn aa2⟩
  have ey:yR (x.take (i+1))=yR (x.take i)++[x[i]]:=by
   grind
  have hyl:(yR (x.take i)).length<=256:=by
   simp_all
  have hP:∀l,Jr (yR (x.take i)) (l+100)=HI (yR (x.take i)) l:=Fi _ (hq _);refine Ax (Classical.em (x[i].path∈AP (yR (x.take i)) [])) (fun hp=>?_) (fun hp=>?_)
  .refine Ao (Ed.1 hp) (fun k hk=>?_);have hu:=iw hk;have hl:(Md (yR (x.take i)) x[i].path).length<=256:=by
    grind
   have yE:k<256:=by
    have:=(Bf.1 hk).1
    have:=HE (yR (x.take i)) []
    grind
   have hr:Jr (yR (x.take i)) (k+100)=.tok 10 (Md (yR (x.take i)) x[i].path).length:=by rw[hP,gn hk]
   refine Xi 0 ?_;refine Or.inl (Xi (.slice (.id (k+100) 10) (Md (yR (x.take i)) x[i].path)) (Yi hu ?_));refine yN (RG (e:=242) (m:=9) (es2:=[TJ x[i]]) rfl rfl rfl (fun _ h=>h) hr ⟨rfl,trivial⟩ (by show(_+1)*128<=_;omega) (by grind) (Yi (Jp ⟨AO _,AO _,AO _,AO _,AO _,AO _,AO _,AO _,AO _,AO _,AO _,AO _,AO _,AO _,AO _,AO _,Ec (show 49<10000000 by decide),Ec Wk,Ec (show 12<10000000 by decide),trivial⟩ aa2) ?_));have e9:E7 (IZ (yR (x.take i))) (.string x[i].path) (.slice (.id (k+100) 10) (Md (yR (x.take i)) x[i].path++[TJ x[i]]))=IZ (yR (x.take (i+1))):=by rw[ey];exact lL hk
   have hG:∀l,(bif Nat.beq (l+100) (k+100)then HO.tok 10 ((Md (yR (x.take i)) x[i].path).length+1)else HI (yR (x.take i)) l)=HI (yR (x.take (i+1))) l:=by rw[ey];exact oy hk
   refine Xi ⟨[(2,.ref 2 0),(5,.ref 16 0),(18,sl Am x),(19,vi (x.map Am).length),(20,vi i)],[(2,.ro (Ic x ifs)),(12,.mapU Cc (IZ (yR (x.take (i+1))))),(13,.map Cc []),(14,.map FL []),(16,.cells [sl Ad roots,.mref 12,.mref 13,nzA,nzA,.mref 14,vb false,nzA,nzA,nzA])],Jr (yR (x.take (i+1)))⟩ (Yi ?_ ?_)
   .refine⟨Z5,⟨Zr,⟨Aa (HO.mapU Cc) e9,H5 _ (Fi _ (hq _))⟩,Zr,Zr,Zr,Tv⟩,G0 (hq _) (fun l=>?_),XP (fun n=>?_)⟩
    .show(bif Nat.beq (l+100) (k+100)then HO.tok 10 ((Md (yR (x.take i)) x[i].path).length+1)else Jr (yR (x.take i)) (l+100))=_;simp_all
    .exact d4 (y:=yR (x.take i)) (show k+100<1000 by omega)
   refine Xi 0 (Yi (Ii i Wk) (Xi ⟨i+1,by omega⟩ ?_));exact⟨by grind,Z5,⟨Zr,⟨rfl,H5 _ (Fi _ (hq _))⟩,Zr,Zr,Zr,Tv⟩,G0 (hq _) (Fi _ (hq _)),Bn aa2⟩
  .have PJ:(AP (yR (x.take i)) []).length<=256:=by
    have:=HE (yR (x.take i)) []
    grind
   have hn:=iv hp;have hr:Jr (yR (x.take i)) ((AP (yR (x.take i)) []).length+100)=.free:=by
    rw[hP];unfold HI;simp_all
   refine Xi ((AP (yR (x.take i)) []).length+100) ?_;refine Or.inr (Yi hn ?_);refine yN (RF (e:=242) (m:=9) (es2:=[TJ x[i]]) rfl rfl rfl (fun _ h=>h) hr rfl ⟨rfl,trivial⟩ (by show 1*128<=_;omega) (by simp_all) ?_);refine Yi (Jp ⟨AO _,AO _,AO _,AO _,AO _,AO _,AO _,AO _,AO _,AO _,AO _,AO _,AO _,AO _,AO _,AO _,Ec (show 49<10000000 by decide),Ec (by show _+100<10000000;omega),Ec (show 12<10000000 by decide),trivial⟩ aa2) ?_;have e9:E7 (IZ (yR (x.take i))) (.string x[i].path) (.slice (.id ((AP (yR (x.take i)) []).length+100) 10) [TJ x[i]])=IZ (yR (x.take (i+1))):=by rw[ey];exact lJ hp
   have hG:∀l,(bif Nat.beq (l+100) ((AP (yR (x.take i)) []).length+100)then HO.tok 10 1 else HI (yR (x.take i)) l)=HI (yR (x.take (i+1))) l:=by rw[ey];exact ox hp
   refine Xi ⟨[(2,.ref 2 0),(5,.ref 16 0),(18,sl Am x),(19,vi (x.map Am).length),(20,vi i)],[(2,.ro (Ic x ifs)),(12,.mapU Cc (IZ (yR (x.take (i+1))))),(13,.map Cc []),(14,.map FL []),(16,.cells [sl Ad roots,.mref 12,.mref 13,nzA,nzA,.mref 14,vb false,nzA,nzA,nzA])],Jr (yR (x.take (i+1)))⟩ (Yi ?_ ?_)
   .refine⟨Z5,⟨Zr,⟨Aa (HO.mapU Cc) e9,H5 _ (Fi _ (hq _))⟩,Zr,Zr,Zr,Tv⟩,G0 (hq _) (fun l=>?_),XP (fun n=>?_)⟩
    .show(bif Nat.beq (l+100) ((AP (yR (x.take i)) []).length+100)then HO.tok 10 1 else Jr (yR (x.take i)) (l+100))=_;simp_all
    .exact d4 (y:=yR (x.take i)) (show(AP (yR (x.take i)) []).length+100<1000 by omega)
   refine Xi 0 (Yi (Ii i Wk) (Xi ⟨i+1,by omega⟩ ?_));exact⟨by grind,Z5,⟨Zr,⟨rfl,H5 _ (Fi _ (hq _))⟩,Zr,Zr,Zr,Tv⟩,G0 (hq _) (Fi _ (hq _)),Bn aa2⟩
 .intro h;have h:¬i<x.length:=by simp_all
  have et:x.take i=x:=A5 Wk;have eM:∀hh:Nat->HO,SC hh (IZ (yR (x.take i)))=(AP (yR x) []).map (kC x):=fun hh=>by
   rw[et];unfold SC IZ;rw[BX];refine CU fun j=>?_;rw[BK,BK,List.getElem?_zipIdx];cases (AP (yR x) [])[j]? with
   |none=>rfl
   |some q=>show some (Value.string q,AV.slice .none (Md (yR x) q))=_;rw[dt];rfl
  refine Xi ⟨[(2,.ref 2 0),(5,.ref 16 0)],[(2,.ro (Ic x ifs)),(12,.mapU Cc (IZ (yR (x.take i)))),(13,.map Cc []),(14,.map FL []),(16,.cells [sl Ad roots,.mref 12,.mref 13,nzA,nzA,.mref 14,vb false,nzA,nzA,nzA])],Jr (yR (x.take i))⟩ (Yi ?_ ?_)
  .exact⟨Z2,⟨Zr,⟨rfl,H5 _ (Fi _ (hq _))⟩,Zr,Zr,Zr,Tv⟩,G0 (hq _) (Fi _ (hq _)),Bn aa2⟩
  refine Xi 0 (Xi {p:List CS×List CS×Option (Value×AV) // (p.1++p.2.1).Perm (AP (yR x) [])} (Xi (fun p=>⟨[(2,.ref 2 0),(5,.ref 16 0),(56,.ref 56 0)],[(2,.ro (Ic x ifs)),(12,.rom Cc ((AP (yR x) []).map (kC x))),(13,.map Cc (p.1.1.map (kA x))),(14,.map FL []),(16,.cells [sl Ad roots,.mref 12,.mref 13,.slice (.id 90 6) [],.slice (.id 91 1) [],.mref 14,vb false,.slice (.id 93 10) [],.slice (.id 94 4) [],nzA]),(56,.iter ((AP (yR x) []).map (kC x)) (p.1.2.1.map (kC x)) p.1.2.2),(90,.tok 6 0),(91,.tok 1 0),(93,.tok 10 0),(94,.tok 4 0)],Af⟩) (Xi (fun p=>p.1.2.1.length) (Yi (Xi ⟨([],AP (yR x) [],none),.refl _⟩ ?_) ?_))))
  .refine⟨Z3,⟨Zr,⟨Aa (HO.rom Cc) (eM _),rfl⟩,Zr,Zr,Zr,⟨?_,rfl⟩,Zr,Zr,Zr,Zr,Tv⟩,Fh,XP (fun n=>?_)⟩
   .show HO.iter (SC _ (IZ (yR (x.take i)))) (SC _ (IZ (yR (x.take i)))) none=_;rw[eM]
   .exact fe (yR (x.take i)) n
  intro⟨⟨done,rem,Ef⟩,r1⟩;refine Xi 0 (Yi ?_ ?_)
  .intro hr;have hr:rem=[]:=FP.1 hr;subst hr;rw[Eg]at r1;refine cU [(5,.ref 16 0)] [(14,.map FL []),(16,.cells [sl Ad roots,.cmap Cc (mC x),.cmap Cc (done.map (kA x)),.slice (.id 90 6) [],.slice (.id 91 1) [],.mref 14,vb false,.slice (.id 93 10) [],.slice (.id 94 4) [],.msl 92 0]),(90,.tok 6 0),(91,.tok 1 0),(92,.arr 1 []),(93,.tok 10 0),(94,.tok 4 0)] Z1 Z7 (Xi 0 ?_);exact C2 (.refl _) (Xi done (Yi r1 (Yi rfl rfl)))
  .intro kv Ql hp;refine Ao (qR hp) (fun t hp=>Ao hp (fun r hp=>?_));have e1:=hp.1;have e2:=hp.2.1;subst e1;subst e2;have hp:=hp.2.2;refine cU [(2,.ref 2 0),(5,.ref 16 0),(56,.ref 56 0)] [(2,.ro (Ic x ifs)),(12,.rom Cc ((AP (yR x) []).map (kC x))),(13,.map Cc (done.map (kA x))),(14,.map FL []),(16,.cells [sl Ad roots,.mref 12,.mref 13,.slice (.id 90 6) [],.slice (.id 91 1) [],.mref 14,vb false,.slice (.id 93 10) [],.slice (.id 94 4) [],nzA]),(56,.iter ((AP (yR x) []).map (kC x)) (r.map (kC x)) (some (kC x t))),(90,.tok 6 0),(91,.tok 1 0),(93,.tok 10 0),(94,.tok 4 0)] Z3 Z10 (Xi 0 (cU [(2,.ref 2 0),(5,.ref 16 0),(10,vs t),(56,.ref 56 0)] [(2,.ro (Ic x ifs)),(12,.rom Cc ((AP (yR x) []).map (kC x))),(13,.map Cc (done.map (kA x))),(14,.map FL []),(16,.cells [sl Ad roots,.mref 12,.mref 13,.slice (.id 90 6) [],.slice (.id 91 1) [],.mref 14,vb false,.slice (.id 93 10) [],.slice (.id 94 4) [],nzA]),(56,.iter ((AP (yR x) []).map (kC x)) (r.map (kC x)) (some (kC x t))),(90,.tok 6 0),(91,.tok 1 0),(93,.tok 10 0),(94,.tok 4 0)] Z4 Z10 (Xi 0 ?_)));have Vu:(done++rem).Nodup:=r1.nodup_iff.2 (E5 _ [] Kx);have htn:t∉done:=fun hc=>(List.nodup_append.1 Vu).2.2 t hc t (hp.mem_iff.2 (Ag ..)) rfl;have em:E7 (done.map (kA x)) (.string t) (sl Ab (A9 x t))=(done++[t]).map (kA x):=by
    grind [IP]
   have fu:((done++[t])++r).Perm (AP (yR x) []):=by
    grind [List.Perm.append_left,List.Perm.trans,List.Perm.symm]
   refine yN (C2 (xi x ifs t (c84 x ifs hx)) (Yi aa2 (Xi ⟨(done++[t],r,some (kC x t)),fu⟩ ?_)));exact⟨by show r.length<rem.length;rw[hp.length_eq,DZ];omega,Z3,⟨Zr,Zr,⟨Aa (HO.map Cc) em,rfl⟩,Zr,Zr,Zr,Zr,Zr,Zr,Zr,Tv⟩,Fh,Bn aa2⟩
end Go.Eng
namespace Go.Eng
open Go.Proofs Go.Proofs.Tryz
variable {i:Nat}(x:List Rl)(ifs:C0)(roots:List Rq)(a:An)
theorem bX{x:List Rl}(h0:At x=0){p:CS}(h:p∉AP (yR x) []):A9 x p=[]:=by
 rw[Wa h0]
 have:x.filter (Jb p)=[]:=by
  grind [List.filter_eq_nil_iff,Jb,HF]
 rw[this];rfl
theorem ue{x:List Rl}{roots:List Rq}(hx:∀r∈x,Fk r)(hr:∀q∈roots,IE q)(h0:At x=0)(h1:AH roots=0){l:List CS}(hl:l.Perm (AP (yR x) [])):wJ x roots (mC x) (l.map (kA x)) where
 hx:=h0
 hr:=h1
 fx:=hx
 fr:=hr
 c1:=zf x
 c2:=zg x
 c3:=zh x
 av p:=by
  by_cases hp:p∈l
  .exact⟨sl Ab (A9 x p),fun a ha=>(da.1 ha).2,fun hn=>(hn _ (da.2 ⟨hp,rfl⟩)).elim,fun h=>tM p (A9 x p) (Ob x p)⟩
  .refine⟨nzA,fun a ha=>(hp (da.1 ha).1).elim,fun _=>rfl,fun h=>?_⟩;have e:=bX h0 (fun hc=>hp (hl.mem_iff.2 hc));have hc:=tM p (A9 x p) (Ob x p);rw[e]at hc⊢;exact Mk.args hc ⟨.refl _,.nil,trivial⟩
abbrev rh:M5:=⟨[2],[],[],[],[],[],[],[(50,(9,3,95,3))],[(44,0)],[(100016,1009)],[3,4,5,6,7,8,9,10,11,14,15,16]⟩
abbrev an0:An:=⟨false,[],[],[]⟩
def EE:An:=if FR x roots=true/\(Fe x roots).ss.full=false then kw x roots else an0
def LN:Int:=if FR x roots=true then if(Fe x roots).ss.full=true then 7 else 0 else 1
abbrev dL:AV:=.tup [.agg (Gt (EE x roots)),vi (LN x roots)]
theorem Cj.an0{v:AV}:Cj (.tup [.agg [vb false,nzA,nzA,nzA],v]) (.tup [.agg (Gt an0),v]):=
 Cj.tup ⟨Cj.agg ⟨.refl _,.nil,.nil,.nil,trivial⟩,.refl _,trivial⟩
theorem Ve{x:List Rl}{roots:List Rq}(hx:∀r∈x,Fk r)(hr:∀q∈roots,IE q)(h0:At x=0)(h1:AH roots=0){L:List CS}(hl:L.Perm (AP (yR x) [])){o:Kz}(ho:Fe x roots=o) :
  Bg Tryz.prog 82 [.ref 1000 0] (Ai (Ju roots (mC x) (L.map (kA x)) z8 [] []) Af) (bO roots (mC x) (L.map (kA x)) o):=by
 rw[<-ho];exact AeC (ue hx hr h0 h1 hl) (x.length+1) (.nil x) (I5.nil roots) ⟨⟨rfl,Al _⟩,Kx⟩ rfl (Nat.lt_succ_of_le (Fb _ _)) rfl
theorem bx{x:List Rl}{roots:List Rq}(h:FR x roots=true):At x=0/\AH roots=0:=by
 grind [FR]
theorem rA(hx:∀r∈x,Fk r)(hr:∀q∈roots,IE q)(hv:FR x roots=false):PC 38 [Jf x ifs,sl Ad roots] (.tup [.agg (Gt an0),vi 1]):=by
 have PI:=s28 x ifs roots hx hr;rw[hv]at PI;refine Ps rh func38 rfl (Nz rfl) (Yi ?_ ?_)
 .exact Nz rfl
 refine C1 (C2 PI (Yi ?_ ?_))
 .omega
 refine Yi ?_ ?_
 .exact Nz rfl
 exact Cj.an0
theorem n8(hx:∀r∈x,Fk r)(hr:∀q∈roots,IE q)(hv:FR x roots=true)(h0:At x=0)(h1:AH roots=0)(k:Nat)(infs:List Nf)(drv:List (List Tm))(dec:List Cd)(st:List (List Sk))(ho:Fe x roots=⟨k,false,⟨infs,drv,true⟩,dec,st⟩):PC 38 [Jf x ifs,sl Ad roots] (.tup [.agg (Gt an0),vi 7]):=by
 have PI:=s28 x ifs roots hx hr;rw[hv]at PI;refine Ps rh func38 rfl (Nz rfl) (Yi ?_ ?_)
 .exact Nz rfl
 refine C1 (C2 PI (cU [(1,sl Ad roots),(2,.ref 2 0),(4,.ref 4 0)] [(2,.ro (Ic x ifs)),(4,.cells [vb false,nzA,nzA,nzA])] Z3 Z2 (Yi ?_ ?_)))
 .exact Nz rfl
 refine Xi (.gen [] 5) (Yi rfl ((s29 x ifs roots hx h0).imp ?_));intro v g q;refine Ao q (fun L q=>?_);have q1:=q.2.1;have q2:=q.2.2;have qp:=q.1;subst q1;subst q2;refine cU [(4,.ref 4 0),(6,.ref 11900 0)] [(4,.cells [vb false,nzA,nzA,nzA]),(11900,.cells [sl Ad roots,.cmap Cc (mC x),.cmap Cc (L.map (kA x)),.slice (.id 11901 6) [],.slice (.id 11902 1) [],.mref 11903,vb false,.slice .none [],.slice .none [],.msl 11904 0]),(11901,.tok 6 0),(11902,.tok 1 0),(11903,.map FL []),(11904,.arr 1 [])] Z2 Z6 (Xi (.gen [(11900,1000),(11901,1001),(11902,1002),(11903,1003),(11904,1004)] 1) (Yi rfl ((Ve hx hr h0 h1 qp ho).imp ?_)));intro v g q;have q1:=q.1;have q2:=q.2;subst q1;subst q2;refine cU [(4,.ref 4 0),(6,.ref 11900 0),(7,vi (k:Nat)),(8,vb false)] [(4,.cells [vb false,nzA,nzA,nzA]),(11900,.cells [sl Ad roots,.cmap Cc (mC x),.cmap Cc (L.map (kA x)),.slice (.id 11901 6) (infs.map AG),.slice (.id 11902 1) (drv.map As),.mref 11903,vb true,sl AE dec,sl Ae (AA dec),.msl 12200 st.length]),(11901,.tok 6 infs.length),(11902,.tok 1 drv.length),(11903,.map FL (FO 0 infs)),(12200,.arr 1 (st.map Ba))] Z4 Z6 (Yi (fun _=>?_) (fun h=>by cases h));refine cU [(4,.ref 4 0)] [(4,.cells [vb false,nzA,nzA,nzA])] Z1 Z1 (Yi ?_ ?_)
 .exact Nz rfl
 refine Yi ?_ ?_
 .exact Nz rfl
 exact Cj.an0
theorem vH(hx:∀r∈x,Fk r)(hr:∀q∈roots,IE q)(hv:FR x roots=true)(h0:At x=0)(h1:AH roots=0)(k:Nat)(infs:List Nf)(drv:List (List Tm))(dec:List Cd)(st:List (List Sk))(ho:Fe x roots=⟨k,false,⟨infs,drv,false⟩,dec,st⟩)(hk:k<infs.length)(hl:infs.length<=65536):PC 38 [Jf x ifs,sl Ad roots] (.tup [.agg (Gt ⟨false,[],infs.take (k+1),[]⟩),vi 0]):=by
 have PI:=s28 x ifs roots hx hr;rw[hv]at PI;refine Ps rh func38 rfl (Nz rfl) (Yi ?_ ?_)
 .exact Nz rfl
 refine C1 (C2 PI (cU [(1,sl Ad roots),(2,.ref 2 0),(4,.ref 4 0)] [(2,.ro (Ic x ifs)),(4,.cells [vb false,nzA,nzA,nzA])] Z3 Z2 (Yi ?_ ?_)))
 .exact Nz rfl
 refine Xi (.gen [] 5) (Yi rfl ((s29 x ifs roots hx h0).imp ?_));intro v g q;refine Ao q (fun L q=>?_);have q1:=q.2.1;have q2:=q.2.2;have qp:=q.1;subst q1;subst q2;refine cU [(4,.ref 4 0),(6,.ref 11900 0)] [(4,.cells [vb false,nzA,nzA,nzA]),(11900,.cells [sl Ad roots,.cmap Cc (mC x),.cmap Cc (L.map (kA x)),.slice (.id 11901 6) [],.slice (.id 11902 1) [],.mref 11903,vb false,.slice .none [],.slice .none [],.msl 11904 0]),(11901,.tok 6 0),(11902,.tok 1 0),(11903,.map FL []),(11904,.arr 1 [])] Z2 Z6 (Xi (.gen [(11900,1000),(11901,1001),(11902,1002),(11903,1003),(11904,1004)] 1) (Yi rfl ((Ve hx hr h0 h1 qp ho).imp ?_)));intro v g q;have q1:=q.1;have q2:=q.2;subst q1;subst q2;refine cU [(4,.ref 4 0),(6,.ref 11900 0),(7,vi (k:Nat)),(8,vb false)] [(4,.cells [vb false,nzA,nzA,nzA]),(11900,.cells [sl Ad roots,.cmap Cc (mC x),.cmap Cc (L.map (kA x)),.slice (.id 11901 6) (infs.map AG),.slice (.id 11902 1) (drv.map As),.mref 11903,vb false,sl AE dec,sl Ae (AA dec),.msl 12200 st.length]),(11901,.tok 6 infs.length),(11902,.tok 1 drv.length),(11903,.map FL (FO 0 infs)),(12200,.arr 1 (st.map Ba))] Z4 Z6 (Yi (fun h=>by cases h) (fun _=>?_));refine cU [(4,.ref 4 0),(6,.ref 11900 0),(7,vi (k:Nat)),(8,vb false)] [(4,.cells [vb false,nzA,nzA,nzA]),(11900,.cells [sl Ad roots,.cmap Cc (mC x),.cmap Cc (L.map (kA x)),.slice (.id 11901 6) (infs.map AG),.slice (.id 11902 1) (drv.map As),.mref 11903,vb false,sl AE dec,sl Ae (AA dec),.msl 12200 st.length]),(11901,.tok 6 infs.length),(11902,.tok 1 drv.length),(11903,.map FL (FO 0 infs)),(12200,.arr 1 (st.map Ba))] Z4 Z6 (cU [(4,.ref 4 0),(6,.ref 11900 0),(7,vi (k:Nat))] [(4,.cells [vb false,nzA,nzA,nzA]),(11900,.cells [sl Ad roots,.cmap Cc (mC x),.cmap Cc (L.map (kA x)),.slice (.id 11901 6) (infs.map AG),.slice (.id 11902 1) (drv.map As),.mref 11903,vb false,sl AE dec,sl Ae (AA dec),.msl 12200 st.length]),(11901,.tok 6 infs.length),(11902,.tok 1 drv.length),(11903,.map FL (FO 0 infs)),(12200,.arr 1 (st.map Ba))] Z3 Z6 (Yi (by grind [Au]) ?_));have el:(infs.map AG).length=infs.length:=Lm ..;refine Yi ⟨Cb _,by grind,by grind⟩ ?_;refine Yi (fun cs hcs=>by obtain⟨i,_,rfl⟩:=Ar.1 hcs;rfl) (Yi ?_ ?_)
 .exact Nz rfl
 refine Yi ?_ ?_
 .exact Nz rfl
 have et:((infs.map AG).take ((k:Int)+1).toNat).drop (0:Int).toNat=(infs.take (k+1)).map AG:=by
  simp_all
 exact Cj.tup ⟨Cj.agg ⟨.refl _,.nil,.of_eq (show AV.slice .none (((infs.map AG).take ((k:Int)+1).toNat).drop (0:Int).toNat)=_ by rw[et]),.nil,trivial⟩,.refl _,trivial⟩
theorem WF(y:Sl):∀l:List Sl,(VK y l).Perm (y::l)
 | []=>.refl _
 |z::l=>by
  unfold VK;split
  .simp_all
  .exact((WF y l).cons z).trans (List.Perm.swap y z l)
theorem Vj:∀l:List Sl,(EX l).Perm l
 | []=>.refl _
 |y::l=>(WF y _).trans ((Vj l).cons y)
theorem ZB{b:Nat}:∀{st:List (List Sk)},(∀s∈st,s.length<=b)->st.flatten.length<=b*st.length
 | [],_=>by simp
 |s::st,h=>by
  rw[Ck,AD,DZ,Nat.mul_succ]
  have:=h s (Ag ..)
  have:=ZB (st:=st) fun t ht=>h t (Aj _ ht)
  omega
theorem oe{st:List (List Sk)}(h:st.length<=256)(hs:∀s∈st,s.length<=256)(i:Nat):((st.take i).flatten).length<=65536:=by
 have h1:=ZB (b:=256) (st:=st.take i) fun s iI=>hs s (Ew iI)
 grind
theorem rC(hx:∀r∈x,Fk r)(hr:∀q∈roots,IE q)(hv:FR x roots=true)(h0:At x=0)(h1:AH roots=0)(k:Nat)(infs:List Nf)(drv:List (List Tm))(dec:List Cd)(st:List (List Sk))(ho:Fe x roots=⟨k,true,⟨infs,drv,false⟩,dec,st⟩)(hd:dec.length<=256)(hn:((AA dec).map (·.path)).Nodup)(Jt:st.length<=256)(hsk:∀s∈st,s.length<=256):PC 38 [Jf x ifs,sl Ad roots] (.tup [.agg (Gt ⟨true,EX (AA dec),infs,st.flatten⟩),vi 0]):=by
 have PI:=s28 x ifs roots hx hr;rw[hv]at PI;refine Ps rh func38 rfl (Nz rfl) (Yi ?_ ?_)
 .exact Nz rfl
 refine C1 (C2 PI (cU [(1,sl Ad roots),(2,.ref 2 0),(4,.ref 4 0)] [(2,.ro (Ic x ifs)),(4,.cells [vb false,nzA,nzA,nzA])] Z3 Z2 (Yi ?_ ?_)))
 .exact Nz rfl
 refine Xi (.gen [] 5) (Yi rfl ((s29 x ifs roots hx h0).imp ?_));intro v g q;refine Ao q (fun L q=>?_);have q1:=q.2.1;have q2:=q.2.2;have qp:=q.1;subst q1;subst q2;refine cU [(4,.ref 4 0),(6,.ref 11900 0)] [(4,.cells [vb false,nzA,nzA,nzA]),(11900,.cells [sl Ad roots,.cmap Cc (mC x),.cmap Cc (L.map (kA x)),.slice (.id 11901 6) [],.slice (.id 11902 1) [],.mref 11903,vb false,.slice .none [],.slice .none [],.msl 11904 0]),(11901,.tok 6 0),(11902,.tok 1 0),(11903,.map FL []),(11904,.arr 1 [])] Z2 Z6 (Xi (.gen [(11900,1000),(11901,1001),(11902,1002),(11903,1003),(11904,1004)] 1) (Yi rfl ((Ve hx hr h0 h1 qp ho).imp ?_)));intro v g q;have q1:=q.1;have q2:=q.2;subst q1;subst q2;refine cU [(4,.ref 4 0),(6,.ref 11900 0),(7,vi (k:Nat)),(8,vb true)] [(4,.cells [vb false,nzA,nzA,nzA]),(11900,.cells [sl Ad roots,.cmap Cc (mC x),.cmap Cc (L.map (kA x)),.slice (.id 11901 6) (infs.map AG),.slice (.id 11902 1) (drv.map As),.mref 11903,vb false,sl AE dec,sl Ae (AA dec),.msl 12200 st.length]),(11901,.tok 6 infs.length),(11902,.tok 1 drv.length),(11903,.map FL (FO 0 infs)),(12200,.arr 1 (st.map Ba))] Z4 Z6 (Yi (fun h=>by cases h) (fun _=>?_));refine cU [(4,.ref 4 0),(6,.ref 11900 0),(8,vb true)] [(4,.cells [vb false,nzA,nzA,nzA]),(11900,.cells [sl Ad roots,.cmap Cc (mC x),.cmap Cc (L.map (kA x)),.slice (.id 11901 6) (infs.map AG),.slice (.id 11902 1) (drv.map As),.mref 11903,vb false,sl AE dec,sl Ae (AA dec),.msl 12200 st.length]),(11901,.tok 6 infs.length),(11902,.tok 1 drv.length),(11903,.map FL (FO 0 infs)),(12200,.arr 1 (st.map Ba))] Z3 Z6 (cU [(4,.ref 4 0),(6,.ref 11900 0)] [(4,.cells [vb false,nzA,nzA,nzA]),(11900,.cells [sl Ad roots,.cmap Cc (mC x),.cmap Cc (L.map (kA x)),.slice (.id 11901 6) (infs.map AG),.slice (.id 11902 1) (drv.map As),.mref 11903,vb false,sl AE dec,sl Ae (AA dec),.msl 12200 st.length]),(11901,.tok 6 infs.length),(11902,.tok 1 drv.length),(11903,.map FL (FO 0 infs)),(12200,.arr 1 (st.map Ba))] Z2 Z6 ?_)
 have qr:(AA dec).length<=256:=by simp_all
 have fq:BO (AA dec):=AS qr aa1;refine Xi (AA dec).length (Xi 4 (Xi ((AA dec).map Ae) (Yi rfl (Yi (AeE (AA dec) fq) (Yi ?_ ?_)))))
 .exact Nz rfl
 refine Yi aa2 (cU [(4,.ref 4 0),(6,.ref 11900 0),(9,.ref 9 0)] [(4,.cells [vb false,nzA,nzA,nzA]),(9,.cells [vb true,.msl 14400 (AA dec).length,.slice (.id 11901 6) (infs.map AG),nzA]),(11900,.cells [sl Ad roots,.cmap Cc (mC x),.cmap Cc (L.map (kA x)),.slice (.id 11901 6) (infs.map AG),.slice (.id 11902 1) (drv.map As),.mref 11903,vb false,sl AE dec,sl Ae (AA dec),.msl 12200 st.length]),(11901,.tok 6 infs.length),(11902,.tok 1 drv.length),(11903,.map FL (FO 0 infs)),(12200,.arr 1 (st.map Ba)),(14400,.arr 4 ((AA dec).map Ae))] Z3 Z8 (Xi (.gen [(14400,1000)] 0) (Yi rfl ((s47 84 Tryz.closure84 (enters_of func84 aa2 rfl) (AA dec) fq hn).imp ?_))));intro v g q;have q1:=q.1;have q2:=q.2;subst q1;subst q2;refine cU [(4,.ref 4 0),(6,.ref 11900 0),(9,.ref 9 0)] [(4,.cells [vb false,nzA,nzA,nzA]),(9,.cells [vb true,.msl 14400 (AA dec).length,.slice (.id 11901 6) (infs.map AG),.slice (.id 95 3) []]),(95,.tok 3 0),(11900,.cells [sl Ad roots,.cmap Cc (mC x),.cmap Cc (L.map (kA x)),.slice (.id 11901 6) (infs.map AG),.slice (.id 11902 1) (drv.map As),.mref 11903,vb false,sl AE dec,sl Ae (AA dec),.msl 12200 st.length]),(11901,.tok 6 infs.length),(11902,.tok 1 drv.length),(11903,.map FL (FO 0 infs)),(12200,.arr 1 (st.map Ba)),(14400,.arr 4 ((EX (AA dec)).map Ae))] Z3 Z9 (Xi {i:Nat // i<=st.length} (Xi (fun i=>⟨[(4,.ref 4 0),(6,.ref 11900 0),(9,.ref 9 0),(56,.msl 12200 st.length),(57,vi (st.length:Nat)),(58,vi i.1)],[(4,.cells [vb false,nzA,nzA,nzA]),(9,.cells [vb true,.msl 14400 (AA dec).length,.slice (.id 11901 6) (infs.map AG),.slice (.id 95 3) ((st.take i.1).flatten.map AB)]),(95,.tok 3 ((st.take i.1).flatten.map AB).length),(11900,.cells [sl Ad roots,.cmap Cc (mC x),.cmap Cc (L.map (kA x)),.slice (.id 11901 6) (infs.map AG),.slice (.id 11902 1) (drv.map As),.mref 11903,vb false,sl AE dec,sl Ae (AA dec),.msl 12200 st.length]),(11901,.tok 6 infs.length),(11902,.tok 1 drv.length),(11903,.map FL (FO 0 infs)),(12200,.arr 1 (st.map Ba)),(14400,.arr 4 ((EX (AA dec)).map Ae))],Af⟩) (Xi (fun i=>st.length-i.1) (Yi (Xi ⟨0,Al _⟩ ?_) ?_))))
 .exact⟨Z6,Z9,Fh,Tv⟩
 intro⟨i,i1⟩;refine Yi ?_ ?_
 .intro h;have h:(i:Int)<(st.length:Nat):=h;have h:i<st.length:=by omega
  have hg:st[i]?=some st[i]:=Ge h;have PL:st.take (i+1)=st.take i++[st[i]]:=by simp_all
  refine Yi (Yi Wk Wk) (Yi (by simp_all) (Xi (Ba st[i]) (Yi (by simp_all) ?_)));refine cU [(4,.ref 4 0),(6,.ref 11900 0),(9,.ref 9 0),(11,sl AB st[i]),(56,.msl 12200 st.length),(57,vi (st.length:Nat)),(58,vi i)] [(4,.cells [vb false,nzA,nzA,nzA]),(9,.cells [vb true,.msl 14400 (AA dec).length,.slice (.id 11901 6) (infs.map AG),.slice (.id 95 3) ((st.take i).flatten.map AB)]),(95,.tok 3 ((st.take i).flatten.map AB).length),(11900,.cells [sl Ad roots,.cmap Cc (mC x),.cmap Cc (L.map (kA x)),.slice (.id 11901 6) (infs.map AG),.slice (.id 11902 1) (drv.map As),.mref 11903,vb false,sl AE dec,sl Ae (AA dec),.msl 12200 st.length]),(11901,.tok 6 infs.length),(11902,.tok 1 drv.length),(11903,.map FL (FO 0 infs)),(12200,.arr 1 (st.map Ba)),(14400,.arr 4 ((EX (AA dec)).map Ae))] Z7 Z9 ?_
  have hfl:((st.take i).flatten).length<=65536/\st[i].length<=256:=⟨oe Jt hsk i,hsk _ (Ah _)⟩;have CY:Bh 3 (st[i].map AB)/\((st.take i).flatten.map AB).length=((st.take i).flatten.map AB).length/\(((st.take i).flatten.map AB).length+(st[i].map AB).length)*32<=140737488355328/\((st.take i).flatten.map AB).length+(st[i].map AB).length<=9223372036854775807:=by
   grind [Cm]
  refine Yi CY (Yi ?_ ?_)
  .exact Nz rfl
  have ef:((st.take i).flatten.map AB)++st[i].map AB=((st.take (i+1)).flatten.map AB):=by grind
  have en:((st.take i).flatten.map AB).length+(st[i].map AB).length=((st.take (i+1)).flatten.map AB).length:=by grind
  refine cU [(4,.ref 4 0),(6,.ref 11900 0),(9,.ref 9 0),(56,.msl 12200 st.length),(57,vi (st.length:Nat)),(58,vi i)] [(4,.cells [vb false,nzA,nzA,nzA]),(9,.cells [vb true,.msl 14400 (AA dec).length,.slice (.id 11901 6) (infs.map AG),.slice (.id 95 3) ((st.take (i+1)).flatten.map AB)]),(95,.tok 3 ((st.take (i+1)).flatten.map AB).length),(11900,.cells [sl Ad roots,.cmap Cc (mC x),.cmap Cc (L.map (kA x)),.slice (.id 11901 6) (infs.map AG),.slice (.id 11902 1) (drv.map As),.mref 11903,vb false,sl AE dec,sl Ae (AA dec),.msl 12200 st.length]),(11901,.tok 6 infs.length),(11902,.tok 1 drv.length),(11903,.map FL (FO 0 infs)),(12200,.arr 1 (st.map Ba)),(14400,.arr 4 ((EX (AA dec)).map Ae))] Z6 ⟨Zr,⟨Aa (fun z=>HO.cells [vb true,.msl 14400 (AA dec).length,.slice (.id 11901 6) (infs.map AG),.slice (.id 95 3) z]) ef,rfl⟩,⟨Aa (HO.tok 3) en,rfl⟩,Zr,Zr,Zr,Zr,Zr,Zr,Tv⟩ (Yi (Ii i Wk) (Xi ⟨i+1,by omega⟩ ?_));exact⟨by grind,Z6,Z9,Fh,Tv⟩
 .intro h;have h:¬(i:Int)<(st.length:Nat):=h;have et:st.take i=st:=A5 Wk;have Uh:(AA dec).length=((EX (AA dec)).map Ae).length:=(Vj (AA dec)).length_eq.symm.trans (Lm ..).symm;refine Yi Uh (cU [(4,.ref 4 0),(9,.ref 9 0)] [(4,.cells [vb false,nzA,nzA,nzA]),(9,.cells [vb true,.slice (.id 14400 4) ((EX (AA dec)).map Ae),.slice (.id 11901 6) (infs.map AG),.slice (.id 95 3) (st.flatten.map AB)]),(95,.tok 3 (st.flatten.map AB).length),(11901,.tok 6 infs.length),(14400,.tok 4 ((EX (AA dec)).map Ae).length)] Z2 ⟨Zr,⟨Aa (fun z:List (List Sk)=>HO.cells [vb true,.slice (.id 14400 4) ((EX (AA dec)).map Ae),.slice (.id 11901 6) (infs.map AG),.slice (.id 95 3) (z.flatten.map AB)]) et,rfl⟩,⟨Aa (fun z:List (List Sk)=>HO.tok 3 (z.flatten.map AB).length) et,rfl⟩,Zr,Zr,Tv⟩ (Yi ?_ ?_))
  .exact Nz rfl
  refine Yi ?_ ?_
  .grind
  refine Yi ?_ ?_
  .exact Nz rfl
  exact .refl _
theorem Rn{s:SS}{b:List Cd}{p:CS}{needs:List Nd}:∀{cs:List Cd} {sk:List Sk},Gz s b p needs cs sk->sk.length<=cs.length
 | [],sk,h=>by
  have h:sk=[]:=h;simp_all
 |c::cs,sk,h=>by
  have h:if(needs.all fun n=>has n.rq.set c.place)=true then _ else _:=h
  by_cases hc:(needs.all fun n=>has n.rq.set c.place)=true
  .rw[A3 hc]at h;obtain⟨k,rest,rfl,_,h3⟩:=h
   have:=Rn h3
   simp_all
  .rw[AN hc]at h
   have:=Rn h
   grind
theorem Wl{x:List Rl}{roots:List Rq}{s:SS}:∀{t:List Cd} {sl:List (List Sk)} {b:List Cd},Ku x roots s b t sl->sl.length=t.length/\∀k∈sl,k.length<=x.length
 | [],[],_,_=>⟨rfl,fun _ h=>by cases h⟩
 | [],_::_,_,h=>h.elim
 |_::_,[],_,h=>h.elim
 |c::t,sk::sl,b,⟨⟨p,needs,pre,post,hs⟩,h⟩=>by
  obtain⟨h1,h2⟩:=Wl h;refine⟨by simp_all,fun k hk=>?_⟩;rcases AR.1 hk with rfl | hk
  .have e1:=Rn hs.skips;have e2:=Wh x p;rw[hs.cands,AD]at e2;omega
  simp_all
theorem s21(hx:∀r∈x,Fk r)(hr:∀q∈roots,IE q):PC 38 [Jf x ifs,sl Ad roots] (dL x roots):=by
 unfold dL EE LN;cases hv:FR x roots with
 |false=>grind [rA]
 |true=>
  obtain⟨h0,h1⟩:=bx hv;have hR:=W8 h0 h1;have L0:=(Fs h0).1;have hA:kw x roots=if(Fe x roots).found=true then⟨true,EX (AA (Fe x roots).dec),(Fe x roots).ss.infs,(Fe x roots).stack.flatten⟩else⟨false,[],(Fe x roots).ss.infs.take ((Fe x roots).res+1),[]⟩:=rfl
  rw[hA];generalize ho:Fe x roots=o at hR⊢;obtain⟨k,b,⟨infs,drv,full⟩,dec,st⟩:=o;have hl:infs.length<=65536:=hR.der.len;have hdl:drv.length=infs.length:=hR.der.dlen;cases b with
  |false=>
   cases full with
   |true=>grind [n8]
   |false=>
    have hk:k<drv.length:=((hR.no rfl).2.2 rfl).1
    grind [vH]
  |true=>
   obtain⟨hf,t,sl,e1,e2,hC,_⟩:=hR.yes rfl;subst hf;have e1:dec=[]++t:=e1;have e2:st=[]++sl:=e2;rw[GD]at e1 e2;subst e1;subst e2;have hD:DE x ([]++dec):=(Ku.ok (.nil x) (.nil roots) hC).1;rw[GD]at hD;have hdx:=Zk hD
   grind [Wl,Lw,rC,DE.nodup]
def dJ:Int:=if LN x roots≠0 then LN x roots else if(EE x roots).found=true then 0 else 17
def rF:List Sl:=if dJ x roots=0 then(EE x roots).sel else []
abbrev AdP:M5:=(pC [2] [])
theorem vG(e:Int)(h:PC 38 [Jf x ifs,sl Ad roots] (.tup [.agg (Gt a),vi e])) :
  PC 19 [Jf x ifs,sl Ad roots] (.tup [if e≠0 then sl Ae []else if a.found=true then sl Ae a.sel else sl Ae [],vi (if e≠0 then e else if a.found=true then 0 else 17)]):=by
 refine Ps AdP func19 rfl (Nz rfl) (Yi ?_ ?_)
 .exact Nz rfl
 refine C1 (C2 h (Yi ?_ ?_))
 .exact Nz rfl
 refine Yi (fun he=>?_) (fun he=>?_)
 .have e1:AV.tup [sl Ae [],vi e]=.tup [if e≠0 then sl Ae []else if a.found=true then sl Ae a.sel else sl Ae [],vi (if e≠0 then e else if a.found=true then 0 else 17)]:=by simp_all
  exact(show Cj (.tup [nzA,vi e]) (.tup [sl Ae ([]:List Sl),vi e])from Cj.tup ⟨.nil,.refl _,trivial⟩).trans (.of_eq e1)
 .have he:e=0:=B2.1 he;have EG:¬e≠0:=fun h=>h he;refine Yi (fun hb=>?_) (fun hb=>?_)
  .have e1:AV.tup [sl Ae a.sel,vi 0]=.tup [if e≠0 then sl Ae []else if a.found=true then sl Ae a.sel else sl Ae [],vi (if e≠0 then e else if a.found=true then 0 else 17)]:=by simp_all
   exact .of_eq e1
  .have hb:¬a.found=true:=by simp_all
   have e1:AV.tup [sl Ae [],vi 17]=.tup [if e≠0 then sl Ae []else if a.found=true then sl Ae a.sel else sl Ae [],vi (if e≠0 then e else if a.found=true then 0 else 17)]:=by simp_all
   exact(show Cj (.tup [nzA,vi 17]) (.tup [sl Ae ([]:List Sl),vi 17])from Cj.tup ⟨.nil,.refl _,trivial⟩).trans (.of_eq e1)
theorem s16(hx:∀r∈x,Fk r)(hr:∀q∈roots,IE q):PC 19 [Jf x ifs,sl Ad roots] (.tup [sl Ae (rF x roots),vi (dJ x roots)]):=by
 grind [vG,s21,rF,dJ]
theorem eJ{x:List Rl}{s:List Sl}(h:i<s.length):(s.take (i+1)).map (Ja x)=(s.take i).map (Ja x)++[Ja x s[i]]:=by rw[EQ h,Bk];rfl
theorem gc{α:Type}{s:List α}(h:i<s.length):s.take (i+1)=s.take i++[s[i]]:=EQ h
theorem Aa5(s:List Sl)(p6:PC 19 [.agg (Ic x ifs),sl Ad roots] (.tup [sl Ae s,vi 0]))(SJ:PC 38 [.agg (Ic x ifs),sl Ad roots] (.tup [.agg (Gt a),vi 0]))(sf:∀p v,PC 40 [.agg (Ic x ifs),vs p,.agg (Ej v)] (G5 (AY x ⟨p,v⟩)))(wo:∀y∈a.sel,(AY x y).isSome=true)(yZ:∀q∈roots,BO q.set)(hrl:roots.length<=1000000)(xY:a.sel.length<=1000000):PC 11 [.agg (Ic x ifs),sl Ad roots] (.tup [.agg (Do (mkL x roots a)),vi 0]):=by
 refine Ps ⟨[2,8],[],[],[],[],[],[],[(42,(10,0,60,2)),(43,(10,1,61,6))],[],[],[8]⟩ func11 rfl (Nz rfl) (yN (C1 (C2 p6 (Yi (fun h=>absurd h aa1) (fun _=>?_)))));refine yN (C1 (C2 SJ (yN (Yi (fun h=>absurd h aa1) (fun _=>?_)))));refine yN (cU [(1,sl Ad roots),(2,.ref 2 0),(4,.ref 4 0),(8,.ref 8 0),(10,.ref 10 0)] [(2,.ro (Ic x ifs)),(4,.cells [nzA,nzA,nzA,nzA]),(8,.ro (Gt a)),(10,.cells [nzA,nzA,sl AG a.infs,sl AB a.skips])] Z5 Z4 (Xi {q:Nat // q<=roots.length} (Xi (fun q=>⟨[(2,.ref 2 0),(4,.ref 4 0),(8,.ref 8 0),(10,.ref 10 0),(42,sl Ad roots),(43,vi (roots.map Ad).length),(44,vi q.1)],[(2,.ro (Ic x ifs)),(4,.cells [nzA,nzA,nzA,nzA]),(8,.ro (Gt a)),(10,.cells [.slice (.id 60 2) ((roots.take q.1).map Ad),.slice (.id 61 6) [],sl AG a.infs,sl AB a.skips]),(60,.tok 2 (roots.take q.1).length),(61,.tok 6 0)],Af⟩) (Xi (fun q=>roots.length-q.1) (Yi (Xi ⟨0,Al _⟩ ?_) ?_)))))
 .exact⟨Z7,Z6,Fh,Tv⟩
 intro⟨i,i1⟩;have i1:i<=roots.length:=i1;have iT:(roots.take i).length<=1000000:=(by rw[BW];omega);refine Yi (fun h1=>?_) (fun h1=>?_)
 .have h1:(i:Int)<((roots.map Ad).length:Int):=h1;have n1:=Ha h1;refine Xi (Ad roots[i]) (Yi (I0 n1) (Yi rfl (yN (yN (C1 (C2 (w7 roots[i].set (yZ _ (Ah n1))) (yN (yN (Yi (YG rfl (show(roots.take i).length<=2147483647 by omega) aa1) (yN (Yi (Ii i Wk) ?_)))))))))));have er:(roots.take i).map Ad++[[vs roots[i].path,sl Ab roots[i].set]]=(roots.take (i+1)).map Ad:=by rw[gc n1,Bk];rfl
  refine Xi ⟨i+1,n1⟩ ?_;exact⟨Dl roots.length i Wk,Z7,⟨Zr,Zr,Zr,⟨(Aa (fun E:C0=>HO.cells [.slice (.id 60 2) E,.slice (.id 61 6) [],sl AG a.infs,sl AB a.skips]) er),rfl⟩,⟨(show HO.tok 2 (((roots.take i).map Ad).length+([[vs roots[i].path,sl Ab roots[i].set]]:C0).length)=.tok 2 (roots.take (i+1)).length by rw[gc n1,AD,Lm];rfl),rfl⟩,Zr,Tv⟩,Fh,Tv⟩
 have h1:¬((i:Int)<((roots.map Ad).length:Int)):=h1;have n1:=Et h1;refine Xi {q:Nat // q<=a.sel.length} (Xi (fun q=>⟨[(2,.ref 2 0),(4,.ref 4 0),(10,.ref 10 0),(60,sl Ae a.sel),(61,vi (a.sel.map Ae).length),(62,vi q.1)],[(2,.ro (Ic x ifs)),(4,.cells [nzA,nzA,nzA,nzA]),(10,.cells [.slice (.id 60 2) ((roots.take i).map Ad),.slice (.id 61 6) (((a.sel.take q.1).map (Ja x)).map Cz),sl AG a.infs,sl AB a.skips]),(60,.tok 2 (roots.take i).length),(61,.tok 6 ((a.sel.take q.1).map (Ja x)).length)],Af⟩) (Xi (fun q=>a.sel.length-q.1) (Yi (Xi ⟨0,Al _⟩ ?_) ?_)))
 .exact⟨Z6,Z5,Fh,Tv⟩
 intro⟨k,k1⟩;have k1:k<=a.sel.length:=k1;have kT:((a.sel.take k).map (Ja x)).length<=1000000:=(by rw[Lm,BW];omega);refine Yi (fun h4=>?_) (fun h4=>?_)
 .have h4:(k:Int)<((a.sel.map Ae).length:Int):=h4;have n4:=Ha h4;obtain⟨r,hr⟩:=JD.1 (wo _ (Ah n4));refine Xi (Ae a.sel[k]) (Yi (I0 n4) (Yi rfl (yN (yN (yN (yN ?_))))));have Ua:=(sf a.sel[k].path a.sel[k].ver);rw[(show AY x ⟨a.sel[k].path,a.sel[k].ver⟩=some r from hr)]at Ua;refine C1 (C2 Ua (yN (yN (Yi (YG rfl (show((a.sel.take k).map (Ja x)).length<=2147483647 by omega) aa1) (yN (Yi (Ii k Wk) ?_))))));have ee:Ja x a.sel[k]=⟨a.sel[k].path,a.sel[k].ver,r.arch,r.ifc⟩:=by unfold Ja;rw[show AY x a.sel[k]=some r from hr]
  have er:((a.sel.take k).map (Ja x)).map Cz++[[vs a.sel[k].path,vi a.sel[k].ver.a,vi a.sel[k].ver.b,vi a.sel[k].ver.c,vs r.arch,vs r.ifc]]=((a.sel.take (k+1)).map (Ja x)).map Cz:=by rw[eJ n4,Bk,ee];rfl
  refine Xi ⟨k+1,n4⟩ ?_;exact⟨Dl a.sel.length k Wk,Z6,⟨Zr,Zr,⟨(Aa (fun E:C0=>HO.cells [.slice (.id 60 2) ((roots.take i).map Ad),.slice (.id 61 6) E,sl AG a.infs,sl AB a.skips]) er),rfl⟩,Zr,⟨(show HO.tok 6 ((((a.sel.take k).map (Ja x)).map Cz).length+([[vs a.sel[k].path,vi a.sel[k].ver.a,vi a.sel[k].ver.b,vi a.sel[k].ver.c,vs r.arch,vs r.ifc]]:C0).length)=.tok 6 ((a.sel.take (k+1)).map (Ja x)).length by rw[eJ n4,AD,Lm (f:=Cz)];rfl),rfl⟩,Tv⟩,Fh,Tv⟩
 have h4:¬((k:Int)<((a.sel.map Ae).length:Int)):=h4;have n4:=Et h4;refine yN (yN (yN ?_));exact Cj.of_eq (show AV.tup [.agg [sl Ad (roots.take i),sl Cz ((a.sel.take k).map (Ja x)),sl AG a.infs,sl AB a.skips],vi 0]=.tup [.agg (Do (mkL x roots a)),vi 0] by rw[A5 (l:=roots) (BF (Et h1)),A5 (l:=a.sel) (BF (Et h4))];rfl)
section
variable {x:List Rl}{roots:List Rq}
theorem bq(hv:FR x roots=true)(hx:x.length<=16):LN x roots=0:=by
 grind [LN,OQ]
theorem jR(hv:FR x roots=true)(hx:x.length<=16):EE x roots=kw x roots:=by
 grind [EE,OQ]
end
end Go.Eng
namespace Go.Eng
end Go.Eng
namespace Go.Proofs
open Go.Proofs.Tryz
open Go.Shelf
def Tryz.laySortStr_ren:Go.Shelf.Ren:=⟨fun | 190=>77 | 125=>146 | 258=>145 | 128=>219 | 129=>220 | 302=>210 | 303=>211 | 304=>212 | 305=>213 | 306=>214 | 307=>215 | 308=>216 | 309=>217 | 310=>218 | 333=>282 | 329=>283 | 330=>284 | 334=>285 | 335=>286 | 336=>252 | 344=>338 | n=>n,fun | 31=>144 | 9=>9 | 3=>3 | 46=>240 | 0=>0 | 51=>299 | 53=>229 | 4=>4 | 183=>309 | 182=>308 | 131=>150 | 5=>5 | 218=>372 | 222=>208 | 228=>408 | 229=>409 | n=>n,fun | n=>n⟩
theorem Tryz.laySortStr:Go.Proofs.Lays.n190 Tryz.prog Tryz.laySortStr_ren:={
 mixed:=by kernel_rfl
 f125:=Go.Eng.A0a func146
 f128:=Go.Eng.A0a func219
 f129:=Go.Eng.A0a func220
 f190:=Go.Eng.A0a func77
 f258:=Go.Eng.A0a func145
 f302:=Go.Eng.A0a func210
 f303:=Go.Eng.A0a func211
 f304:=Go.Eng.A0a func212
 f305:=Go.Eng.A0a func213
 f306:=Go.Eng.A0a func214
 f307:=Go.Eng.A0a func215
 f308:=Go.Eng.A0a func216
 f309:=Go.Eng.A0a func217
 f310:=Go.Eng.A0a func218
 f329:=Go.Eng.A0a func283
 f330:=Go.Eng.A0a func284
 f333:=Go.Eng.A0a func282
 f334:=Go.Eng.A0a func285
 f335:=Go.Eng.A0a func286
 f336:=Go.Eng.A0a func252
 f344:=Go.Eng.A0a func338
 t0:=underlying0
 a0:=isAgg0
 z0:=sizeOf0
 v0:=zeroValue0
 t3:=underlying3
 a3:=isAgg3
 z3:=sizeOf3
 v3:=zeroValue3
 t4:=underlying4
 a4:=isAgg4
 z4:=sizeOf4
 v4:=zeroValue4
 t5:=underlying5
 a5:=isAgg5
 z5:=sizeOf5
 v5:=zeroValue5
 t9:=underlying9
 a9:=isAgg9
 z9:=sizeOf9
 v9:=zeroValue9
 t31:=underlying144
 a31:=isAgg144
 z31:=sizeOf144
 v31:=zeroValue144
 t46:=underlying240
 a46:=isAgg240
 z46:=sizeOf240
 v46:=zeroValue240
 t51:=underlying299
 a51:=isAgg299
 z51:=sizeOf299
 v51:=zeroValue299
 t53:=underlying229
 a53:=isAgg229
 z53:=sizeOf229
 v53:=zeroValue229
 t131:=underlying150
 a131:=isAgg150
 z131:=sizeOf150
 v131:=zeroValue150
 t182:=underlying308
 a182:=isAgg308
 z182:=sizeOf308
 v182:=zeroValue308
 t183:=underlying309
 a183:=isAgg309
 z183:=sizeOf309
 v183:=zeroValue309
 t218:=underlying372
 a218:=isAgg372
 z218:=sizeOf372
 v218:=zeroValue372
 t222:=underlying208
 a222:=isAgg208
 z222:=sizeOf208
 v222:=zeroValue208
 t228:=underlying408
 a228:=isAgg408
 z228:=sizeOf408
 v228:=zeroValue408
 t229:=underlying409
 a229:=isAgg409
 z229:=sizeOf409
 v229:=zeroValue409 }
def Tryz.layCompactStr_ren:Go.Shelf.Ren:=⟨fun | 194=>79 | n=>n,fun | 31=>144 | 9=>9 | 3=>3 | 4=>4 | 0=>0 | n=>n,fun | n=>n⟩
theorem Tryz.layCompactStr:Go.Proofs.Lays.n194 Tryz.prog Tryz.layCompactStr_ren:={
 mixed:=by kernel_rfl
 f194:=Go.Eng.A0a func79
 t0:=underlying0
 a0:=isAgg0
 z0:=sizeOf0
 v0:=zeroValue0
 t3:=underlying3
 a3:=isAgg3
 z3:=sizeOf3
 v3:=zeroValue3
 t4:=underlying4
 a4:=isAgg4
 z4:=sizeOf4
 v4:=zeroValue4
 t9:=underlying9
 a9:=isAgg9
 z9:=sizeOf9
 v9:=zeroValue9
 t31:=underlying144
 a31:=isAgg144
 z31:=sizeOf144
 v31:=zeroValue144 }
end Go.Proofs
namespace Go.Eng
open Go.Proofs Go.Shelf Go.RowKit Go.Lib Go.Sort
variable (ss:List CS)(zs:List (List UInt8))(s:CS)
abbrev d6:List UInt8:=s.data.toList
abbrev oK(l:List UInt8):CS:=⟨l.toArray⟩
theorem pm:oK (d6 s)=s:=by cases s;simp
theorem Ng:((zs.map oK).map Di).flatten=(zs.map Go.Proofs.encStr).map AV.v:=by
 induction zs with
 |nil=>rfl
 |cons z zs ih=>rw[Bo,Bo,Ck,ih];rfl
theorem XB:(ss.map d6).map oK=ss:=by
 rw[BX,show oK ∘ d6=id from funext pm,Mi]
theorem AdM(t:List CS)(hl:BO ss)(EG:ss≠[])(hp:t.Perm ss)(ht:(t.map d6).Pairwise fun a b=>a<=b) :
  Bg Tryz.prog 77 [.msl 1000 ss.length] (Ai [(1000,.arr 1 (ss.map Di))] Af) fun r h'=>r=.tup []/\h'=Ai [(1000,.arr 1 (t.map Di))] Af:=by
 have hE:Gl Tryz.prog 77:=ie 77 Tryz.func77 aa2 rfl;obtain⟨zs,hz⟩:∃zs,zs=ss.map d6:=⟨_,rfl⟩;have FI:ss=zs.map oK:=by rw[hz,XB]
 have Jc:=QB (P:=Tryz.prog) (f:=77) (es:=ss.map Di) (sz:=1) (rest:=[]) (Q:=fun FU=>FU=t.map Di) hE ?_ ?_
 .rw[Lm]at Jc;refine⟨hE,fun g w vals q1 q2 q3=>(Jc.2 g w vals q1 q2 q3).mono fun _ _ ⟨v,r,h',g',e1,⟨e2,FU,p1,p3⟩,rest⟩=>⟨v,r,h',g',e1,⟨e2,by rw[p3,p1]⟩,rest⟩⟩
 .intro e;exact absurd (FP.1 e) EG
 .intro g w b cap F hr hF hH hb;have hFl:F.toList=zs.map Go.Proofs.encStr:=LI (by rw[<-Ng,<-FI];exact hr);have sj:F=zs.toArray.map Go.Proofs.encStr:=Ta.1 (by rw[hFl];simp);have YH:zs.length=ss.length:=by rw[hz,Lm]
  have xS:Holds Go.Proofs.encStr w b 0 zs.toArray:=fun j hj=>by
   have:=hH j (by rw[sj];simpa using hj)
   refine⟨this.1.trans ?_,this.2⟩;rw[sj,Ol _ j (by simpa using hj),Ol _ j hj];simp
  have hc:=Any.slices_Sort_string Tryz.laySortStr b 0 cap zs w xS hb Wk;have htz:(zs.mergeSort fun x y=>decide (x<=y))=t.map d6:=by
   have Je:(zs.mergeSort fun x y=>decide (x<=y)).Perm zs:=List.mergeSort_perm _ _;have y7:=List.pairwise_mergeSort (le:=fun x y:List UInt8=>decide (x<=y)) (fun a b c h1 h2=>by simp only[A4]at *;exact List.le_trans h1 h2) (fun a b=>by simp only[HU,A4];exact List.le_total a b) zs;refine List.Perm.eq_of_pairwise (le:=fun a b=>a<=b) (fun a b _ _ h k=>List.le_antisymm h k) (y7.imp fun h=>CA h) ht (Je.trans ?_);rw[hz];exact(hp.map d6).symm
  rw[htz,YH]at hc;rw[Lm];refine hc.mono ?_
  rintro e w' ⟨rfl,n,os,rfl⟩
  have ET:t.length=ss.length:=hp.length_eq;refine⟨rfl,(t.map d6).toArray.map Go.Proofs.encStr,t.map Di,n,os,?_,rfl,by simp[ET],fun cs hcs=>?_,fun g w _=>?_,by rw[Rg]⟩
  .rw[sj];simp[ET,YH]
  .obtain⟨x,_,rfl⟩:=Ar.1 hcs;rfl
  .have e1:t.map Di=((t.map d6).map oK).map Di:=by rw[XB]
   rw[e1,Ng];have e:(((t.map d6).toArray.map Go.Proofs.encStr).toList)=(t.map d6).map Go.Proofs.encStr:=by simp
   rw[e];exact NC _ _ _ _ fun x hx=>by
    obtain⟨z,_,rfl⟩:=Ar.1 hx;rfl
def Ch:List CS:=(Lib.compact (ss.map d6)).map oK
theorem RK:(Lib.compact zs).length<=zs.length:=by
 unfold Lib.compact Lib.compactUpTo;rw[Lm];exact AS (Fb _ _) (by rw[List.length_range];exact Ap _)
theorem AdN(hl:BO ss)(EG:ss≠[]) :
  Bg Tryz.prog 79 [.msl 1000 ss.length] (Ai [(1000,.arr 1 (ss.map Di))] Af) fun r h'=>r=.msl 2000 (Ch ss).length/\h'=Ai [(1000,.dead),(2000,.arr 1 ((Ch ss).map Di))] Af:=by
 have hE:Gl Tryz.prog 79:=ie 79 Tryz.func79 aa2 rfl;obtain⟨zs,hz⟩:∃zs,zs=ss.map d6:=⟨_,rfl⟩;have FI:ss=zs.map oK:=by rw[hz,XB]
 have YH:zs.length=ss.length:=by rw[hz,Lm]
 have hcl:=RK zs;have Jc:=V3 (P:=Tryz.prog) (f:=79) (es:=ss.map Di) (sz:=1) (rest:=[]) (n':=(Lib.compact zs).length) (Q:=fun FU=>FU=((Lib.compact zs++List.replicate (zs.length-(Lib.compact zs).length) []).map oK).map Di) hE (fun e=>EG (FP.1 e)) (by rw[Lm];omega) ?_
 .rw[Lm]at Jc;have ez:Ch ss=(Lib.compact zs).map oK:=by unfold Ch;rw[hz]
  refine⟨hE,fun g w vals q1 q2 q3=>(Jc.2 g w vals q1 q2 q3).mono fun _ _ ⟨x,r,h',g',e1,⟨e2,FU,p1,p2⟩,rest⟩=>⟨x,r,h',g',e1,⟨by rw[e2,ez,Lm],by
   rw[p2,p1,ez,Bk,Bk,List.take_append_of_le_length (by rw[Lm,Lm];exact Ap _),A5 (by rw[Lm,Lm];exact Ap _)]⟩,rest⟩⟩
 .intro g w b cap F hr hF hH hb hc;rw[Lm]at hF hc⊢;have hFl:F.toList=zs.map Go.Proofs.encStr:=LI (by rw[<-Ng,<-FI];exact hr);have sj:F=zs.toArray.map Go.Proofs.encStr:=Ta.1 (by rw[hFl];simp);have xS:Holds Go.Proofs.encStr w b 0 zs.toArray:=fun j hj=>by
   have:=hH j (by rw[sj];simpa using hj)
   refine⟨this.1.trans ?_,this.2⟩;rw[sj,Ol _ j (by simpa using hj),Ol _ j hj];simp
  have hcon:=Any.slices_Compact_string Tryz.layCompactStr b 0 cap zs w xS Wk Wk;rw[YH]at hcon;refine hcon.mono ?_
  rintro e w' ⟨rfl,q,rfl⟩
  refine⟨rfl,(Lib.compact zs++List.replicate (zs.length-(Lib.compact zs).length) []).toArray.map Go.Proofs.encStr,_,q,#[],?_,rfl,?_,fun cs hcs=>?_,fun g w _=>?_,?_⟩
  .rw[sj];simp;omega
  .simp;omega
  .obtain⟨x,_,rfl⟩:=Ar.1 hcs;rfl
  .rw[Ng];have e:((Lib.compact zs++List.replicate (zs.length-(Lib.compact zs).length) []).toArray.map Go.Proofs.encStr).toList=(Lib.compact zs++List.replicate (zs.length-(Lib.compact zs).length) []).map Go.Proofs.encStr:=by simp
   rw[e];exact NC _ _ _ _ fun x hx=>by
    obtain⟨z,_,rfl⟩:=Ar.1 hx;rfl
  .rw[Rg,grow_empty,YH]
end Go.Eng
