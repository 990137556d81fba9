/- Lemmas 23. -/
import Derived.Test.YteaiieomnhbmgaaGreatDoorAA22
set_option maxHeartbeats 4000000
namespace Go.Eng
open Go.Proofs
variable {l:List CS}{n k:Nat}{a:AV}(x:List Rl)(p:CS)
abbrev yR:List Rl:=x.filter fun r=>!r.yanked
theorem dX:Mc (yR x) p=(Cp x p).map AM:=by
 unfold Mc Cp;simp_all
def mC:List (Value×AV):=(AW (yR x) []).map fun p=>(.string p,sl AM (Cp x p))
theorem ot{x:List Rl}{p:CS}:(Value.string p,a)∈mC x↔p∈AW (yR x) []/\a=sl AM (Cp x p):=by
 grind [mC]
theorem Wp{x:List Rl}{p:CS}:Cp x p=[]↔p∉AW (yR x) []:=by
 grind [GE,Cp,List.map_eq_nil_iff,List.filter_eq_nil_iff]
theorem Abx:∀(p:CS) (a:AV),(Value.string p,a)∈mC x->a=sl AM (Cp x p):=fun _ _ h=>(ot.1 h).2
theorem Aby:∀p:CS,(∀a,(Value.string p,a)∉mC x)->Cp x p=[]:=fun _ h=>Wp.2 fun hp=>h _ (ot.2 ⟨hp,rfl⟩)
theorem Abz:∀p:CS,Cp x p=[]->∀a,(Value.string p,a)∉mC x:=fun _ h _ ha=>Wp.1 h (ot.1 ha).1
abbrev plN:Qx:=⟨[2],[],[],[(52,[12])],[],[12],[50],[(53,(16,3,90,6)),(54,(16,4,91,1)),(55,(16,7,93,10)),(56,(16,8,94,4))],[],[(850013,13),(800013,10016),(810013,20016),(900013,10000000000+92000000+90016)],[5,7,8,9,11,12,13]⟩
abbrev kC:Value×AV:=(.string p,sl AM (Cp x p))
abbrev kA:Value×AV:=(.string p,sl Ag (B3 x p))
theorem sU{x:List Rl}{kv:Value×AV}{Me : List (Value×AV)}(h:(l.map (kC x)).Perm (kv::Me)):∃t r,kv=kC x t/\Me=r.map (kC x)/\l.Perm (t::r):=by
 obtain⟨ps,h1,h2⟩:=Kl h l rfl;cases ps<;>grind [List.Perm.symm]
abbrev srN(roots:List Rq)(C A:List (Value×AV)):List (Nat×HO):=
 [(2000,.cells [sl AI roots,.cmap BW C,.cmap BW A,.slice (.id 2001 6) [],.slice (.id 2002 1) [],.mref 2003,vb false,.slice .none [],.slice .none [],.msl 2004 0]),(2001,.tok 6 0),(2002,.tok 1 0),(2003,.map FI []),(2004,.arr 1 [])]
theorem dJ{x:List Rl}{p:CS}:(Value.string p,a)∈l.map (kA x)↔p∈l/\a=sl Ag (B3 x p):=by
 grind
theorem fZ(y:List Rl)(n:Nat):Jj y (n+1000)=.free:=by
 grind [Jj,Nat.blt_eq]
theorem Ya{h s:Nat->HO}(H:∀n,h (n+1000)=.free):∀j,1000<=j->j<2000->h j≠.free->s j≠.free:=fun j h1 _ hn=>by
 refine absurd (H (j-1000)) ?_;simp_all
theorem rf(h:k<1000):Nat.beq (n+1000) k=false:=by
 grind [Nat.eq_of_beq_eq_true]
theorem fE{y:List Rl}{o:HO}(h:k<1000):(bif Nat.beq (n+1000) k then o else Jj y (n+1000))=.free:=by
 grind [rf,fZ]
attribute [local irreducible] Ir
set_option maxRecDepth 30000 in
theorem s29(ifs:C0)(roots:List Rq)(hx:∀r∈x,CX r)(h0:AL x=0):AU Tryz.prog 136 [HZ x ifs,sl AI roots] (Ak [] Ae) fun r h'=>∃l:List CS,l.Perm (AW (yR x) [])/\r=.ref 2000 0/\h'=Ak (srN roots (mC x) (l.map (kA x))) Ae:=by
 have HE:x.length<=256:=(Lz h0).1;refine BX (Ms plN) [(16,2000),(90,2001),(91,2002),(14,2003),(92,2004)] rfl Ct hm rfl Tryz.func136 aa1 rfl (Nz rfl) aa1 rfl (Xi 0 (Xi 0 (Xi 0 (Xi {i:Nat // i<=x.length} (Xi (fun i=>⟨[(2,.ref 2 0),(5,.ref 16 0),(18,sl Au x),(19,vi (x.map Au).length),(20,vi i.1)],[(2,.ro (Ic x ifs)),(12,.mapU BW (IU (yR (x.take i.1)))),(13,.map BW []),(14,.map FI []),(16,.cells [sl AI roots,.mref 12,.mref 13,nzA,nzA,.mref 14,vb false,nzA,nzA,nzA])],Jj (yR (x.take i.1))⟩) (Xi (fun i=>x.length-i.1) (Yi (Xi ⟨0,Aj _⟩ ?_) ?_)))))))
 .refine⟨Z5,Z5,fun j=>.inl ?_,Bu aa1⟩;show Jj [] j=.free;unfold Jj;cases (Nat.ble 100 j&&Nat.blt j 1000)<;>rfl
 intro⟨i,i1⟩;have hq:∀k,(yR (x.take k)).length<=256:=fun k=>by
  grind
 refine Xi 0 (Yi ?_ ?_)
 .intro h;have h:i<x.length:=B0
  have hg:x[i]?=some x[i]:=Ge h;have PA:x.take (i+1)=x.take i++[x[i]]:=B0
  refine Xi 0 (Xi (Au x[i]) (Yi (Yi ch B0) (Yi rfl ?_)));refine Yi (Nz rfl) (yN (Xi ⟨[(2,.ref 2 0),(5,.ref 16 0),(7,.ref 7 0),(18,sl Au x),(19,vi (x.map Au).length),(20,vi i)],[(2,.ro (Ic x ifs)),(7,.cells (Au x[i])),(12,.mapU BW (IU (yR (x.take i)))),(13,.map BW []),(14,.map FI []),(16,.cells [sl AI roots,.mref 12,.mref 13,nzA,nzA,.mref 14,vb false,nzA,nzA,nzA])],Jj (yR (x.take i))⟩ (Yi ?_ ?_)))
  .exact⟨Z6,⟨Zr,Zr,⟨rfl,HU _ (Fj _ (hq _))⟩,Zr,Zr,Zr,Tv⟩,GN (hq _) (Fj _ (hq _)),Bu aa1⟩
  refine Xi 0 (Yi (fun hy=>?_) (fun hy=>?_))
  .have ey:yR (x.take (i+1))=yR (x.take i):=by
    grind
   refine Xi ⟨[(2,.ref 2 0),(5,.ref 16 0),(18,sl Au x),(19,vi (x.map Au).length),(20,vi i)],[(2,.ro (Ic x ifs)),(12,.mapU BW (IU (yR (x.take (i+1))))),(13,.map BW []),(14,.map FI []),(16,.cells [sl AI roots,.mref 12,.mref 13,nzA,nzA,.mref 14,vb false,nzA,nzA,nzA])],Jj (yR (x.take (i+1)))⟩ (Yi ?_ ?_)
   .rw[ey];exact⟨Z5,⟨Zr,⟨rfl,HU _ (Fj _ (hq _))⟩,Zr,Zr,Zr,Tv⟩,GN (hq _) (Fj _ (hq _)),Bu aa1⟩
   refine Xi 0 (Yi (Ii i ch) (Xi ⟨i+1,by omega⟩ ?_));exact⟨by grind,Z5,⟨Zr,⟨rfl,HU _ (Fj _ (hq _))⟩,Zr,Zr,Zr,Tv⟩,GN (hq _) (Fj _ (hq _)),Bu aa1⟩
  refine Xi 0 (yN (C1 (C2 (zf x[i].ver) (Xi ⟨[(2,.ref 2 0),(5,.ref 16 0),(7,.ref 7 0),(8,vi (plc x[i].ver)),(18,sl Au x),(19,vi (x.map Au).length),(20,vi i)],[(2,.ro (Ic x ifs)),(7,.cells (Au x[i])),(12,.mapU BW (IU (yR (x.take i)))),(13,.map BW []),(14,.map FI []),(16,.cells [sl AI roots,.mref 12,.mref 13,nzA,nzA,.mref 14,vb false,nzA,nzA,nzA])],Jj (yR (x.take i))⟩ (Yi ?_ ?_)))))
  .exact⟨Z7,⟨Zr,Zr,⟨rfl,HU _ (Fj _ (hq _))⟩,Zr,Zr,Zr,Tv⟩,GN (hq _) (Fj _ (hq _)),Bu aa1⟩
  have ey:yR (x.take (i+1))=yR (x.take i)++[x[i]]:=by
   grind
  have hyl:(yR (x.take i)).length<=256:=by
   simp_all
  have hP:∀l,Jj (yR (x.take i)) (l+100)=HB (yR (x.take i)) l:=Fj _ (hq _);refine A1 (Classical.em (x[i].path∈AW (yR (x.take i)) [])) (fun hp=>?_) (fun hp=>?_)
  .refine Be (En.1 hp) (fun k hk=>?_);have hu:=jv hk;have hl:(Mc (yR (x.take i)) x[i].path).length<=256:=by
    grind
   have AaZ:k<256:=by
    have:=(Bf.1 hk).1
    have:=Hx (yR (x.take i)) []
    grind
   have hr:Jj (yR (x.take i)) (k+100)=.tok 10 (Mc (yR (x.take i)) x[i].path).length:=by rw[hP,ii hk]
   refine Xi 0 ?_;refine Or.inl (Xi (.slice (.id (k+100) 10) (Mc (yR (x.take i)) x[i].path)) (Yi hu ?_));refine yN (RG (e:=266) (m:=9) (es2:=[TS x[i]]) rfl rfl rfl (fun _ h=>h) hr ⟨rfl,trivial⟩ (by show(_+1)*128<=_;omega) aa0 (Yi (Jg ⟨AR _,AR _,AR _,AR _,AR _,AR _,AR _,AR _,AR _,AR _,AR _,AR _,AR _,AR _,AR _,AR _,Ej (show 49<10000000 by decide),Ej ch,Ej (show 12<10000000 by decide),trivial⟩ aa1) ?_));have e9:EV (IU (yR (x.take i))) (.string x[i].path) (.slice (.id (k+100) 10) (Mc (yR (x.take i)) x[i].path++[TS x[i]]))=IU (yR (x.take (i+1))):=by rw[ey];exact nh hk
   have hG:∀l,(bif Nat.beq (l+100) (k+100)then HO.tok 10 ((Mc (yR (x.take i)) x[i].path).length+1)else HB (yR (x.take i)) l)=HB (yR (x.take (i+1))) l:=by rw[ey];exact pZ hk
   refine Xi ⟨[(2,.ref 2 0),(5,.ref 16 0),(18,sl Au x),(19,vi (x.map Au).length),(20,vi i)],[(2,.ro (Ic x ifs)),(12,.mapU BW (IU (yR (x.take (i+1))))),(13,.map BW []),(14,.map FI []),(16,.cells [sl AI roots,.mref 12,.mref 13,nzA,nzA,.mref 14,vb false,nzA,nzA,nzA])],Jj (yR (x.take (i+1)))⟩ (Yi ?_ ?_)
   .refine⟨Z5,⟨Zr,⟨Aa (HO.mapU BW) e9,HU _ (Fj _ (hq _))⟩,Zr,Zr,Zr,Tv⟩,GN (hq _) (fun l=>?_),Ya (fun n=>?_)⟩
    .show(bif Nat.beq (l+100) (k+100)then HO.tok 10 ((Mc (yR (x.take i)) x[i].path).length+1)else Jj (yR (x.take i)) (l+100))=_;simp_all
    .exact fE (y:=yR (x.take i)) (show k+100<1000 by omega)
   refine Xi 0 (Yi (Ii i ch) (Xi ⟨i+1,by omega⟩ ?_));exact⟨by grind,Z5,⟨Zr,⟨rfl,HU _ (Fj _ (hq _))⟩,Zr,Zr,Zr,Tv⟩,GN (hq _) (Fj _ (hq _)),Bu aa1⟩
  .have Um:(AW (yR (x.take i)) []).length<=256:=by
    have:=Hx (yR (x.take i)) []
    grind
   have hn:=ju hp;have hr:Jj (yR (x.take i)) ((AW (yR (x.take i)) []).length+100)=.free:=by
    rw[hP];unfold HB;simp_all
   refine Xi ((AW (yR (x.take i)) []).length+100) ?_;refine Or.inr (Yi hn ?_);refine yN (RF (e:=266) (m:=9) (es2:=[TS x[i]]) rfl rfl rfl (fun _ h=>h) hr rfl ⟨rfl,trivial⟩ (by show 1*128<=_;omega) B0 ?_);refine Yi (Jg ⟨AR _,AR _,AR _,AR _,AR _,AR _,AR _,AR _,AR _,AR _,AR _,AR _,AR _,AR _,AR _,AR _,Ej (show 49<10000000 by decide),Ej (by show _+100<10000000;omega),Ej (show 12<10000000 by decide),trivial⟩ aa1) ?_;have e9:EV (IU (yR (x.take i))) (.string x[i].path) (.slice (.id ((AW (yR (x.take i)) []).length+100) 10) [TS x[i]])=IU (yR (x.take (i+1))):=by rw[ey];exact nf hp
   have hG:∀l,(bif Nat.beq (l+100) ((AW (yR (x.take i)) []).length+100)then HO.tok 10 1 else HB (yR (x.take i)) l)=HB (yR (x.take (i+1))) l:=by rw[ey];exact pY hp
   refine Xi ⟨[(2,.ref 2 0),(5,.ref 16 0),(18,sl Au x),(19,vi (x.map Au).length),(20,vi i)],[(2,.ro (Ic x ifs)),(12,.mapU BW (IU (yR (x.take (i+1))))),(13,.map BW []),(14,.map FI []),(16,.cells [sl AI roots,.mref 12,.mref 13,nzA,nzA,.mref 14,vb false,nzA,nzA,nzA])],Jj (yR (x.take (i+1)))⟩ (Yi ?_ ?_)
   .refine⟨Z5,⟨Zr,⟨Aa (HO.mapU BW) e9,HU _ (Fj _ (hq _))⟩,Zr,Zr,Zr,Tv⟩,GN (hq _) (fun l=>?_),Ya (fun n=>?_)⟩
    .show(bif Nat.beq (l+100) ((AW (yR (x.take i)) []).length+100)then HO.tok 10 1 else Jj (yR (x.take i)) (l+100))=_;simp_all
    .exact fE (y:=yR (x.take i)) (show(AW (yR (x.take i)) []).length+100<1000 by omega)
   refine Xi 0 (Yi (Ii i ch) (Xi ⟨i+1,by omega⟩ ?_));exact⟨by grind,Z5,⟨Zr,⟨rfl,HU _ (Fj _ (hq _))⟩,Zr,Zr,Zr,Tv⟩,GN (hq _) (Fj _ (hq _)),Bu aa1⟩
 .intro h;have h:¬i<x.length:=B0
  have et:x.take i=x:=As ch;have eM:∀hh:Nat->HO,SG hh (IU (yR (x.take i)))=(AW (yR x) []).map (kC x):=fun hh=>by
   rw[et];unfold SG IU;rw[Bw];refine Da fun j=>?_;rw[B1,B1,List.getElem?_zipIdx];cases (AW (yR x) [])[j]? with
   |none=>rfl
   |some q=>show some (Value.string q,AV.slice .none (Mc (yR x) q))=_;rw[dX];rfl
  refine Xi ⟨[(2,.ref 2 0),(5,.ref 16 0)],[(2,.ro (Ic x ifs)),(12,.mapU BW (IU (yR (x.take i)))),(13,.map BW []),(14,.map FI []),(16,.cells [sl AI roots,.mref 12,.mref 13,nzA,nzA,.mref 14,vb false,nzA,nzA,nzA])],Jj (yR (x.take i))⟩ (Yi ?_ ?_)
  .exact⟨Z2,⟨Zr,⟨rfl,HU _ (Fj _ (hq _))⟩,Zr,Zr,Zr,Tv⟩,GN (hq _) (Fj _ (hq _)),Bu aa1⟩
  refine Xi 0 (Xi {p:List CS×List CS×Option (Value×AV) // (p.1++p.2.1).Perm (AW (yR x) [])} (Xi (fun p=>⟨[(2,.ref 2 0),(5,.ref 16 0),(56,.ref 56 0)],[(2,.ro (Ic x ifs)),(12,.rom BW ((AW (yR x) []).map (kC x))),(13,.map BW (p.1.1.map (kA x))),(14,.map FI []),(16,.cells [sl AI roots,.mref 12,.mref 13,.slice (.id 90 6) [],.slice (.id 91 1) [],.mref 14,vb false,.slice (.id 93 10) [],.slice (.id 94 4) [],nzA]),(56,.iter ((AW (yR x) []).map (kC x)) (p.1.2.1.map (kC x)) p.1.2.2),(90,.tok 6 0),(91,.tok 1 0),(93,.tok 10 0),(94,.tok 4 0)],Ae⟩) (Xi (fun p=>p.1.2.1.length) (Yi (Xi ⟨([],AW (yR x) [],none),.refl _⟩ ?_) ?_))))
  .refine⟨Z3,⟨Zr,⟨Aa (HO.rom BW) (eM _),rfl⟩,Zr,Zr,Zr,⟨?_,rfl⟩,Zr,Zr,Zr,Zr,Tv⟩,Fh,Ya (fun n=>?_)⟩
   .show HO.iter (SG _ (IU (yR (x.take i)))) (SG _ (IU (yR (x.take i)))) none=_;rw[eM]
   .exact fZ (yR (x.take i)) n
  intro⟨⟨done,rem,Ep⟩,r1⟩;refine Xi 0 (Yi ?_ ?_)
  .intro hr;have hr:rem=[]:=Eg.1 hr;subst hr;rw[Bg]at r1;refine cU [(5,.ref 16 0)] [(14,.map FI []),(16,.cells [sl AI roots,.cmap BW (mC x),.cmap BW (done.map (kA x)),.slice (.id 90 6) [],.slice (.id 91 1) [],.mref 14,vb false,.slice (.id 93 10) [],.slice (.id 94 4) [],.msl 92 0]),(90,.tok 6 0),(91,.tok 1 0),(92,.arr 1 []),(93,.tok 10 0),(94,.tok 4 0)] Z1 Z7 (Xi 0 ?_);exact C2 (.refl _) (Xi done (Yi r1 (Yi rfl rfl)))
  .intro kv Me hp;refine Be (sU hp) (fun t hp=>Be hp (fun r hp=>?_));have e1:=hp.1;have e2:=hp.2.1;subst e1;subst e2;have hp:=hp.2.2;refine cU [(2,.ref 2 0),(5,.ref 16 0),(56,.ref 56 0)] [(2,.ro (Ic x ifs)),(12,.rom BW ((AW (yR x) []).map (kC x))),(13,.map BW (done.map (kA x))),(14,.map FI []),(16,.cells [sl AI roots,.mref 12,.mref 13,.slice (.id 90 6) [],.slice (.id 91 1) [],.mref 14,vb false,.slice (.id 93 10) [],.slice (.id 94 4) [],nzA]),(56,.iter ((AW (yR x) []).map (kC x)) (r.map (kC x)) (some (kC x t))),(90,.tok 6 0),(91,.tok 1 0),(93,.tok 10 0),(94,.tok 4 0)] Z3 Z10 (Xi 0 (cU [(2,.ref 2 0),(5,.ref 16 0),(10,vs t),(56,.ref 56 0)] [(2,.ro (Ic x ifs)),(12,.rom BW ((AW (yR x) []).map (kC x))),(13,.map BW (done.map (kA x))),(14,.map FI []),(16,.cells [sl AI roots,.mref 12,.mref 13,.slice (.id 90 6) [],.slice (.id 91 1) [],.mref 14,vb false,.slice (.id 93 10) [],.slice (.id 94 4) [],nzA]),(56,.iter ((AW (yR x) []).map (kC x)) (r.map (kC x)) (some (kC x t))),(90,.tok 6 0),(91,.tok 1 0),(93,.tok 10 0),(94,.tok 4 0)] Z4 Z10 (Xi 0 ?_)));have aD:(done++rem).Nodup:=r1.nodup_iff.2 (E9 _ [] ON);have htn:t∉done:=fun hc=>(List.nodup_append.1 aD).2.2 t hc t (hp.mem_iff.2 (Ah ..)) rfl;have em:EV (done.map (kA x)) (.string t) (sl Ag (B3 x t))=(done++[t]).map (kA x):=by
    grind [MH]
   have Zl:((done++[t])++r).Perm (AW (yR x) []):=by
    grind [List.Perm.append_left,List.Perm.trans,List.Perm.symm]
   refine yN (C2 (Ael x ifs t (c84 x ifs hx)) (Yi aa1 (Xi ⟨(done++[t],r,some (kC x t)),Zl⟩ ?_)));exact⟨by show r.length<rem.length;rw[hp.length_eq,Ap];omega,Z3,⟨Zr,Zr,⟨Aa (HO.map BW) em,rfl⟩,Zr,Zr,Zr,Zr,Zr,Zr,Zr,Tv⟩,Fh,Bu aa1⟩
end Go.Eng
namespace Go.Eng
open Go.Proofs
variable {p:CS}{x:List Rl}{v:Ver}
theorem cV(h0:AL x=0)(h:p∉AW (yR x) []):B3 x p=[]:=by
 rw[iP h0]
 have:x.filter (fV p)=[]:=by
  grind [List.filter_eq_nil_iff,fV,GE]
 rw[this];rfl
theorem wH{roots:List Rq}(hx:∀r∈x,CX r)(hr:∀q∈roots,Jb q)(h0:AL x=0)(h1:A8 roots=0){l:List CS}(hl:l.Perm (AW (yR x) [])):zL x roots (mC x) (l.map (kA x)) where
 hx:=h0
 hr:=h1
 fx:=hx
 fr:=hr
 c1:=Abx x
 c2:=Aby x
 c3:=Abz x
 av p:=by
  by_cases hp:p∈l
  .exact⟨sl Ag (B3 x p),fun a ha=>(dJ.1 ha).2,fun hn=>(hn _ (dJ.2 ⟨hp,rfl⟩)).elim,fun h=>Aa7 p (B3 x p) (Tw x p)⟩
  .refine⟨nzA,fun a ha=>(hp (dJ.1 ha).1).elim,fun _=>rfl,fun h=>?_⟩;have e:=cV h0 (fun hc=>hp (hl.mem_iff.2 hc));have hc:=Aa7 p (B3 x p) (Tw x p);rw[e]at hc⊢;exact IB.args hc ⟨.refl _,.nil,trivial⟩
theorem fS(h:AL x=0):By x ⟨p,v⟩=x.find? fun r=>decide (Fa r=⟨p,v⟩):=AA (not_not_intro h)
theorem PF{r:Rl}:Fa r=⟨p,v⟩↔r.path=p/\r.ver.a=v.a/\r.ver.b=v.b/\r.ver.c=v.c:=by
 unfold Fa;constructor
 .simp_all
 .rintro⟨rfl,h1,h2,h3⟩
  cases hr:r.ver<;>simp_all
theorem c83(x:List Rl)(ifs:C0)(p:CS)(v:Ver)(hx:∀r∈x,CX r)(HE:BD x):PC 163 [.agg (Ic x ifs),vs p,.agg (CK v)] (Sc (By x ⟨p,v⟩)):=by
 refine Ps CQ Tryz.func163 rfl (Nz rfl) (yN (C1 (C2 (c67 x ifs hx) (Yi (fun h1=>?_) (fun h1=>?_)))))
 .refine yN (yN ?_);exact .of_eq (show AV.tup [.agg qQ,vb false]=Sc (By x ⟨p,v⟩) by grind [By])
 have h1:(AL x:Int)=(0:Int):=Aq h1;refine Xi {i:Nat // i<=x.length/\∀j (h:j<x.length),j<i->decide (Fa x[j]=⟨p,v⟩)=false} (Xi (fun q=>⟨[(1,vs p),(3,.ref 3 0),(5,.ref 5 0),(6,.ref 6 0),(8,vi q.1)],[(3,.cells (Ic x ifs)),(5,.cells (CK v)),(6,.cells [vs ⟨#[]⟩,vi 0,vi 0,vi 0,nzA,vs ⟨#[]⟩,vs ⟨#[]⟩,vs ⟨#[]⟩,vb false])],Ae⟩) (Xi (fun q=>x.length-q.1) (Yi (Xi ⟨0,Aj _,fun j _ h=>by omega⟩ ?_) ?_)))
 .exact⟨Z5,Z3,Fh,Tv⟩
 intro⟨i,i1,i2⟩;refine Yi (fun h3=>?_) (fun h3=>?_)
 .have h3:(i:Int)<((x.map Au).length:Int):=h3;have n3:=Dh h3;refine Xi (Au x[i]) (Yi (DC n3) (Yi rfl (Yi (fun h4=>?_) (fun h4=>?_))))
  .refine Xi (Au x[i]) (Yi (DC n3) (Yi rfl (yN (yN (Yi (fun h5=>?_) (fun h5=>?_))))))
   .refine Yi aa1 (Xi (Au x[i]) (Yi (DC n3) (Yi rfl (yN (yN (yN ?_))))));exact .of_eq (show AV.tup [.agg (Au x[i]),vb true]=Sc (By x ⟨p,v⟩) by rw[fS h1,aj n3 i2 (AB (PF.2 ⟨h4,h5.1,h5.2.1,h5.2.2.1⟩))])
   refine Yi aa1 (Yi (by grind [Az]) (Xi ⟨i+1,by omega,fun j hj G8=>(Db j i).elim (i2 j hj) (fun z=>by have e:j=i:=ch;subst e;exact Aw (fun h=>h5 ⟨(PF.1 h).2.1,(PF.1 h).2.2.1,(PF.1 h).2.2.2,trivial⟩))⟩ ?_));exact⟨Dl x.length i ch,Z5,Z3,Fh,Tv⟩
  refine Yi aa1 (Yi (by grind [Az]) (Xi ⟨i+1,by omega,fun j hj G8=>(Db j i).elim (i2 j hj) (fun z=>by grind [PF])⟩ ?_));exact⟨Dl x.length i ch,Z5,Z3,Fh,Tv⟩
 have h3:¬((i:Int)<((x.map Au).length:Int)):=h3;have n3:=BB h3;refine yN (yN ?_);exact .of_eq (show AV.tup [.agg qQ,vb false]=Sc (By x ⟨p,v⟩) by grind [fS,jo])
abbrev Jh(b:Bool):List AV:=[vb b]
end Go.Eng
