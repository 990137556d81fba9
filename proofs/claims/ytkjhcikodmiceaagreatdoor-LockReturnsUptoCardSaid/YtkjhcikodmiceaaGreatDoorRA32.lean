/- Lemmas 32. -/
import Derived.Test.YtkjhcikodmiceaaGreatDoorRA31
set_option maxHeartbeats 4000000
namespace Go.Eng
open Go.Proofs
variable {p:ByteArray}{l:List ByteArray}{h:Nat->HO}{n k:Nat}{a:AV}(y x:List Rl)(j:Nat)(r:Rl)
abbrev QG:List AV:=AL ⟨plc r.ver,r⟩
abbrev Ga(p:ByteArray):List (List AV):=(y.filter fun r=>decide (r.path=p)).map QG
abbrev XG(q:ByteArray×Nat):Value×AV:=(.string q.1,.slice (.id (q.2+100) 10) (Ga y q.1))
abbrev Ia:List (Value×AV):=(AN y []).zipIdx.map (XG y)
def FU(l:Nat):HO:=match(AN y [])[l]? with
 |some q=>.tok 10 (Ga y q).length
 |none=>.free
def IL:HO:=bif Nat.ble 100 j&&Nat.blt j 1000 then FU y (j-100)else .free
theorem EP(hy:y.length<=256)(l:Nat):IL y (l+100)=FU y l:=by
 unfold IL;rw[show Nat.ble 100 (l+100)=true by rw[N0];omega,Rg,Nat.add_sub_cancel]
 by_cases h:l+100<1000
 .rw[show Nat.blt (l+100) 1000=true by rw[FD];exact h];rfl
 .rw[show Nat.blt (l+100) 1000=false by rw[Bn];intro hc;rw[FD]at hc;omega]
  have:=G1 y []
  rw[A0]at this;unfold FU;rw[EI B0];rfl
theorem mo{j:Nat}(h:j<100):IL y j=.free:=by
 unfold IL;rw[show Nat.ble 100 j=false by rw[Bn];intro hc;rw[N0]at hc;omega];rfl
theorem G0(q:ByteArray):Ga (y++[r]) q=if r.path=q then Ga y q++[QG r]else Ga y q:=by
 unfold Ga;rw[NY]
 by_cases h:r.path=q
 .rw[As h,List.filter_cons_of_pos (by simpa using h)];simp
 .rw[AB h,List.filter_cons_of_neg (by simpa using h)];simp
section
variable {y:List Rl}{r:Rl}{k:Nat}
open Classical in
theorem iG(h:(AN y [])[k]?=some r.path):EF (Ia y) (.string r.path) (.slice (.id (k+100) 10) (Ga y r.path++[QG r]))=Ia (y++[r]):=by
 have hd:=ED y [] GB;have hm:XG y (r.path,k)∈Ia y:=Ar.2 ⟨_,Ha.2 h,rfl⟩;rw[Yg (a':=.slice (.id (k+100) 10) (Ga y r.path)) hm];unfold Ia;rw[Kc h,BI];refine Cf fun q hq=>?_;have hg:=Pj hq;obtain⟨q,j⟩:=q;show(if Value.string q=Value.string r.path then _ else _)=XG (y++[r]) (q,j)
 by_cases he:q=r.path
 .subst he
  have:j=k:=IV hd hg h
  subst this;rw[As rfl];show _=(Value.string r.path,AV.slice (.id (j+100) 10) (Ga (y++[r]) r.path));rw[G0,As rfl]
 .rw[AB (fun e=>he (by simpa using e))];show(Value.string q,AV.slice (.id (j+100) 10) (Ga y q))=(Value.string q,AV.slice (.id (j+100) 10) (Ga (y++[r]) q));rw[G0,AB (fun e=>he e.symm)]
theorem Yr(h:r.path∉AN y []):Ga y r.path=[]:=by
 have:y.filter (fun s=>decide (s.path=r.path))=[]:=by
  rw[JL];intro s hs he;exact h ((G2 y [] r.path).2 (.inr ⟨s,hs,BR he⟩))
 unfold Ga;rw[this];rfl
theorem UU(h:r.path∉AN y [])(a:AV):(Value.string r.path,a)∉Ia y:=by
 intro hc;obtain⟨q,h1,h2⟩:=Ar.1 hc;simp only[XG,Ri,Value.string.injEq]at h2;exact h (by rw[<-h2.1];exact Ax (Pj h1))
theorem iE(h:r.path∉AN y []):EF (Ia y) (.string r.path) (.slice (.id ((AN y []).length+100) 10) [QG r])=Ia (y++[r]):=by
 rw[Ib (fun a=>UU h a)];unfold Ia;rw[Kb h,List.zipIdx_append,AG]
 congr 1
 .refine Cf fun q hq=>?_;have hg:=Pj hq
  have:q.1≠r.path:=fun e=>h (by rw[<-e];exact Ax hg)
  show(Value.string q.1,AV.slice (.id (q.2+100) 10) (Ga y q.1))=(Value.string q.1,AV.slice (.id (q.2+100) 10) (Ga (y++[r]) q.1));rw[G0,AB (fun e=>this e.symm)]
 .show [_]=[(Value.string r.path,AV.slice (.id (0+(AN y []).length+100) 10) (Ga (y++[r]) r.path))];rw[G0,As rfl,Yr h,Bz];rfl
theorem dS{j:Nat}(h:(AN y [])[j]?=some p):(Value.string p,AV.slice (.id (j+100) 10) (Ga y p))∈Ia y/\∀b,(Value.string p,b)∈Ia y->b=AV.slice (.id (j+100) 10) (Ga y p):=by
 refine⟨Ar.2 ⟨(p,j),Ha.2 h,rfl⟩,fun b hb=>?_⟩;obtain⟨q,h1,h2⟩:=Ar.1 hb;simp only[XG,Ri,Value.string.injEq]at h2;have hg:=Pj h1;rw[h2.1]at hg
 have:=IV (ED y [] GB) hg h
 rw[<-h2.2,h2.1,this]
theorem cQ{j:Nat}(h:(AN y [])[j]?=some p):FU y j=.tok 10 (Ga y p).length:=by
 unfold FU;rw[h]
theorem kN(h:(AN y [])[k]?=some r.path)(l:Nat):(bif Nat.beq (l+100) (k+100)then HO.tok 10 ((Ga y r.path).length+1)else FU y l)=FU (y++[r]) l:=by
 by_cases he:l=k
 .subst he;rw[show Nat.beq (l+100) (l+100)=true from Ue _];unfold FU;rw[Kc h,h];show HO.tok 10 _=HO.tok 10 (Ga (y++[r]) r.path).length;rw[G0,As rfl,Aa];rfl
 .rw[show Nat.beq (l+100) (k+100)=false by rw[Bn];intro hc;have:=AT hc;omega];show FU y l=_;unfold FU;rw[Kc h];cases hq:(AN y [])[l]? with
  |none=>rfl
  |some q=>
   show HO.tok 10 (Ga y q).length=HO.tok 10 (Ga (y++[r]) q).length;rw[G0,AB];intro e;subst e;exact he (IV (ED y [] GB) hq h)
theorem kM(h:r.path∉AN y [])(l:Nat):(bif Nat.beq (l+100) ((AN y []).length+100)then HO.tok 10 1 else FU y l)=FU (y++[r]) l:=by
 by_cases he:l=(AN y []).length
 .subst he;rw[show Nat.beq ((AN y []).length+100) ((AN y []).length+100)=true from Ue _];unfold FU;rw[Kb h];simp only[Bf (Ai _),DF,Dw];show HO.tok 10 1=HO.tok 10 (Ga (y++[r]) r.path).length;rw[G0,As rfl,Yr h];rfl
 .rw[show Nat.beq (l+100) ((AN y []).length+100)=false by rw[Bn];intro hc;have:=AT hc;omega];show FU y l=_;unfold FU;rw[Kb h]
  by_cases hl:l<(AN y []).length
  .rw[B8 hl,Ge hl];show HO.tok 10 (Ga y (AN y [])[l]).length=HO.tok 10 (Ga (y++[r]) (AN y [])[l]).length;rw[G0,AB];intro e;exact h (by rw[e];exact Am hl)
  .rw[EI B0,EI (by rw[Aa];simp;omega)]
end
theorem Hg(hh:∀l,h (l+100)=FU y l):QP h (Ia y)=true:=by
 refine PH fun p hp=>?_;obtain⟨q,h1,rfl⟩:=Ar.1 hp;show Rt h (q.2+100)=true;unfold Rt;rw[hh,cQ (Pj h1)]
theorem Gm{y:List Rl}(hy:y.length<=256){h':Nat->HO}(hh:∀l,h (l+100)=FU y l)(j:Nat):IL y j=.free\/(h j=IL y j/\XW h' (IL y j)=true):=by
 by_cases hj:j<100
 .exact .inl (mo y hj)
 .obtain⟨l,rfl⟩:∃l,j=l+100:=⟨j-100,by omega⟩
  right
  rw[EP y hy];refine⟨hh l,?_⟩;unfold FU;cases (AN y [])[l]?<;>rfl
abbrev yR:List Rl:=x.filter fun r=>!r.yanked
theorem aF(p:ByteArray):Ga (yR x) p=(Br x p).map AL:=by
 unfold Ga Br;rw[List.filter_filter,BI]
 rfl
def mC:List (Value×AV):=(AN (yR x) []).map fun p=>(.string p,sl AL (Br x p))
theorem jq{x:List Rl}:(Value.string p,a)∈mC x↔p∈AN (yR x) []/\a=sl AL (Br x p):=by
 unfold mC;rw[Ar];constructor
 .rintro⟨q,hq,e⟩
  injection e with e1 e2
  injection e1 with e1
  subst e1;exact⟨hq,e2.symm⟩
 .rintro⟨h1,h2⟩
  exact⟨p,h1,by rw[h2]⟩
theorem UG{x:List Rl}:Br x p=[]↔p∉AN (yR x) []:=by
 rw[G2];unfold Br;rw[DO,JL];constructor
 .rintro h (h1 | ⟨r,h1,h2⟩)
  .cases h1
  .obtain⟨h3,h4⟩:=CQ.1 h1;exact h r h3 (by rw[Ay h2,h4];rfl)
 .intro h r hr hc;rw[Aj,AQ]at hc;exact h (.inr ⟨r,CQ.2 ⟨hr,hc.2⟩,hc.1⟩)
theorem uq:∀(p:ByteArray) (a:AV),(Value.string p,a)∈mC x->a=sl AL (Br x p):=fun _ _ h=>(jq.1 h).2
theorem ur:∀p:ByteArray,(∀a,(Value.string p,a)∉mC x)->Br x p=[]:=fun _ h=>UG.2 fun hp=>h _ (jq.2 ⟨hp,rfl⟩)
theorem ut:∀p:ByteArray,Br x p=[]->∀a,(Value.string p,a)∉mC x:=fun _ h _ ha=>UG.1 h (jq.1 ha).1
abbrev plN:Nm:=⟨[2],[],[],[(52,[12])],[],[12],[50],[(53,(16,3,90,6)),(54,(16,4,91,1)),(55,(16,7,93,10)),(56,(16,8,94,4))],[],[(850013,13),(800013,10016),(810013,20016),(900013,10000000000+92000000+90016)],[5,7,8,9,11,12,13]⟩
abbrev kC(p:ByteArray):Value×AV:=(.string p,sl AL (Br x p))
abbrev kA(p:ByteArray):Value×AV:=(.string p,sl Ap (BC x p))
theorem m7{x:List Rl}{kv:Value×AV}{O0 : List (Value×AV)}(h:(l.map (kC x)).Perm (kv::O0)):∃t r,kv=kC x t/\O0=r.map (kC x)/\l.Perm (t::r):=by
 obtain⟨ps,h1,h2⟩:=Ma h l rfl;cases ps with
 |nil=>cases h2
 |cons t r=>
  rw[Bb,Jb]at h2;exact⟨t,r,h2.1.symm,h2.2.symm,h1.symm⟩
abbrev srN(roots:List Rq)(C A:List (Value×AV)):List (Nat×HO):=
 [(2000,.cells [sl Af roots,.cmap Cc C,.cmap Cc A,.slice (.id 2001 6) [],.slice (.id 2002 1) [],.mref 2003,vb false,.slice .none [],.slice .none [],.msl 2004 0]),(2001,.tok 6 0),(2002,.tok 1 0),(2003,.map E9 []),(2004,.arr 1 [])]
theorem Wo{x:List Rl}:(Value.string p,a)∈l.map (kA x)↔p∈l/\a=sl Ap (BC x p):=by
 rw[Ar];constructor
 .rintro⟨q,hq,e⟩
  injection e with e1 e2
  injection e1 with e1
  subst e1;exact⟨hq,e2.symm⟩
 .rintro⟨h1,h2⟩
  exact⟨p,h1,by rw[h2]⟩
theorem bK(n:Nat):IL y (n+1000)=.free:=by
 unfold IL;rw[show Nat.blt (n+1000) 1000=false by rw[Bn];intro hc;rw[FD]at hc;omega,Bool.and_false];rfl
theorem VX{s:Nat->HO}(H:∀n,h (n+1000)=.free):∀j,1000<=j->j<2000->h j≠.free->s j≠.free:=fun j h1 _ hn=>by
 refine absurd (H (j-1000)) ?_;rw[show j-1000+1000=j by omega];exact hn
theorem lB(h:k<1000):Nat.beq (n+1000) k=false:=by
 rw[Bn];intro hc;have:=AT hc;omega
theorem bt{y:List Rl}{o:HO}(h:k<1000):(bif Nat.beq (n+1000) k then o else IL y (n+1000))=.free:=by
 rw[lB h,bK];rfl
attribute [local irreducible] HS
set_option maxRecDepth 30000 in
theorem s29(ifs:List (List AV))(roots:List Rq)(hx:∀r∈x,IX r)(h0:AX x=0):Bd Tryz.prog 81 [PK x ifs,sl Af roots] (Ag [] Ad) fun r h'=>∃l:List ByteArray,l.Perm (AN (yR x) [])/\r=.ref 2000 0/\h'=Ag (srN roots (mC x) (l.map (kA x))) Ad:=by
 have Wh:x.length<=256:=(I3 h0).1;refine Bm (IF plN) [(16,2000),(90,2001),(91,2002),(14,2003),(92,2004)] rfl BB hm rfl Tryz.func81 aa3 rfl (Nz rfl) aa3 rfl (Xi 0 (Xi 0 (Xi 0 (Xi {i:Nat // i<=x.length} (Xi (fun i=>⟨[(2,.ref 2 0),(5,.ref 16 0),(18,sl At x),(19,vi (x.map At).length),(20,vi i.1)],[(2,.ro (Ic x ifs)),(12,.mapU Cc (Ia (yR (x.take i.1)))),(13,.map Cc []),(14,.map E9 []),(16,.cells [sl Af roots,.mref 12,.mref 13,nzA,nzA,.mref 14,vb false,nzA,nzA,nzA])],IL (yR (x.take i.1))⟩) (Xi (fun i=>x.length-i.1) (Yi (Xi ⟨0,Ao _⟩ ?_) ?_)))))))
 .refine⟨Z5,Z5,fun j=>.inl ?_,Bp aa3⟩;show IL [] j=.free;unfold IL;cases (Nat.ble 100 j&&Nat.blt j 1000)<;>rfl
 intro⟨i,i1⟩;have hq:∀k,(yR (x.take k)).length<=256:=fun k=>by
  have:=CL (fun r:Rl=>!r.yanked) (x.take k)
  rw[Bv]at this;show(List.filter _ _).length<=256;omega
 refine Xi 0 (Yi ?_ ?_)
 .intro h;have h:i<x.length:=by simpa using h
  have hg:x[i]?=some x[i]:=Ge h;have K2:x.take (i+1)=x.take i++[x[i]]:=by rw[CE,hg];rfl
  refine Xi 0 (Xi (At x[i]) (Yi (Yi (Nn i) (by simp[hg])) (Yi rfl ?_)));refine Yi (Nz rfl) (yN (Xi ⟨[(2,.ref 2 0),(5,.ref 16 0),(7,.ref 7 0),(18,sl At x),(19,vi (x.map At).length),(20,vi i)],[(2,.ro (Ic x ifs)),(7,.cells (At x[i])),(12,.mapU Cc (Ia (yR (x.take i)))),(13,.map Cc []),(14,.map E9 []),(16,.cells [sl Af roots,.mref 12,.mref 13,nzA,nzA,.mref 14,vb false,nzA,nzA,nzA])],IL (yR (x.take i))⟩ (Yi ?_ ?_)))
  .exact⟨Z6,⟨Zr,Zr,⟨rfl,Hg _ (EP _ (hq _))⟩,Zr,Zr,Zr,Tv⟩,Gm (hq _) (EP _ (hq _)),Bp aa3⟩
  refine Xi 0 (Yi (fun hy=>?_) (fun hy=>?_))
  .have ey:yR (x.take (i+1))=yR (x.take i):=by
    unfold yR;rw[K2,NY,List.filter_cons_of_neg (by rw[hy];decide)];simp
   refine Xi ⟨[(2,.ref 2 0),(5,.ref 16 0),(18,sl At x),(19,vi (x.map At).length),(20,vi i)],[(2,.ro (Ic x ifs)),(12,.mapU Cc (Ia (yR (x.take (i+1))))),(13,.map Cc []),(14,.map E9 []),(16,.cells [sl Af roots,.mref 12,.mref 13,nzA,nzA,.mref 14,vb false,nzA,nzA,nzA])],IL (yR (x.take (i+1)))⟩ (Yi ?_ ?_)
   .rw[ey];exact⟨Z5,⟨Zr,⟨rfl,Hg _ (EP _ (hq _))⟩,Zr,Zr,Zr,Tv⟩,Gm (hq _) (EP _ (hq _)),Bp aa3⟩
   refine Xi 0 (Yi (Ii i B0) (Xi ⟨i+1,by omega⟩ ?_));exact⟨Dl x.length i B0,Z5,⟨Zr,⟨rfl,Hg _ (EP _ (hq _))⟩,Zr,Zr,Zr,Tv⟩,Gm (hq _) (EP _ (hq _)),Bp aa3⟩
  refine Xi 0 (yN (Xi .pure (Xi _ (Yi (pX x[i].ver) (Xi ⟨[(2,.ref 2 0),(5,.ref 16 0),(7,.ref 7 0),(8,vi (plc x[i].ver)),(18,sl At x),(19,vi (x.map At).length),(20,vi i)],[(2,.ro (Ic x ifs)),(7,.cells (At x[i])),(12,.mapU Cc (Ia (yR (x.take i)))),(13,.map Cc []),(14,.map E9 []),(16,.cells [sl Af roots,.mref 12,.mref 13,nzA,nzA,.mref 14,vb false,nzA,nzA,nzA])],IL (yR (x.take i))⟩ (Yi ?_ ?_))))))
  .exact⟨Z7,⟨Zr,Zr,⟨rfl,Hg _ (EP _ (hq _))⟩,Zr,Zr,Zr,Tv⟩,Gm (hq _) (EP _ (hq _)),Bp aa3⟩
  have ey:yR (x.take (i+1))=yR (x.take i)++[x[i]]:=by
   unfold yR;rw[K2,NY,List.filter_cons_of_pos (by rw[hy];decide)];rfl
  have hyl:(yR (x.take i)).length<=256:=by
   have:=CL (fun r:Rl=>!r.yanked) (x.take i)
   rw[Bv]at this;show(List.filter _ _).length<=256;omega
  have hP:∀l,IL (yR (x.take i)) (l+100)=FU (yR (x.take i)) l:=EP _ (hq _);refine BK (Classical.em (x[i].path∈AN (yR (x.take i)) [])) (fun hp=>?_) (fun hp=>?_)
  .refine A1 (A6.1 hp) (fun k hk=>?_);have hu:=dS hk;have hl:(Ga (yR (x.take i)) x[i].path).length<=256:=by
    rw[Lm];exact AO (CL _ _) hyl
   have tM:k<256:=by
    have:=(AE.1 hk).1
    have:=G1 (yR (x.take i)) []
    simp only[A0]at this;omega
   have hr:IL (yR (x.take i)) (k+100)=.tok 10 (Ga (yR (x.take i)) x[i].path).length:=by rw[hP,cQ hk]
   refine Xi 0 ?_;refine Or.inl (Xi (.slice (.id (k+100) 10) (Ga (yR (x.take i)) x[i].path)) (Yi hu ?_));refine yN (QB (e:=242) (m:=9) (es2:=[QG x[i]]) rfl rfl rfl (fun _ h=>h) hr ⟨rfl,trivial⟩ (by show(_+1)*128<=_;omega) (by show _+1<=_;omega) (Yi (IG ⟨AS _,AS _,AS _,AS _,AS _,AS _,AS _,AS _,AS _,AS _,AS _,AS _,AS _,AS _,AS _,AS _,DU (show 49<10000000 by decide),DU (by show _+100<10000000;omega),DU (show 12<10000000 by decide),trivial⟩ aa3) ?_));have e9:EF (Ia (yR (x.take i))) (.string x[i].path) (.slice (.id (k+100) 10) (Ga (yR (x.take i)) x[i].path++[QG x[i]]))=Ia (yR (x.take (i+1))):=by rw[ey];exact iG hk
   have hG:∀l,(bif Nat.beq (l+100) (k+100)then HO.tok 10 ((Ga (yR (x.take i)) x[i].path).length+1)else FU (yR (x.take i)) l)=FU (yR (x.take (i+1))) l:=by rw[ey];exact kN hk
   refine Xi ⟨[(2,.ref 2 0),(5,.ref 16 0),(18,sl At x),(19,vi (x.map At).length),(20,vi i)],[(2,.ro (Ic x ifs)),(12,.mapU Cc (Ia (yR (x.take (i+1))))),(13,.map Cc []),(14,.map E9 []),(16,.cells [sl Af roots,.mref 12,.mref 13,nzA,nzA,.mref 14,vb false,nzA,nzA,nzA])],IL (yR (x.take (i+1)))⟩ (Yi ?_ ?_)
   .refine⟨Z5,⟨Zr,⟨Ab (HO.mapU Cc) e9,Hg _ (EP _ (hq _))⟩,Zr,Zr,Zr,Tv⟩,Gm (hq _) (fun l=>?_),VX (fun n=>?_)⟩
    .show(bif Nat.beq (l+100) (k+100)then HO.tok 10 ((Ga (yR (x.take i)) x[i].path).length+1)else IL (yR (x.take i)) (l+100))=_;rw[hP];exact hG l
    .exact bt (y:=yR (x.take i)) (show k+100<1000 by omega)
   refine Xi 0 (Yi (Ii i B0) (Xi ⟨i+1,by omega⟩ ?_));exact⟨Dl x.length i B0,Z5,⟨Zr,⟨rfl,Hg _ (EP _ (hq _))⟩,Zr,Zr,Zr,Tv⟩,Gm (hq _) (EP _ (hq _)),Bp aa3⟩
  .have SP:(AN (yR (x.take i)) []).length<=256:=by
    have:=G1 (yR (x.take i)) []
    simp only[A0]at this;omega
   have hn:=UU hp;have hr:IL (yR (x.take i)) ((AN (yR (x.take i)) []).length+100)=.free:=by
    rw[hP];unfold FU;rw[EI (Ai _)]
   refine Xi ((AN (yR (x.take i)) []).length+100) ?_;refine Or.inr (Yi hn ?_);refine yN (QA (e:=242) (m:=9) (es2:=[QG x[i]]) rfl rfl rfl (fun _ h=>h) hr rfl ⟨rfl,trivial⟩ (by show 1*128<=_;omega) (by show 1<=_;omega) (Yi (IG ⟨AS _,AS _,AS _,AS _,AS _,AS _,AS _,AS _,AS _,AS _,AS _,AS _,AS _,AS _,AS _,AS _,DU (show 49<10000000 by decide),DU (by show _+100<10000000;omega),DU (show 12<10000000 by decide),trivial⟩ aa3) ?_));have e9:EF (Ia (yR (x.take i))) (.string x[i].path) (.slice (.id ((AN (yR (x.take i)) []).length+100) 10) [QG x[i]])=Ia (yR (x.take (i+1))):=by rw[ey];exact iE hp
   have hG:∀l,(bif Nat.beq (l+100) ((AN (yR (x.take i)) []).length+100)then HO.tok 10 1 else FU (yR (x.take i)) l)=FU (yR (x.take (i+1))) l:=by rw[ey];exact kM hp
   refine Xi ⟨[(2,.ref 2 0),(5,.ref 16 0),(18,sl At x),(19,vi (x.map At).length),(20,vi i)],[(2,.ro (Ic x ifs)),(12,.mapU Cc (Ia (yR (x.take (i+1))))),(13,.map Cc []),(14,.map E9 []),(16,.cells [sl Af roots,.mref 12,.mref 13,nzA,nzA,.mref 14,vb false,nzA,nzA,nzA])],IL (yR (x.take (i+1)))⟩ (Yi ?_ ?_)
   .refine⟨Z5,⟨Zr,⟨Ab (HO.mapU Cc) e9,Hg _ (EP _ (hq _))⟩,Zr,Zr,Zr,Tv⟩,Gm (hq _) (fun l=>?_),VX (fun n=>?_)⟩
    .show(bif Nat.beq (l+100) ((AN (yR (x.take i)) []).length+100)then HO.tok 10 1 else IL (yR (x.take i)) (l+100))=_;rw[hP];exact hG l
    .exact bt (y:=yR (x.take i)) (show(AN (yR (x.take i)) []).length+100<1000 by omega)
   refine Xi 0 (Yi (Ii i B0) (Xi ⟨i+1,by omega⟩ ?_));exact⟨Dl x.length i B0,Z5,⟨Zr,⟨rfl,Hg _ (EP _ (hq _))⟩,Zr,Zr,Zr,Tv⟩,Gm (hq _) (EP _ (hq _)),Bp aa3⟩
 .intro h;have h:¬i<x.length:=by simpa using h
  have et:x.take i=x:=Bj B0;have eM:∀hh:Nat->HO,Rx hh (Ia (yR (x.take i)))=(AN (yR x) []).map (kC x):=fun hh=>by
   rw[et];unfold Rx Ia;rw[BI];refine Cr fun j=>?_;rw[BE,BE,List.getElem?_zipIdx];cases (AN (yR x) [])[j]? with
   |none=>rfl
   |some q=>show some (Value.string q,AV.slice .none (Ga (yR x) q))=_;rw[aF];rfl
  refine Xi ⟨[(2,.ref 2 0),(5,.ref 16 0)],[(2,.ro (Ic x ifs)),(12,.mapU Cc (Ia (yR (x.take i)))),(13,.map Cc []),(14,.map E9 []),(16,.cells [sl Af roots,.mref 12,.mref 13,nzA,nzA,.mref 14,vb false,nzA,nzA,nzA])],IL (yR (x.take i))⟩ (Yi ?_ ?_)
  .exact⟨Z2,⟨Zr,⟨rfl,Hg _ (EP _ (hq _))⟩,Zr,Zr,Zr,Tv⟩,Gm (hq _) (EP _ (hq _)),Bp aa3⟩
  refine Xi 0 (Xi {p:List ByteArray×List ByteArray×Option (Value×AV) // (p.1++p.2.1).Perm (AN (yR x) [])} (Xi (fun p=>⟨[(2,.ref 2 0),(5,.ref 16 0),(56,.ref 56 0)],[(2,.ro (Ic x ifs)),(12,.rom Cc ((AN (yR x) []).map (kC x))),(13,.map Cc (p.1.1.map (kA x))),(14,.map E9 []),(16,.cells [sl Af roots,.mref 12,.mref 13,.slice (.id 90 6) [],.slice (.id 91 1) [],.mref 14,vb false,.slice (.id 93 10) [],.slice (.id 94 4) [],nzA]),(56,.iter ((AN (yR x) []).map (kC x)) (p.1.2.1.map (kC x)) p.1.2.2),(90,.tok 6 0),(91,.tok 1 0),(93,.tok 10 0),(94,.tok 4 0)],Ad⟩) (Xi (fun p=>p.1.2.1.length) (Yi (Xi ⟨([],AN (yR x) [],none),.refl _⟩ ?_) ?_))))
  .refine⟨Z3,⟨Zr,⟨Ab (HO.rom Cc) (eM _),rfl⟩,Zr,Zr,Zr,⟨?_,rfl⟩,Zr,Zr,Zr,Zr,Tv⟩,Fh,VX (fun n=>?_)⟩
   .show HO.iter (Rx _ (Ia (yR (x.take i)))) (Rx _ (Ia (yR (x.take i)))) none=_;rw[eM]
   .exact bK (yR (x.take i)) n
  intro⟨⟨done,rem,Dn⟩,r1⟩;refine Xi 0 (Yi ?_ ?_)
  .intro hr;have hr:rem=[]:=DO.1 hr;subst hr;rw[B5]at r1;refine cU [(5,.ref 16 0)] [(14,.map E9 []),(16,.cells [sl Af roots,.cmap Cc (mC x),.cmap Cc (done.map (kA x)),.slice (.id 90 6) [],.slice (.id 91 1) [],.mref 14,vb false,.slice (.id 93 10) [],.slice (.id 94 4) [],.msl 92 0]),(90,.tok 6 0),(91,.tok 1 0),(92,.arr 1 []),(93,.tok 10 0),(94,.tok 4 0)] Z1 Z7 (Xi 0 ?_);exact Xi _ (Yi (.refl _) (Xi done (Yi r1 (Yi rfl rfl))))
  .intro kv O0 hp;refine A1 (m7 hp) (fun t hp=>A1 hp (fun r hp=>?_));have e1:=hp.1;have e2:=hp.2.1;subst e1;subst e2;have hp:=hp.2.2;refine cU [(2,.ref 2 0),(5,.ref 16 0),(56,.ref 56 0)] [(2,.ro (Ic x ifs)),(12,.rom Cc ((AN (yR x) []).map (kC x))),(13,.map Cc (done.map (kA x))),(14,.map E9 []),(16,.cells [sl Af roots,.mref 12,.mref 13,.slice (.id 90 6) [],.slice (.id 91 1) [],.mref 14,vb false,.slice (.id 93 10) [],.slice (.id 94 4) [],nzA]),(56,.iter ((AN (yR x) []).map (kC x)) (r.map (kC x)) (some (kC x t))),(90,.tok 6 0),(91,.tok 1 0),(93,.tok 10 0),(94,.tok 4 0)] Z3 Z10 (Xi 0 (cU [(2,.ref 2 0),(5,.ref 16 0),(10,vs t),(56,.ref 56 0)] [(2,.ro (Ic x ifs)),(12,.rom Cc ((AN (yR x) []).map (kC x))),(13,.map Cc (done.map (kA x))),(14,.map E9 []),(16,.cells [sl Af roots,.mref 12,.mref 13,.slice (.id 90 6) [],.slice (.id 91 1) [],.mref 14,vb false,.slice (.id 93 10) [],.slice (.id 94 4) [],nzA]),(56,.iter ((AN (yR x) []).map (kC x)) (r.map (kC x)) (some (kC x t))),(90,.tok 6 0),(91,.tok 1 0),(93,.tok 10 0),(94,.tok 4 0)] Z4 Z10 (Xi 0 ?_)));have SU:(done++rem).Nodup:=r1.nodup_iff.2 (ED _ [] GB);have zC:t∉done:=fun hc=>(List.nodup_append.1 SU).2.2 t hc t (hp.mem_iff.2 (Ae ..)) rfl;have em:EF (done.map (kA x)) (.string t) (sl Ap (BC x t))=(done++[t]).map (kA x):=by
    rw[Ib (fun a ha=>zC (Wo.1 ha).1),AG];rfl
   have bT:((done++[t])++r).Perm (AN (yR x) []):=by
    rw[AK];exact(List.Perm.append_left _ hp.symm).trans r1
   refine yN (Xi _ (Yi (sv x ifs t (c84 x ifs hx)) (Yi aa3 (Xi ⟨(done++[t],r,some (kC x t)),bT⟩ ?_))));exact⟨by show r.length<rem.length;rw[hp.length_eq,AF];omega,Z3,⟨Zr,Zr,⟨Ab (HO.map Cc) em,rfl⟩,Zr,Zr,Zr,Zr,Zr,Zr,Zr,Tv⟩,Fh,Bp aa3⟩
end Go.Eng
namespace Go.Eng
open Go.Proofs
variable {i:Nat}(x:List Rl)(ifs:List (List AV))(roots:List Rq)(a:An)
theorem ZF{x:List Rl}(h0:AX x=0){p:ByteArray}(h:p∉AN (yR x) []):BC x p=[]:=by
 rw[dp h0]
 have:x.filter (bG p)=[]:=by
  rw[JL];intro r hr hc;unfold bG at hc;rw[Aj,AQ]at hc;exact h ((G2 _ _ _).2 (.inr ⟨r,CQ.2 ⟨hr,hc.2⟩,hc.1⟩))
 rw[this];rfl
theorem qb{x:List Rl}{roots:List Rq}(hx:∀r∈x,IX r)(hr:∀q∈roots,Jz q)(h0:AX x=0)(h1:Bu roots=0){l:List ByteArray}(hl:l.Perm (AN (yR x) [])):wR x roots (mC x) (l.map (kA x)) where
 hx:=h0
 hr:=h1
 fx:=hx
 fr:=hr
 c1:=uq x
 c2:=ur x
 c3:=ut x
 av p:=by
  by_cases hp:p∈l
  .exact⟨sl Ap (BC x p),fun a ha=>(Wo.1 ha).2,fun hn=>(hn _ (Wo.2 ⟨hp,rfl⟩)).elim,fun h=>pP p (BC x p) (Nq x p)⟩
  .refine⟨nzA,fun a ha=>(hp (Wo.1 ha).1).elim,fun _=>rfl,fun h=>?_⟩;have e:=ZF h0 (fun hc=>hp (hl.mem_iff.2 hc));have hc:=pP p (BC x p) (Nq x p);rw[e]at hc⊢;exact Ls.args hc ⟨.refl _,.nil,trivial⟩
abbrev nD:Nm:=⟨[2],[],[],[],[],[],[],[(50,(9,3,95,3))],[(44,0)],[(100016,1009)],[3,4,5,6,7,8,9,10,11,14,15,16]⟩
abbrev an0:An:=⟨false,[],[],[]⟩
def DE:An:=if Fm x roots=true/\(EM x roots).ss.full=false then gG x roots else an0
def HR:Int:=if Fm x roots=true then if(EM x roots).ss.full=true then 7 else 0 else 1
abbrev aZ:AV:=.tup [.agg (JT (DE x roots)),vi (HR x roots)]
theorem DW.an0{v:AV}:DW (.tup [.agg [vb false,nzA,nzA,nzA],v]) (.tup [.agg (JT an0),v]):=
 DW.tup ⟨DW.agg ⟨.refl _,.nil,.nil,.nil,trivial⟩,.refl _,trivial⟩
theorem TT{x:List Rl}{roots:List Rq}(hx:∀r∈x,IX r)(hr:∀q∈roots,Jz q)(h0:AX x=0)(h1:Bu roots=0){L:List ByteArray}(hl:L.Perm (AN (yR x) [])){o:JO}(ho:EM x roots=o) :
  Bd Tryz.prog 82 [.ref 1000 0] (Ag (IR roots (mC x) (L.map (kA x)) vv [] []) Ad) (Zw roots (mC x) (L.map (kA x)) o):=by
 rw[<-ho];exact Aaw (qb hx hr h0 h1 hl) (x.length+1) (.nil x) (Is.nil roots) ⟨⟨rfl,Ao _⟩,GB⟩ rfl (Nat.lt_succ_of_le (CL _ _)) rfl
theorem Zh{x:List Rl}{roots:List Rq}(h:Fm x roots=true):AX x=0/\Bu roots=0:=by
 unfold Fm at h;rw[Aj,AQ,AQ]at h;exact h
theorem nQ(hx:∀r∈x,IX r)(hr:∀q∈roots,Jz q)(hv:Fm x roots=false):PC 38 [PK x ifs,sl Af roots] (.tup [.agg (JT an0),vi 1]):=by
 have SM:=wN x ifs roots hx hr;rw[hv]at SM;refine Ps nD Tryz.func38 rfl (Nz rfl) (Yi ?_ ?_)
 .exact Nz rfl
 refine Xi .pure (Xi _ (Yi SM (Yi ?_ ?_)))
 .exact Nz rfl
 refine Yi ?_ ?_
 .exact Nz rfl
 exact DW.an0
theorem kr(hx:∀r∈x,IX r)(hr:∀q∈roots,Jz q)(hv:Fm x roots=true)(h0:AX x=0)(h1:Bu roots=0)(k:Nat)(infs:List Nf)(drv:List (List Tm))(dec:List Cd)(st:List (List Sk))(ho:EM x roots=⟨k,false,⟨infs,drv,true⟩,dec,st⟩):PC 38 [PK x ifs,sl Af roots] (.tup [.agg (JT an0),vi 7]):=by
 have SM:=wN x ifs roots hx hr;rw[hv]at SM;refine Ps nD Tryz.func38 rfl (Nz rfl) (Yi ?_ ?_)
 .exact Nz rfl
 refine Xi .pure (Xi _ (Yi SM (cU [(1,sl Af roots),(2,.ref 2 0),(4,.ref 4 0)] [(2,.ro (Ic x ifs)),(4,.cells [vb false,nzA,nzA,nzA])] Z3 Z2 (Yi ?_ ?_))))
 .exact Nz rfl
 refine Xi (.gen [] 5) (Yi rfl ((s29 x ifs roots hx h0).imp ?_));intro v g q;refine A1 q (fun L q=>?_);have q1:=q.2.1;have q2:=q.2.2;have qp:=q.1;subst q1;subst q2;refine cU [(4,.ref 4 0),(6,.ref 11900 0)] [(4,.cells [vb false,nzA,nzA,nzA]),(11900,.cells [sl Af roots,.cmap Cc (mC x),.cmap Cc (L.map (kA x)),.slice (.id 11901 6) [],.slice (.id 11902 1) [],.mref 11903,vb false,.slice .none [],.slice .none [],.msl 11904 0]),(11901,.tok 6 0),(11902,.tok 1 0),(11903,.map E9 []),(11904,.arr 1 [])] Z2 Z6 (Xi (.gen [(11900,1000),(11901,1001),(11902,1002),(11903,1003),(11904,1004)] 1) (Yi rfl ((TT hx hr h0 h1 qp ho).imp ?_)));intro v g q;have q1:=q.1;have q2:=q.2;subst q1;subst q2;refine cU [(4,.ref 4 0),(6,.ref 11900 0),(7,vi (k:Nat)),(8,vb false)] [(4,.cells [vb false,nzA,nzA,nzA]),(11900,.cells [sl Af roots,.cmap Cc (mC x),.cmap Cc (L.map (kA x)),.slice (.id 11901 6) (infs.map AR),.slice (.id 11902 1) (drv.map AD),.mref 11903,vb true,sl AL dec,sl Al (AH dec),.msl 12200 st.length]),(11901,.tok 6 infs.length),(11902,.tok 1 drv.length),(11903,.map E9 (Fe 0 infs)),(12200,.arr 1 (st.map A7))] Z4 Z6 (Yi (fun _=>?_) (fun h=>by cases h));refine cU [(4,.ref 4 0)] [(4,.cells [vb false,nzA,nzA,nzA])] Z1 Z1 (Yi ?_ ?_)
 .exact Nz rfl
 refine Yi ?_ ?_
 .exact Nz rfl
 exact DW.an0
theorem rh(hx:∀r∈x,IX r)(hr:∀q∈roots,Jz q)(hv:Fm x roots=true)(h0:AX x=0)(h1:Bu roots=0)(k:Nat)(infs:List Nf)(drv:List (List Tm))(dec:List Cd)(st:List (List Sk))(ho:EM x roots=⟨k,false,⟨infs,drv,false⟩,dec,st⟩)(hk:k<infs.length)(hl:infs.length<=65536):PC 38 [PK x ifs,sl Af roots] (.tup [.agg (JT ⟨false,[],infs.take (k+1),[]⟩),vi 0]):=by
 have SM:=wN x ifs roots hx hr;rw[hv]at SM;refine Ps nD Tryz.func38 rfl (Nz rfl) (Yi ?_ ?_)
 .exact Nz rfl
 refine Xi .pure (Xi _ (Yi SM (cU [(1,sl Af roots),(2,.ref 2 0),(4,.ref 4 0)] [(2,.ro (Ic x ifs)),(4,.cells [vb false,nzA,nzA,nzA])] Z3 Z2 (Yi ?_ ?_))))
 .exact Nz rfl
 refine Xi (.gen [] 5) (Yi rfl ((s29 x ifs roots hx h0).imp ?_));intro v g q;refine A1 q (fun L q=>?_);have q1:=q.2.1;have q2:=q.2.2;have qp:=q.1;subst q1;subst q2;refine cU [(4,.ref 4 0),(6,.ref 11900 0)] [(4,.cells [vb false,nzA,nzA,nzA]),(11900,.cells [sl Af roots,.cmap Cc (mC x),.cmap Cc (L.map (kA x)),.slice (.id 11901 6) [],.slice (.id 11902 1) [],.mref 11903,vb false,.slice .none [],.slice .none [],.msl 11904 0]),(11901,.tok 6 0),(11902,.tok 1 0),(11903,.map E9 []),(11904,.arr 1 [])] Z2 Z6 (Xi (.gen [(11900,1000),(11901,1001),(11902,1002),(11903,1003),(11904,1004)] 1) (Yi rfl ((TT hx hr h0 h1 qp ho).imp ?_)));intro v g q;have q1:=q.1;have q2:=q.2;subst q1;subst q2;refine cU [(4,.ref 4 0),(6,.ref 11900 0),(7,vi (k:Nat)),(8,vb false)] [(4,.cells [vb false,nzA,nzA,nzA]),(11900,.cells [sl Af roots,.cmap Cc (mC x),.cmap Cc (L.map (kA x)),.slice (.id 11901 6) (infs.map AR),.slice (.id 11902 1) (drv.map AD),.mref 11903,vb false,sl AL dec,sl Al (AH dec),.msl 12200 st.length]),(11901,.tok 6 infs.length),(11902,.tok 1 drv.length),(11903,.map E9 (Fe 0 infs)),(12200,.arr 1 (st.map A7))] Z4 Z6 (Yi (fun h=>by cases h) (fun _=>?_));refine cU [(4,.ref 4 0),(6,.ref 11900 0),(7,vi (k:Nat)),(8,vb false)] [(4,.cells [vb false,nzA,nzA,nzA]),(11900,.cells [sl Af roots,.cmap Cc (mC x),.cmap Cc (L.map (kA x)),.slice (.id 11901 6) (infs.map AR),.slice (.id 11902 1) (drv.map AD),.mref 11903,vb false,sl AL dec,sl Al (AH dec),.msl 12200 st.length]),(11901,.tok 6 infs.length),(11902,.tok 1 drv.length),(11903,.map E9 (Fe 0 infs)),(12200,.arr 1 (st.map A7))] Z4 Z6 (cU [(4,.ref 4 0),(6,.ref 11900 0),(7,vi (k:Nat))] [(4,.cells [vb false,nzA,nzA,nzA]),(11900,.cells [sl Af roots,.cmap Cc (mC x),.cmap Cc (L.map (kA x)),.slice (.id 11901 6) (infs.map AR),.slice (.id 11902 1) (drv.map AD),.mref 11903,vb false,sl AL dec,sl Al (AH dec),.msl 12200 st.length]),(11901,.tok 6 infs.length),(11902,.tok 1 drv.length),(11903,.map E9 (Fe 0 infs)),(12200,.arr 1 (st.map A7))] Z3 Z6 (Yi (Ii k B0) ?_));have el:(infs.map AR).length=infs.length:=Lm ..;refine Yi ⟨Cp _,by show(0:Int)<=(k:Int)+1;omega,by show(k:Int)+1<=((infs.map AR).length:Int);rw[el];omega⟩ ?_;refine Yi (fun cs hcs=>by obtain⟨i,_,rfl⟩:=Ar.1 hcs;rfl) (Yi ?_ ?_)
 .exact Nz rfl
 refine Yi ?_ ?_
 .exact Nz rfl
 have et:((infs.map AR).take ((k:Int)+1).toNat).drop (0:Int).toNat=(infs.take (k+1)).map AR:=by
  rw[show((k:Int)+1).toNat=k+1 by omega];simp
 exact DW.tup ⟨DW.agg ⟨.refl _,.nil,.of_eq (show AV.slice .none (((infs.map AR).take ((k:Int)+1).toNat).drop (0:Int).toNat)=_ by rw[et]),.nil,trivial⟩,.refl _,trivial⟩
theorem U3(y:Sl):∀l:List Sl,(Um y l).Perm (y::l)
 | []=>.refl _
 |z::l=>by
  unfold Um;split
  .exact .refl _
  .exact((U3 y l).cons z).trans (List.Perm.swap y z l)
theorem TV:∀l:List Sl,(Ev l).Perm l
 | []=>.refl _
 |y::l=>(U3 y _).trans ((TV l).cons y)
theorem flat_len{b:Nat}:∀{st:List (List Sk)},(∀s∈st,s.length<=b)->st.flatten.length<=b*st.length
 | [],_=>by simp
 |s::st,h=>by
  rw[By,Aa,AF,Nat.mul_succ]
  have:=h s (Ae ..)
  have:=flat_len (st:=st) fun t ht=>h t (Ah _ ht)
  omega
theorem kB{st:List (List Sk)}(h:st.length<=256)(hs:∀s∈st,s.length<=256)(i:Nat):((st.take i).flatten).length<=65536:=by
 have h1:=flat_len (b:=256) (st:=st.take i) fun s ao=>hs s (EZ ao)
 have:(st.take i).length<=256:=by rw[Bv];omega
 omega
theorem nR(hx:∀r∈x,IX r)(hr:∀q∈roots,Jz q)(hv:Fm x roots=true)(h0:AX x=0)(h1:Bu roots=0)(k:Nat)(infs:List Nf)(drv:List (List Tm))(dec:List Cd)(st:List (List Sk))(ho:EM x roots=⟨k,true,⟨infs,drv,false⟩,dec,st⟩)(hd:dec.length<=256)(hn:((AH dec).map (·.path)).Nodup)(IM:st.length<=256)(ud:∀s∈st,s.length<=256):PC 38 [PK x ifs,sl Af roots] (.tup [.agg (JT ⟨true,Ev (AH dec),infs,st.flatten⟩),vi 0]):=by
 have SM:=wN x ifs roots hx hr;rw[hv]at SM;refine Ps nD Tryz.func38 rfl (Nz rfl) (Yi ?_ ?_)
 .exact Nz rfl
 refine Xi .pure (Xi _ (Yi SM (cU [(1,sl Af roots),(2,.ref 2 0),(4,.ref 4 0)] [(2,.ro (Ic x ifs)),(4,.cells [vb false,nzA,nzA,nzA])] Z3 Z2 (Yi ?_ ?_))))
 .exact Nz rfl
 refine Xi (.gen [] 5) (Yi rfl ((s29 x ifs roots hx h0).imp ?_));intro v g q;refine A1 q (fun L q=>?_);have q1:=q.2.1;have q2:=q.2.2;have qp:=q.1;subst q1;subst q2;refine cU [(4,.ref 4 0),(6,.ref 11900 0)] [(4,.cells [vb false,nzA,nzA,nzA]),(11900,.cells [sl Af roots,.cmap Cc (mC x),.cmap Cc (L.map (kA x)),.slice (.id 11901 6) [],.slice (.id 11902 1) [],.mref 11903,vb false,.slice .none [],.slice .none [],.msl 11904 0]),(11901,.tok 6 0),(11902,.tok 1 0),(11903,.map E9 []),(11904,.arr 1 [])] Z2 Z6 (Xi (.gen [(11900,1000),(11901,1001),(11902,1002),(11903,1003),(11904,1004)] 1) (Yi rfl ((TT hx hr h0 h1 qp ho).imp ?_)));intro v g q;have q1:=q.1;have q2:=q.2;subst q1;subst q2;refine cU [(4,.ref 4 0),(6,.ref 11900 0),(7,vi (k:Nat)),(8,vb true)] [(4,.cells [vb false,nzA,nzA,nzA]),(11900,.cells [sl Af roots,.cmap Cc (mC x),.cmap Cc (L.map (kA x)),.slice (.id 11901 6) (infs.map AR),.slice (.id 11902 1) (drv.map AD),.mref 11903,vb false,sl AL dec,sl Al (AH dec),.msl 12200 st.length]),(11901,.tok 6 infs.length),(11902,.tok 1 drv.length),(11903,.map E9 (Fe 0 infs)),(12200,.arr 1 (st.map A7))] Z4 Z6 (Yi (fun h=>by cases h) (fun _=>?_));refine cU [(4,.ref 4 0),(6,.ref 11900 0),(8,vb true)] [(4,.cells [vb false,nzA,nzA,nzA]),(11900,.cells [sl Af roots,.cmap Cc (mC x),.cmap Cc (L.map (kA x)),.slice (.id 11901 6) (infs.map AR),.slice (.id 11902 1) (drv.map AD),.mref 11903,vb false,sl AL dec,sl Al (AH dec),.msl 12200 st.length]),(11901,.tok 6 infs.length),(11902,.tok 1 drv.length),(11903,.map E9 (Fe 0 infs)),(12200,.arr 1 (st.map A7))] Z3 Z6 (cU [(4,.ref 4 0),(6,.ref 11900 0)] [(4,.cells [vb false,nzA,nzA,nzA]),(11900,.cells [sl Af roots,.cmap Cc (mC x),.cmap Cc (L.map (kA x)),.slice (.id 11901 6) (infs.map AR),.slice (.id 11902 1) (drv.map AD),.mref 11903,vb false,sl AL dec,sl Al (AH dec),.msl 12200 st.length]),(11901,.tok 6 infs.length),(11902,.tok 1 drv.length),(11903,.map E9 (Fe 0 infs)),(12200,.arr 1 (st.map A7))] Z2 Z6 ?_)
 have qu:(AH dec).length<=256:=by rw[Lm];exact hd
 have bR:Cz (AH dec):=AO qu aa2;refine Xi (AH dec).length (Xi 4 (Xi ((AH dec).map Al) (Yi rfl (Yi (Aay (AH dec) bR) (Yi ?_ ?_)))))
 .exact Nz rfl
 refine Yi aa3 (cU [(4,.ref 4 0),(6,.ref 11900 0),(9,.ref 9 0)] [(4,.cells [vb false,nzA,nzA,nzA]),(9,.cells [vb true,.msl 14400 (AH dec).length,.slice (.id 11901 6) (infs.map AR),nzA]),(11900,.cells [sl Af roots,.cmap Cc (mC x),.cmap Cc (L.map (kA x)),.slice (.id 11901 6) (infs.map AR),.slice (.id 11902 1) (drv.map AD),.mref 11903,vb false,sl AL dec,sl Al (AH dec),.msl 12200 st.length]),(11901,.tok 6 infs.length),(11902,.tok 1 drv.length),(11903,.map E9 (Fe 0 infs)),(12200,.arr 1 (st.map A7)),(14400,.arr 4 ((AH dec).map Al))] Z3 Z8 (Xi (.gen [(14400,1000)] 0) (Yi rfl ((s47 84 Tryz.closure84 (enters_of Tryz.func84 aa3 rfl) (AH dec) bR hn).imp ?_))));intro v g q;have q1:=q.1;have q2:=q.2;subst q1;subst q2;refine cU [(4,.ref 4 0),(6,.ref 11900 0),(9,.ref 9 0)] [(4,.cells [vb false,nzA,nzA,nzA]),(9,.cells [vb true,.msl 14400 (AH dec).length,.slice (.id 11901 6) (infs.map AR),.slice (.id 95 3) []]),(95,.tok 3 0),(11900,.cells [sl Af roots,.cmap Cc (mC x),.cmap Cc (L.map (kA x)),.slice (.id 11901 6) (infs.map AR),.slice (.id 11902 1) (drv.map AD),.mref 11903,vb false,sl AL dec,sl Al (AH dec),.msl 12200 st.length]),(11901,.tok 6 infs.length),(11902,.tok 1 drv.length),(11903,.map E9 (Fe 0 infs)),(12200,.arr 1 (st.map A7)),(14400,.arr 4 ((Ev (AH dec)).map Al))] Z3 Z9 (Xi {i:Nat // i<=st.length} (Xi (fun i=>⟨[(4,.ref 4 0),(6,.ref 11900 0),(9,.ref 9 0),(56,.msl 12200 st.length),(57,vi (st.length:Nat)),(58,vi i.1)],[(4,.cells [vb false,nzA,nzA,nzA]),(9,.cells [vb true,.msl 14400 (AH dec).length,.slice (.id 11901 6) (infs.map AR),.slice (.id 95 3) ((st.take i.1).flatten.map AJ)]),(95,.tok 3 ((st.take i.1).flatten.map AJ).length),(11900,.cells [sl Af roots,.cmap Cc (mC x),.cmap Cc (L.map (kA x)),.slice (.id 11901 6) (infs.map AR),.slice (.id 11902 1) (drv.map AD),.mref 11903,vb false,sl AL dec,sl Al (AH dec),.msl 12200 st.length]),(11901,.tok 6 infs.length),(11902,.tok 1 drv.length),(11903,.map E9 (Fe 0 infs)),(12200,.arr 1 (st.map A7)),(14400,.arr 4 ((Ev (AH dec)).map Al))],Ad⟩) (Xi (fun i=>st.length-i.1) (Yi (Xi ⟨0,Ao _⟩ ?_) ?_))))
 .exact⟨Z6,Z9,Fh,Tv⟩
 intro⟨i,i1⟩;refine Yi ?_ ?_
 .intro h;have h:(i:Int)<(st.length:Nat):=h;have h:i<st.length:=B0
  have hg:st[i]?=some st[i]:=Ge h;have K2:st.take (i+1)=st.take i++[st[i]]:=by rw[CE,hg];rfl
  refine Yi (Yi (Nn i) (by show(i:Int)<(st.length:Nat);omega)) (Yi (by rw[Lm]) (Xi (A7 st[i]) (Yi (by show(st.map A7)[((i:Nat):Int).toNat]?=_;rw[DQ,BE,hg];rfl) ?_)));refine cU [(4,.ref 4 0),(6,.ref 11900 0),(9,.ref 9 0),(11,sl AJ st[i]),(56,.msl 12200 st.length),(57,vi (st.length:Nat)),(58,vi i)] [(4,.cells [vb false,nzA,nzA,nzA]),(9,.cells [vb true,.msl 14400 (AH dec).length,.slice (.id 11901 6) (infs.map AR),.slice (.id 95 3) ((st.take i).flatten.map AJ)]),(95,.tok 3 ((st.take i).flatten.map AJ).length),(11900,.cells [sl Af roots,.cmap Cc (mC x),.cmap Cc (L.map (kA x)),.slice (.id 11901 6) (infs.map AR),.slice (.id 11902 1) (drv.map AD),.mref 11903,vb false,sl AL dec,sl Al (AH dec),.msl 12200 st.length]),(11901,.tok 6 infs.length),(11902,.tok 1 drv.length),(11903,.map E9 (Fe 0 infs)),(12200,.arr 1 (st.map A7)),(14400,.arr 4 ((Ev (AH dec)).map Al))] Z7 Z9 ?_
  have hfl:((st.take i).flatten).length<=65536/\st[i].length<=256:=⟨kB IM ud i,ud _ (Am _)⟩;have DG:BX 3 (st[i].map AJ)/\((st.take i).flatten.map AJ).length=((st.take i).flatten.map AJ).length/\(((st.take i).flatten.map AJ).length+(st[i].map AJ).length)*32<=140737488355328/\((st.take i).flatten.map AJ).length+(st[i].map AJ).length<=9223372036854775807:=by
   refine⟨DK (enc:=AJ) (n:=3) (fun _=>rfl) _,rfl,?_,?_⟩<;>simp only[Lm]<;>omega
  refine Yi DG (Yi ?_ ?_)
  .exact Nz rfl
  have ef:((st.take i).flatten.map AJ)++st[i].map AJ=((st.take (i+1)).flatten.map AJ):=by rw[K2,CM,AG];simp
  have en:((st.take i).flatten.map AJ).length+(st[i].map AJ).length=((st.take (i+1)).flatten.map AJ).length:=by rw[<-ef,Aa]
  refine cU [(4,.ref 4 0),(6,.ref 11900 0),(9,.ref 9 0),(56,.msl 12200 st.length),(57,vi (st.length:Nat)),(58,vi i)] [(4,.cells [vb false,nzA,nzA,nzA]),(9,.cells [vb true,.msl 14400 (AH dec).length,.slice (.id 11901 6) (infs.map AR),.slice (.id 95 3) ((st.take (i+1)).flatten.map AJ)]),(95,.tok 3 ((st.take (i+1)).flatten.map AJ).length),(11900,.cells [sl Af roots,.cmap Cc (mC x),.cmap Cc (L.map (kA x)),.slice (.id 11901 6) (infs.map AR),.slice (.id 11902 1) (drv.map AD),.mref 11903,vb false,sl AL dec,sl Al (AH dec),.msl 12200 st.length]),(11901,.tok 6 infs.length),(11902,.tok 1 drv.length),(11903,.map E9 (Fe 0 infs)),(12200,.arr 1 (st.map A7)),(14400,.arr 4 ((Ev (AH dec)).map Al))] Z6 ⟨Zr,⟨Ab (fun z=>HO.cells [vb true,.msl 14400 (AH dec).length,.slice (.id 11901 6) (infs.map AR),.slice (.id 95 3) z]) ef,rfl⟩,⟨Ab (HO.tok 3) en,rfl⟩,Zr,Zr,Zr,Zr,Zr,Zr,Tv⟩ (Yi (Ii i B0) (Xi ⟨i+1,by omega⟩ ?_));exact⟨Dl st.length i B0,Z6,Z9,Fh,Tv⟩
 .intro h;have h:¬(i:Int)<(st.length:Nat):=h;have et:st.take i=st:=Bj B0;have JZ:(AH dec).length=((Ev (AH dec)).map Al).length:=(TV (AH dec)).length_eq.symm.trans (Lm ..).symm;refine Yi JZ (cU [(4,.ref 4 0),(9,.ref 9 0)] [(4,.cells [vb false,nzA,nzA,nzA]),(9,.cells [vb true,.slice (.id 14400 4) ((Ev (AH dec)).map Al),.slice (.id 11901 6) (infs.map AR),.slice (.id 95 3) (st.flatten.map AJ)]),(95,.tok 3 (st.flatten.map AJ).length),(11901,.tok 6 infs.length),(14400,.tok 4 ((Ev (AH dec)).map Al).length)] Z2 ⟨Zr,⟨Ab (fun z:List (List Sk)=>HO.cells [vb true,.slice (.id 14400 4) ((Ev (AH dec)).map Al),.slice (.id 11901 6) (infs.map AR),.slice (.id 95 3) (z.flatten.map AJ)]) et,rfl⟩,⟨Ab (fun z:List (List Sk)=>HO.tok 3 (z.flatten.map AJ).length) et,rfl⟩,Zr,Zr,Tv⟩ (Yi ?_ ?_))
  .exact Nz rfl
  refine Yi ?_ ?_
  .exact Nz rfl
  refine Yi ?_ ?_
  .exact Nz rfl
  exact .refl _
theorem Qg{s:SS}{b:List Cd}{p:ByteArray}{needs:List Nd}:∀{cs:List Cd} {sk:List Sk},FS s b p needs cs sk->sk.length<=cs.length
 | [],sk,h=>by
  have h:sk=[]:=h;rw[h];exact Ai _
 |c::cs,sk,h=>by
  have h:if(needs.all fun n=>has n.rq.set c.place)=true then _ else _:=h
  by_cases hc:(needs.all fun n=>has n.rq.set c.place)=true
  .rw[As hc]at h;obtain⟨k,rest,rfl,_,h3⟩:=h
   have:=Qg h3
   simp only[AF];omega
  .rw[AB hc]at h
   have:=Qg h
   simp only[AF];omega
theorem UI{x:List Rl}{roots:List Rq}{s:SS}:∀{t:List Cd} {sl:List (List Sk)} {b:List Cd},Chain x roots s b t sl->sl.length=t.length/\∀k∈sl,k.length<=x.length
 | [],[],_,_=>⟨rfl,fun _ h=>by cases h⟩
 | [],_::_,_,h=>h.elim
 |_::_,[],_,h=>h.elim
 |c::t,sk::sl,b,⟨⟨p,needs,pre,post,hs⟩,h⟩=>by
  obtain⟨h1,h2⟩:=UI h;refine⟨by simp[h1],fun k hk=>?_⟩;rcases AM.1 hk with rfl | hk
  .have e1:=Qg hs.skips;have e2:=UF x p;rw[hs.cands,Aa]at e2;omega
  .exact h2 k hk
theorem s21(hx:∀r∈x,IX r)(hr:∀q∈roots,Jz q):PC 38 [PK x ifs,sl Af roots] (aZ x roots):=by
 unfold aZ DE HR;cases hv:Fm x roots with
 |false=>simpa using nQ x ifs roots hx hr hv
 |true=>
  obtain⟨h0,h1⟩:=Zh hv;have hR:=Vo h0 h1;have Wh:=(I3 h0).1;have hA:gG x roots=if(EM x roots).found=true then⟨true,Ev (AH (EM x roots).dec),(EM x roots).ss.infs,(EM x roots).stack.flatten⟩else⟨false,[],(EM x roots).ss.infs.take ((EM x roots).res+1),[]⟩:=rfl
  rw[hA];generalize ho:EM x roots=o at hR⊢;obtain⟨k,b,⟨infs,drv,full⟩,dec,st⟩:=o;have hl:infs.length<=65536:=hR.der.len;have hdl:drv.length=infs.length:=hR.der.dlen;cases b with
  |false=>
   cases full with
   |true=>simpa using kr x ifs roots hx hr hv h0 h1 k infs drv dec st ho
   |false=>
    have hk:k<drv.length:=((hR.no rfl).2.2 rfl).1;simpa using rh x ifs roots hx hr hv h0 h1 k infs drv dec st ho B0 hl
  |true=>
   obtain⟨hf,t,sl,e1,e2,hC,_⟩:=hR.yes rfl;subst hf;have e1:dec=[]++t:=e1;have e2:st=[]++sl:=e2;rw[Fc]at e1 e2;subst e1;subst e2;have hD:Dz x ([]++dec):=(Chain.ok (.nil x) (.nil roots) hC).1;rw[Fc]at hD;have hdx:=Xl hD;obtain⟨c1,c2⟩:=UI hC;have hn:((AH dec).map (·.path)).Nodup:=by rw[KE];exact hD.nodup
   simpa using nR x ifs roots hx hr hv h0 h1 k infs drv dec st ho B0 hn B0 (fun s hs=>AO (c2 s hs) Wh)
def YE:Int:=if HR x roots≠0 then HR x roots else if(DE x roots).found=true then 0 else 17
def kw:List Sl:=if YE x roots=0 then(DE x roots).sel else []
abbrev zN:Nm:=(pC [2] [])
theorem rg(e:Int)(h:PC 38 [PK x ifs,sl Af roots] (.tup [.agg (JT a),vi e])) :
  PC 19 [PK x ifs,sl Af roots] (.tup [if e≠0 then sl Al []else if a.found=true then sl Al a.sel else sl Al [],vi (if e≠0 then e else if a.found=true then 0 else 17)]):=by
 refine Ps zN Tryz.func19 rfl (Nz rfl) (Yi ?_ ?_)
 .exact Nz rfl
 refine Xi .pure (Xi _ (Yi h (Yi ?_ ?_)))
 .exact Nz rfl
 refine Yi (fun he=>?_) (fun he=>?_)
 .have e1:AV.tup [sl Al [],vi e]=.tup [if e≠0 then sl Al []else if a.found=true then sl Al a.sel else sl Al [],vi (if e≠0 then e else if a.found=true then 0 else 17)]:=by rw[As he,As he]
  exact(show DW (.tup [nzA,vi e]) (.tup [sl Al ([]:List Sl),vi e])from DW.tup ⟨.nil,.refl _,trivial⟩).trans (.of_eq e1)
 .have he:e=0:=BZ.1 he;have CU:¬e≠0:=fun h=>h he;refine Yi (fun hb=>?_) (fun hb=>?_)
  .have e1:AV.tup [sl Al a.sel,vi 0]=.tup [if e≠0 then sl Al []else if a.found=true then sl Al a.sel else sl Al [],vi (if e≠0 then e else if a.found=true then 0 else 17)]:=by rw[AB CU,AB CU,As hb,As hb]
   exact .of_eq e1
  .have hb:¬a.found=true:=by rw[hb];decide
   have e1:AV.tup [sl Al [],vi 17]=.tup [if e≠0 then sl Al []else if a.found=true then sl Al a.sel else sl Al [],vi (if e≠0 then e else if a.found=true then 0 else 17)]:=by rw[AB CU,AB CU,AB hb,AB hb]
   exact(show DW (.tup [nzA,vi 17]) (.tup [sl Al ([]:List Sl),vi 17])from DW.tup ⟨.nil,.refl _,trivial⟩).trans (.of_eq e1)
theorem s16(hx:∀r∈x,IX r)(hr:∀q∈roots,Jz q):PC 19 [PK x ifs,sl Af roots] (.tup [sl Al (kw x roots),vi (YE x roots)]):=by
 have h:=rg x ifs roots _ _ (s21 x ifs roots hx hr);have e1:(if HR x roots≠0 then sl Al []else if(DE x roots).found=true then sl Al (DE x roots).sel else sl Al [])=sl Al (kw x roots):=by
  unfold kw YE
  by_cases h1:HR x roots=0
  .by_cases h2:(DE x roots).found=true
   .simp[h1,h2]
   .simp[h1,h2]
  .simp[h1]
 have e2:(if HR x roots≠0 then HR x roots else if(DE x roots).found=true then 0 else 17)=YE x roots:=rfl;rw[e1,e2]at h;exact h
theorem bA{x:List Rl}{s:List Sl}(h:i<s.length):(s.take (i+1)).map (Iw x)=(s.take i).map (Iw x)++[Iw x s[i]]:=by rw[Ep h,AG];rfl
theorem cI{α:Type}{s:List α}(h:i<s.length):s.take (i+1)=s.take i++[s[i]]:=Ep h
theorem vG(s:List Sl)(md:PC 19 [.agg (Ic x ifs),sl Af roots] (.tup [sl Al s,vi 0]))(gy:PC 38 [.agg (Ic x ifs),sl Af roots] (.tup [.agg (JT a),vi 0]))(vT:∀p v,PC 40 [.agg (Ic x ifs),vs p,.agg (Il v)] (M9 (BL x ⟨p,v⟩)))(rO:∀y∈a.sel,(BL x y).isSome=true)(rS:∀q∈roots,Cz q.set)(hrl:roots.length<=1000000)(yn:a.sel.length<=1000000):PC 11 [.agg (Ic x ifs),sl Af roots] (.tup [.agg (BH (zG x roots a)),vi 0]):=by
 refine Ps ⟨[2,8],[],[],[],[],[],[],[(42,(10,0,60,2)),(43,(10,1,61,6))],[],[],[8]⟩ Tryz.func11 rfl (Nz rfl) (yN (Xi .pure (Xi _ (Yi md (Yi (fun h=>absurd h aa2) (fun _=>?_))))));refine yN (Xi .pure (Xi _ (Yi gy (yN (Yi (fun h=>absurd h aa2) (fun _=>?_))))));refine yN (cU [(1,sl Af roots),(2,.ref 2 0),(4,.ref 4 0),(8,.ref 8 0),(10,.ref 10 0)] [(2,.ro (Ic x ifs)),(4,.cells [nzA,nzA,nzA,nzA]),(8,.ro (JT a)),(10,.cells [nzA,nzA,sl AR a.infs,sl AJ a.skips])] Z5 Z4 (Xi {q:Nat // q<=roots.length} (Xi (fun q=>⟨[(2,.ref 2 0),(4,.ref 4 0),(8,.ref 8 0),(10,.ref 10 0),(42,sl Af roots),(43,vi (roots.map Af).length),(44,vi q.1)],[(2,.ro (Ic x ifs)),(4,.cells [nzA,nzA,nzA,nzA]),(8,.ro (JT a)),(10,.cells [.slice (.id 60 2) ((roots.take q.1).map Af),.slice (.id 61 6) [],sl AR a.infs,sl AJ a.skips]),(60,.tok 2 (roots.take q.1).length),(61,.tok 6 0)],Ad⟩) (Xi (fun q=>roots.length-q.1) (Yi (Xi ⟨0,Ao _⟩ ?_) ?_)))))
 .exact⟨Z7,Z6,Fh,Tv⟩
 intro⟨i,i1⟩;have i1:i<=roots.length:=i1;have iT:(roots.take i).length<=1000000:=(by rw[Bv];omega);refine Yi (fun h1=>?_) (fun h1=>?_)
 .have h1:(i:Int)<((roots.map Af).length:Int):=h1;have n1:=IN h1;refine Xi (Af roots[i]) (Yi (LX n1) (Yi rfl (yN (yN (Xi .pure (Xi _ (Yi (sm roots[i].set (rS _ (Am n1))) (yN (yN (Yi (Zm rfl (show(roots.take i).length<=2147483647 by omega) aa2) (yN (Yi (Ii i B0) ?_))))))))))));have er:(roots.take i).map Af++[[vs roots[i].path,sl Ap roots[i].set]]=(roots.take (i+1)).map Af:=by rw[cI n1,AG];rfl
  refine Xi ⟨i+1,n1⟩ ?_;exact⟨Dl roots.length i B0,Z7,⟨Zr,Zr,Zr,⟨(Ab (fun E:List (List AV)=>HO.cells [.slice (.id 60 2) E,.slice (.id 61 6) [],sl AR a.infs,sl AJ a.skips]) er),rfl⟩,⟨(show HO.tok 2 (((roots.take i).map Af).length+([[vs roots[i].path,sl Ap roots[i].set]]:List (List AV)).length)=.tok 2 (roots.take (i+1)).length by rw[cI n1,Aa,Lm];rfl),rfl⟩,Zr,Tv⟩,Fh,Tv⟩
 have h1:¬((i:Int)<((roots.map Af).length:Int)):=h1;have n1:=FH h1;refine Xi {q:Nat // q<=a.sel.length} (Xi (fun q=>⟨[(2,.ref 2 0),(4,.ref 4 0),(10,.ref 10 0),(60,sl Al a.sel),(61,vi (a.sel.map Al).length),(62,vi q.1)],[(2,.ro (Ic x ifs)),(4,.cells [nzA,nzA,nzA,nzA]),(10,.cells [.slice (.id 60 2) ((roots.take i).map Af),.slice (.id 61 6) (((a.sel.take q.1).map (Iw x)).map Cq),sl AR a.infs,sl AJ a.skips]),(60,.tok 2 (roots.take i).length),(61,.tok 6 ((a.sel.take q.1).map (Iw x)).length)],Ad⟩) (Xi (fun q=>a.sel.length-q.1) (Yi (Xi ⟨0,Ao _⟩ ?_) ?_)))
 .exact⟨Z6,Z5,Fh,Tv⟩
 intro⟨k,k1⟩;have k1:k<=a.sel.length:=k1;have kT:((a.sel.take k).map (Iw x)).length<=1000000:=(by rw[Lm,Bv];omega);refine Yi (fun h4=>?_) (fun h4=>?_)
 .have h4:(k:Int)<((a.sel.map Al).length:Int):=h4;have n4:=IN h4;obtain⟨r,hr⟩:=Option.isSome_iff_exists.1 (rO _ (Am n4));refine Xi (Al a.sel[k]) (Yi (LX n4) (Yi rfl (yN (yN (yN (yN ?_))))));have iP:=(vT a.sel[k].path a.sel[k].ver);rw[(show BL x ⟨a.sel[k].path,a.sel[k].ver⟩=some r from hr)]at iP;refine Xi .pure (Xi _ (Yi iP (yN (yN (Yi (Zm rfl (show((a.sel.take k).map (Iw x)).length<=2147483647 by omega) aa2) (yN (Yi (Ii k B0) ?_)))))));have ee:Iw x a.sel[k]=⟨a.sel[k].path,a.sel[k].ver,r.arch,r.ifc⟩:=by unfold Iw;rw[show BL x a.sel[k]=some r from hr]
  have er:((a.sel.take k).map (Iw x)).map Cq++[[vs a.sel[k].path,vi a.sel[k].ver.a,vi a.sel[k].ver.b,vi a.sel[k].ver.c,vs r.arch,vs r.ifc]]=((a.sel.take (k+1)).map (Iw x)).map Cq:=by rw[bA n4,AG,ee];rfl
  refine Xi ⟨k+1,n4⟩ ?_;exact⟨Dl a.sel.length k B0,Z6,⟨Zr,Zr,⟨(Ab (fun E:List (List AV)=>HO.cells [.slice (.id 60 2) ((roots.take i).map Af),.slice (.id 61 6) E,sl AR a.infs,sl AJ a.skips]) er),rfl⟩,Zr,⟨(show HO.tok 6 ((((a.sel.take k).map (Iw x)).map Cq).length+([[vs a.sel[k].path,vi a.sel[k].ver.a,vi a.sel[k].ver.b,vi a.sel[k].ver.c,vs r.arch,vs r.ifc]]:List (List AV)).length)=.tok 6 ((a.sel.take (k+1)).map (Iw x)).length by rw[bA n4,Aa,Lm (f:=Cq)];rfl),rfl⟩,Tv⟩,Fh,Tv⟩
 have h4:¬((k:Int)<((a.sel.map Al).length:Int)):=h4;have n4:=FH h4;refine yN (yN (yN ?_));exact DW.of_eq (show AV.tup [.agg [sl Af (roots.take i),sl Cq ((a.sel.take k).map (Iw x)),sl AR a.infs,sl AJ a.skips],vi 0]=.tup [.agg (BH (zG x roots a)),vi 0] by rw[Bj (l:=roots) (CC (FH h1)),Bj (l:=a.sel) (CC (FH h4))];rfl)
section
variable {x:List Rl}{roots:List Rq}
theorem Za(hv:Fm x roots=true)(hx:x.length<=16):HR x roots=0:=by
 unfold HR;rw[As hv,NT hx];rfl
theorem gc(hv:Fm x roots=true)(hx:x.length<=16):DE x roots=gG x roots:=by
 unfold DE;rw[As ⟨hv,NT hx⟩]
end
end Go.Eng
namespace Go.Eng
end Go.Eng
