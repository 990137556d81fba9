/- Lemmas 27. -/
import Derived.Test.YtjhkbdgingfbaaaGreatDoorHA26
namespace Go.Eng
open Go.Proofs
variable {p:ByteArray}{l:List ByteArray}{h:Nat->HO}{n k:Nat}{a:AV}(y x:List Rl)(j:Nat)(r:Rl)
abbrev RV:List AV:=AF ⟨plc r.ver,r⟩
abbrev GP(p:ByteArray):List (List AV):=(y.filter fun r=>decide (r.path=p)).map RV
abbrev ZP(q:ByteArray×Nat):Value×AV:=(.string q.1,.slice (.id (q.2+100) 10) (GP y q.1))
abbrev I4:List (Value×AV):=(AW y []).zipIdx.map (ZP y)
def GE(l:Nat):HO:=match(AW y [])[l]? with
 |some q=>.tok 10 (GP y q).length
 |none=>.free
def JF:HO:=bif Nat.ble 100 j&&Nat.blt j 1000 then GE y (j-100)else .free
theorem Fp(hy:y.length<=256)(l:Nat):JF y (l+100)=GE y l:=by
 unfold JF;rw[show Nat.ble 100 (l+100)=true by rw[Df];omega,Ep,Nat.add_sub_cancel]
 by_cases h:l+100<1000
 .rw[show Nat.blt (l+100) 1000=true by rw[Cr];exact h];rfl
 .rw[show Nat.blt (l+100) 1000=false by rw[AH];intro hc;rw[Cr]at hc;omega]
  have:=HM y []
  rw[Ax]at this;unfold GE;rw[AQ ch];rfl
theorem pY{j:Nat}(h:j<100):JF y j=.free:=by
 unfold JF;rw[show Nat.ble 100 j=false by rw[AH];intro hc;rw[Df]at hc;omega];rfl
theorem HL(q:ByteArray):GP (y++[r]) q=if r.path=q then GP y q++[RV r]else GP y q:=by
 unfold GP;rw[ED]
 by_cases h:r.path=q
 .rw[As h,Kn (by simpa using h)];simp
 .rw[Ah h,Km (by simpa using h)];simp
section
variable {y:List Rl}{r:Rl}{k:Nat}
open Classical in
theorem lZ(h:(AW y [])[k]?=some r.path):Ff (I4 y) (.string r.path) (.slice (.id (k+100) 10) (GP y r.path++[RV r]))=I4 (y++[r]):=by
 have hd:=Fa y [] Fz;have hm:ZP y (r.path,k)∈I4 y:=Ak.2 ⟨_,FL.2 h,rfl⟩;rw[aQ (a':=.slice (.id (k+100) 10) (GP y r.path)) hm];unfold I4;rw[JO h,Bw];refine Ba fun q hq=>?_;have hg:=IT hq;obtain⟨q,j⟩:=q;show(if Value.string q=Value.string r.path then _ else _)=ZP (y++[r]) (q,j)
 by_cases he:q=r.path
 .subst he
  have:j=k:=JL hd hg h
  subst this;rw[As rfl];show _=(Value.string r.path,AV.slice (.id (j+100) 10) (GP (y++[r]) r.path));rw[HL,As rfl]
 .rw[Ah (fun e=>he (by simpa using e))];show(Value.string q,AV.slice (.id (j+100) 10) (GP y q))=(Value.string q,AV.slice (.id (j+100) 10) (GP (y++[r]) q));rw[HL,Ah (fun e=>he e.symm)]
theorem aZ(h:r.path∉AW y []):GP y r.path=[]:=by
 have:y.filter (fun s=>decide (s.path=r.path))=[]:=by
  rw[EX];intro s hs he;exact h ((HN y [] r.path).2 (.inr ⟨s,hs,BO he⟩))
 unfold GP;rw[this];rfl
theorem Wt(h:r.path∉AW y [])(a:AV):(Value.string r.path,a)∉I4 y:=by
 intro hc;obtain⟨q,h1,h2⟩:=Ak.1 hc;simp only[ZP,ES,Value.string.injEq]at h2;exact h (by rw[<-h2.1];exact Av (IT h1))
theorem lY(h:r.path∉AW y []):Ff (I4 y) (.string r.path) (.slice (.id ((AW y []).length+100) 10) [RV r])=I4 (y++[r]):=by
 rw[Nb (fun a=>Wt h a)];unfold I4;rw[JN h,List.zipIdx_append,Az]
 congr 1
 .refine Ba fun q hq=>?_;have hg:=IT hq
  have:q.1≠r.path:=fun e=>h (by rw[<-e];exact Av hg)
  show(Value.string q.1,AV.slice (.id (q.2+100) 10) (GP y q.1))=(Value.string q.1,AV.slice (.id (q.2+100) 10) (GP (y++[r]) q.1));rw[HL,Ah (fun e=>this e.symm)]
 .show [_]=[(Value.string r.path,AV.slice (.id (0+(AW y []).length+100) 10) (GP (y++[r]) r.path))];rw[HL,As rfl,aZ h,A7];rfl
theorem ia{j:Nat}(h:(AW y [])[j]?=some p):(Value.string p,AV.slice (.id (j+100) 10) (GP y p))∈I4 y/\∀b,(Value.string p,b)∈I4 y->b=AV.slice (.id (j+100) 10) (GP y p):=by
 refine⟨Ak.2 ⟨(p,j),FL.2 h,rfl⟩,fun b hb=>?_⟩;obtain⟨q,h1,h2⟩:=Ak.1 hb;simp only[ZP,ES,Value.string.injEq]at h2;have hg:=IT h1;rw[h2.1]at hg
 have:=JL (Fa y [] Fz) hg h
 rw[<-h2.2,h2.1,this]
theorem fP{j:Nat}(h:(AW y [])[j]?=some p):GE y j=.tok 10 (GP y p).length:=by
 unfold GE;rw[h]
theorem oo(h:(AW y [])[k]?=some r.path)(l:Nat):(bif Nat.beq (l+100) (k+100)then HO.tok 10 ((GP y r.path).length+1)else GE y l)=GE (y++[r]) l:=by
 by_cases he:l=k
 .subst he;rw[show Nat.beq (l+100) (l+100)=true from CU _];unfold GE;rw[JO h,h];show HO.tok 10 _=HO.tok 10 (GP (y++[r]) r.path).length;rw[HL,As rfl,Ac];rfl
 .rw[show Nat.beq (l+100) (k+100)=false by rw[AH];intro hc;have:=AM hc;omega];show GE y l=_;unfold GE;rw[JO h];cases hq:(AW y [])[l]? with
  |none=>rfl
  |some q=>
   show HO.tok 10 (GP y q).length=HO.tok 10 (GP (y++[r]) q).length;rw[HL,Ah];intro e;subst e;exact he (JL (Fa y [] Fz) hq h)
theorem om(h:r.path∉AW y [])(l:Nat):(bif Nat.beq (l+100) ((AW y []).length+100)then HO.tok 10 1 else GE y l)=GE (y++[r]) l:=by
 by_cases he:l=(AW y []).length
 .subst he;rw[show Nat.beq ((AW y []).length+100) ((AW y []).length+100)=true from CU _];unfold GE;rw[JN h];simp only[A0 (Ai _),F7,A4];show HO.tok 10 1=HO.tok 10 (GP (y++[r]) r.path).length;rw[HL,As rfl,aZ h];rfl
 .rw[show Nat.beq (l+100) ((AW y []).length+100)=false by rw[AH];intro hc;have:=AM hc;omega];show GE y l=_;unfold GE;rw[JN h]
  by_cases hl:l<(AW y []).length
  .rw[AU hl,Ge hl];show HO.tok 10 (GP y (AW y [])[l]).length=HO.tok 10 (GP (y++[r]) (AW y [])[l]).length;rw[HL,Ah];intro e;exact h (by rw[e];exact Aq hl)
  .rw[AQ ch,AQ (by rw[Ac];simp;omega)]
end
theorem H5(hh:∀l,h (l+100)=GE y l):Se h (I4 y)=true:=by
 refine QR fun p hp=>?_;obtain⟨q,h1,rfl⟩:=Ak.1 hp;show SJ h (q.2+100)=true;unfold SJ;rw[hh,fP (IT h1)]
theorem G1{y:List Rl}(hy:y.length<=256){h':Nat->HO}(hh:∀l,h (l+100)=GE y l)(j:Nat):JF y j=.free\/(h j=JF y j/\SK h' (JF y j)=true):=by
 by_cases hj:j<100
 .exact .inl (pY y hj)
 .obtain⟨l,rfl⟩:∃l,j=l+100:=⟨j-100,by omega⟩
  right
  rw[Fp y hy];refine⟨hh l,?_⟩;unfold GE;cases (AW y [])[l]?<;>rfl
abbrev yR:List Rl:=x.filter fun r=>!r.yanked
theorem di(p:ByteArray):GP (yR x) p=(Bo x p).map AF:=by
 unfold GP Bo;rw[List.filter_filter,Bw]
 rfl
def mC:List (Value×AV):=(AW (yR x) []).map fun p=>(.string p,sl AF (Bo x p))
theorem mO{x:List Rl}:(Value.string p,a)∈mC x↔p∈AW (yR x) []/\a=sl AF (Bo x p):=by
 unfold mC;rw[Ak];constructor
 .rintro⟨q,hq,e⟩
  injection e with e1 e2
  injection e1 with e1
  subst e1;exact⟨hq,e2.symm⟩
 .rintro⟨h1,h2⟩
  exact⟨p,h1,by rw[h2]⟩
theorem Wh{x:List Rl}:Bo x p=[]↔p∉AW (yR x) []:=by
 rw[HN];unfold Bo;rw[FS,EX];constructor
 .rintro h (h1 | ⟨r,h1,h2⟩)
  .cases h1
  .obtain⟨h3,h4⟩:=BG.1 h1;exact h r h3 (by rw[Ap h2,h4];rfl)
 .intro h r hr hc;rw[Af,Au]at hc;exact h (.inr ⟨r,BG.2 ⟨hr,hc.2⟩,hc.1⟩)
theorem yz:∀(p:ByteArray) (a:AV),(Value.string p,a)∈mC x->a=sl AF (Bo x p):=fun _ _ h=>(mO.1 h).2
theorem yA:∀p:ByteArray,(∀a,(Value.string p,a)∉mC x)->Bo x p=[]:=fun _ h=>Wh.2 fun hp=>h _ (mO.2 ⟨hp,rfl⟩)
theorem yB:∀p:ByteArray,Bo x p=[]->∀a,(Value.string p,a)∉mC x:=fun _ h _ ha=>Wh.1 h (mO.1 ha).1
abbrev plN:Qn:=⟨[2],[],[],[(52,[12])],[],[12],[50],[(53,(16,3,90,6)),(54,(16,4,91,1)),(55,(16,7,93,10)),(56,(16,8,94,4))],[],[(850013,13),(800013,10016),(810013,20016),(900013,10000000000+92000000+90016)],[5,7,8,9,11,12,13]⟩
abbrev kC(p:ByteArray):Value×AV:=(.string p,sl AF (Bo x p))
abbrev kA(p:ByteArray):Value×AV:=(.string p,sl AC (B8 x p))
theorem qH{x:List Rl}{kv:Value×AV}{OM : List (Value×AV)}(h:(l.map (kC x)).Perm (kv::OM)):∃t r,kv=kC x t/\OM=r.map (kC x)/\l.Perm (t::r):=by
 obtain⟨ps,h1,h2⟩:=Ni h l rfl;cases ps with
 |nil=>cases h2
 |cons t r=>
  rw[AK,Eu]at h2;exact⟨t,r,h2.1.symm,h2.2.symm,h1.symm⟩
abbrev srN(roots:List Rq)(C A:List (Value×AV)):List (Nat×HO):=
 [(2000,.cells [sl A2 roots,.cmap Ek C,.cmap Ek A,.slice (.id 2001 6) [],.slice (.id 2002 1) [],.mref 2003,vb false,.slice .none [],.slice .none [],.msl 2004 0]),(2001,.tok 6 0),(2002,.tok 1 0),(2003,.map Em []),(2004,.arr 1 [])]
theorem Yt{x:List Rl}:(Value.string p,a)∈l.map (kA x)↔p∈l/\a=sl AC (B8 x p):=by
 rw[Ak];constructor
 .rintro⟨q,hq,e⟩
  injection e with e1 e2
  injection e1 with e1
  subst e1;exact⟨hq,e2.symm⟩
 .rintro⟨h1,h2⟩
  exact⟨p,h1,by rw[h2]⟩
theorem eF(n:Nat):JF y (n+1000)=.free:=by
 unfold JF;rw[show Nat.blt (n+1000) 1000=false by rw[AH];intro hc;rw[Cr]at hc;omega,Di];rfl
theorem Yb{s:Nat->HO}(H:∀n,h (n+1000)=.free):∀j,1000<=j->j<2000->h j≠.free->s j≠.free:=fun j h1 _ hn=>by
 refine absurd (H (j-1000)) ?_;rw[show j-1000+1000=j by omega];exact hn
theorem pm(h:k<1000):Nat.beq (n+1000) k=false:=by
 rw[AH];intro hc;have:=AM hc;omega
theorem dX{y:List Rl}{o:HO}(h:k<1000):(bif Nat.beq (n+1000) k then o else JF y (n+1000))=.free:=by
 rw[pm h,eF];rfl
attribute [local irreducible] IK
set_option maxRecDepth 30000 in
set_option maxHeartbeats 4000000 in
theorem s29(ifs:List (List AV))(roots:List Rq)(hx:∀r∈x,Jw r)(h0:Bd x=0):Bb Tryz.prog 76 [LO x ifs,sl A2 roots] (Ag [] Ad) fun r h'=>∃l:List ByteArray,l.Perm (AW (yR x) [])/\r=.ref 2000 0/\h'=Ag (srN roots (mC x) (l.map (kA x))) Ad:=by
 have cP:x.length<=256:=(M6 h0).1;refine Cm (MC plN) [(16,2000),(90,2001),(91,2002),(14,2003),(92,2004)] rfl Cu hm rfl Tryz.func76 aa0 rfl (Nz rfl) aa0 rfl (Xi 0 (Xi 0 (Xi 0 (Xi {i:Nat // i<=x.length} (Xi (fun i=>⟨[(2,.ref 2 0),(5,.ref 16 0),(18,sl BS x),(19,vi (x.map BS).length),(20,vi i.1)],[(2,.ro (Ic x ifs)),(12,.mapU Ek (I4 (yR (x.take i.1)))),(13,.map Ek []),(14,.map Em []),(16,.cells [sl A2 roots,.mref 12,.mref 13,nzA,nzA,.mref 14,vb false,nzA,nzA,nzA])],JF (yR (x.take i.1))⟩) (Xi (fun i=>x.length-i.1) (Yi (Xi ⟨0,AE _⟩ ?_) ?_)))))))
 .refine⟨Z5,Z5,fun j=>.inl ?_,BQ aa0⟩;show JF [] j=.free;unfold JF;cases (Nat.ble 100 j&&Nat.blt j 1000)<;>rfl
 intro⟨i,i1⟩;have hq:∀k,(yR (x.take k)).length<=256:=fun k=>by
  have:=BC (fun r:Rl=>!r.yanked) (x.take k)
  rw[AA]at this;show(List.filter _ _).length<=256;omega
 refine Xi 0 (Yi ?_ ?_)
 .intro h;have h:i<x.length:=by simpa using h
  have hg:x[i]?=some x[i]:=Ge h;have Ky:x.take (i+1)=x.take i++[x[i]]:=by rw[AZ,hg];rfl
  refine Xi 0 (Xi (BS x[i]) (Yi (Yi (Nn i) (by simp[hg])) (Yi rfl ?_)));refine Yi (Nz rfl) (yN (Xi ⟨[(2,.ref 2 0),(5,.ref 16 0),(7,.ref 7 0),(18,sl BS x),(19,vi (x.map BS).length),(20,vi i)],[(2,.ro (Ic x ifs)),(7,.cells (BS x[i])),(12,.mapU Ek (I4 (yR (x.take i)))),(13,.map Ek []),(14,.map Em []),(16,.cells [sl A2 roots,.mref 12,.mref 13,nzA,nzA,.mref 14,vb false,nzA,nzA,nzA])],JF (yR (x.take i))⟩ (Yi ?_ ?_)))
  .exact⟨Z6,⟨Zr,Zr,⟨rfl,H5 _ (Fp _ (hq _))⟩,Zr,Zr,Zr,Tv⟩,G1 (hq _) (Fp _ (hq _)),BQ aa0⟩
  refine Xi 0 (Yi (fun hy=>?_) (fun hy=>?_))
  .have ey:yR (x.take (i+1))=yR (x.take i):=by
    unfold yR;rw[Ky,ED,Km (by rw[hy];decide)];simp
   refine Xi ⟨[(2,.ref 2 0),(5,.ref 16 0),(18,sl BS x),(19,vi (x.map BS).length),(20,vi i)],[(2,.ro (Ic x ifs)),(12,.mapU Ek (I4 (yR (x.take (i+1))))),(13,.map Ek []),(14,.map Em []),(16,.cells [sl A2 roots,.mref 12,.mref 13,nzA,nzA,.mref 14,vb false,nzA,nzA,nzA])],JF (yR (x.take (i+1)))⟩ (Yi ?_ ?_)
   .rw[ey];exact⟨Z5,⟨Zr,⟨rfl,H5 _ (Fp _ (hq _))⟩,Zr,Zr,Zr,Tv⟩,G1 (hq _) (Fp _ (hq _)),BQ aa0⟩
   refine Xi 0 (Yi (Ii i ch) (Xi ⟨i+1,by omega⟩ ?_));exact⟨Dl x.length i ch,Z5,⟨Zr,⟨rfl,H5 _ (Fp _ (hq _))⟩,Zr,Zr,Zr,Tv⟩,G1 (hq _) (Fp _ (hq _)),BQ aa0⟩
  refine Xi 0 (yN (Xi .pure (Xi _ (Yi (c56 x[i].ver) (Xi ⟨[(2,.ref 2 0),(5,.ref 16 0),(7,.ref 7 0),(8,vi (plc x[i].ver)),(18,sl BS x),(19,vi (x.map BS).length),(20,vi i)],[(2,.ro (Ic x ifs)),(7,.cells (BS x[i])),(12,.mapU Ek (I4 (yR (x.take i)))),(13,.map Ek []),(14,.map Em []),(16,.cells [sl A2 roots,.mref 12,.mref 13,nzA,nzA,.mref 14,vb false,nzA,nzA,nzA])],JF (yR (x.take i))⟩ (Yi ?_ ?_))))))
  .exact⟨Z7,⟨Zr,Zr,⟨rfl,H5 _ (Fp _ (hq _))⟩,Zr,Zr,Zr,Tv⟩,G1 (hq _) (Fp _ (hq _)),BQ aa0⟩
  have ey:yR (x.take (i+1))=yR (x.take i)++[x[i]]:=by
   unfold yR;rw[Ky,ED,Kn (by rw[hy];decide)];rfl
  have hyl:(yR (x.take i)).length<=256:=by
   have:=BC (fun r:Rl=>!r.yanked) (x.take i)
   rw[AA]at this;show(List.filter _ _).length<=256;omega
  have hP:∀l,JF (yR (x.take i)) (l+100)=GE (yR (x.take i)) l:=Fp _ (hq _);refine BL (Classical.em (x[i].path∈AW (yR (x.take i)) [])) (fun hp=>?_) (fun hp=>?_)
  .refine BA (Cg.1 hp) (fun k hk=>?_);have hu:=ia hk;have hl:(GP (yR (x.take i)) x[i].path).length<=256:=by
    rw[Lm];exact A9 (BC _ _) hyl
   have xU:k<256:=by
    have:=(Ar.1 hk).1
    have:=HM (yR (x.take i)) []
    simp only[Ax]at this;omega
   have hr:JF (yR (x.take i)) (k+100)=.tok 10 (GP (yR (x.take i)) x[i].path).length:=by rw[hP,fP hk]
   refine Xi 0 ?_;refine Or.inl (Xi (.slice (.id (k+100) 10) (GP (yR (x.take i)) x[i].path)) (Yi hu ?_));refine yN (RT (e:=209) (m:=9) (es2:=[RV x[i]]) rfl rfl rfl (fun _ h=>h) hr ⟨rfl,trivial⟩ (by show(_+1)*128<=_;omega) (by show _+1<=_;omega) (Yi (JC ⟨A1 _,A1 _,A1 _,A1 _,A1 _,A1 _,A1 _,A1 _,A1 _,A1 _,A1 _,A1 _,A1 _,A1 _,A1 _,A1 _,El (show 49<10000000 by decide),El (by show _+100<10000000;omega),El (show 12<10000000 by decide),trivial⟩ aa0) ?_));have e9:Ff (I4 (yR (x.take i))) (.string x[i].path) (.slice (.id (k+100) 10) (GP (yR (x.take i)) x[i].path++[RV x[i]]))=I4 (yR (x.take (i+1))):=by rw[ey];exact lZ hk
   have hG:∀l,(bif Nat.beq (l+100) (k+100)then HO.tok 10 ((GP (yR (x.take i)) x[i].path).length+1)else GE (yR (x.take i)) l)=GE (yR (x.take (i+1))) l:=by rw[ey];exact oo hk
   refine Xi ⟨[(2,.ref 2 0),(5,.ref 16 0),(18,sl BS x),(19,vi (x.map BS).length),(20,vi i)],[(2,.ro (Ic x ifs)),(12,.mapU Ek (I4 (yR (x.take (i+1))))),(13,.map Ek []),(14,.map Em []),(16,.cells [sl A2 roots,.mref 12,.mref 13,nzA,nzA,.mref 14,vb false,nzA,nzA,nzA])],JF (yR (x.take (i+1)))⟩ (Yi ?_ ?_)
   .refine⟨Z5,⟨Zr,⟨Aa (HO.mapU Ek) e9,H5 _ (Fp _ (hq _))⟩,Zr,Zr,Zr,Tv⟩,G1 (hq _) (fun l=>?_),Yb (fun n=>?_)⟩
    .show(bif Nat.beq (l+100) (k+100)then HO.tok 10 ((GP (yR (x.take i)) x[i].path).length+1)else JF (yR (x.take i)) (l+100))=_;rw[hP];exact hG l
    .exact dX (y:=yR (x.take i)) (show k+100<1000 by omega)
   refine Xi 0 (Yi (Ii i ch) (Xi ⟨i+1,by omega⟩ ?_));exact⟨Dl x.length i ch,Z5,⟨Zr,⟨rfl,H5 _ (Fp _ (hq _))⟩,Zr,Zr,Zr,Tv⟩,G1 (hq _) (Fp _ (hq _)),BQ aa0⟩
  .have Mt:(AW (yR (x.take i)) []).length<=256:=by
    have:=HM (yR (x.take i)) []
    simp only[Ax]at this;omega
   have hn:=Wt hp;have hr:JF (yR (x.take i)) ((AW (yR (x.take i)) []).length+100)=.free:=by
    rw[hP];unfold GE;rw[AQ (Ai _)]
   refine Xi ((AW (yR (x.take i)) []).length+100) ?_;refine Or.inr (Yi hn ?_);refine yN (RS (e:=209) (m:=9) (es2:=[RV x[i]]) rfl rfl rfl (fun _ h=>h) hr rfl ⟨rfl,trivial⟩ (by show 1*128<=_;omega) (by show 1<=_;omega) (Yi (JC ⟨A1 _,A1 _,A1 _,A1 _,A1 _,A1 _,A1 _,A1 _,A1 _,A1 _,A1 _,A1 _,A1 _,A1 _,A1 _,A1 _,El (show 49<10000000 by decide),El (by show _+100<10000000;omega),El (show 12<10000000 by decide),trivial⟩ aa0) ?_));have e9:Ff (I4 (yR (x.take i))) (.string x[i].path) (.slice (.id ((AW (yR (x.take i)) []).length+100) 10) [RV x[i]])=I4 (yR (x.take (i+1))):=by rw[ey];exact lY hp
   have hG:∀l,(bif Nat.beq (l+100) ((AW (yR (x.take i)) []).length+100)then HO.tok 10 1 else GE (yR (x.take i)) l)=GE (yR (x.take (i+1))) l:=by rw[ey];exact om hp
   refine Xi ⟨[(2,.ref 2 0),(5,.ref 16 0),(18,sl BS x),(19,vi (x.map BS).length),(20,vi i)],[(2,.ro (Ic x ifs)),(12,.mapU Ek (I4 (yR (x.take (i+1))))),(13,.map Ek []),(14,.map Em []),(16,.cells [sl A2 roots,.mref 12,.mref 13,nzA,nzA,.mref 14,vb false,nzA,nzA,nzA])],JF (yR (x.take (i+1)))⟩ (Yi ?_ ?_)
   .refine⟨Z5,⟨Zr,⟨Aa (HO.mapU Ek) e9,H5 _ (Fp _ (hq _))⟩,Zr,Zr,Zr,Tv⟩,G1 (hq _) (fun l=>?_),Yb (fun n=>?_)⟩
    .show(bif Nat.beq (l+100) ((AW (yR (x.take i)) []).length+100)then HO.tok 10 1 else JF (yR (x.take i)) (l+100))=_;rw[hP];exact hG l
    .exact dX (y:=yR (x.take i)) (show(AW (yR (x.take i)) []).length+100<1000 by omega)
   refine Xi 0 (Yi (Ii i ch) (Xi ⟨i+1,by omega⟩ ?_));exact⟨Dl x.length i ch,Z5,⟨Zr,⟨rfl,H5 _ (Fp _ (hq _))⟩,Zr,Zr,Zr,Tv⟩,G1 (hq _) (Fp _ (hq _)),BQ aa0⟩
 .intro h;have h:¬i<x.length:=by simpa using h
  have et:x.take i=x:=AB ch;have eM:∀hh:Nat->HO,SQ hh (I4 (yR (x.take i)))=(AW (yR x) []).map (kC x):=fun hh=>by
   rw[et];unfold SQ I4;rw[Bw];refine Cz fun j=>?_;rw[Aw,Aw,List.getElem?_zipIdx];cases (AW (yR x) [])[j]? with
   |none=>rfl
   |some q=>show some (Value.string q,AV.slice .none (GP (yR x) q))=_;rw[di];rfl
  refine Xi ⟨[(2,.ref 2 0),(5,.ref 16 0)],[(2,.ro (Ic x ifs)),(12,.mapU Ek (I4 (yR (x.take i)))),(13,.map Ek []),(14,.map Em []),(16,.cells [sl A2 roots,.mref 12,.mref 13,nzA,nzA,.mref 14,vb false,nzA,nzA,nzA])],JF (yR (x.take i))⟩ (Yi ?_ ?_)
  .exact⟨Z2,⟨Zr,⟨rfl,H5 _ (Fp _ (hq _))⟩,Zr,Zr,Zr,Tv⟩,G1 (hq _) (Fp _ (hq _)),BQ aa0⟩
  refine Xi 0 (Xi {p:List ByteArray×List ByteArray×Option (Value×AV) // (p.1++p.2.1).Perm (AW (yR x) [])} (Xi (fun p=>⟨[(2,.ref 2 0),(5,.ref 16 0),(56,.ref 56 0)],[(2,.ro (Ic x ifs)),(12,.rom Ek ((AW (yR x) []).map (kC x))),(13,.map Ek (p.1.1.map (kA x))),(14,.map Em []),(16,.cells [sl A2 roots,.mref 12,.mref 13,.slice (.id 90 6) [],.slice (.id 91 1) [],.mref 14,vb false,.slice (.id 93 10) [],.slice (.id 94 4) [],nzA]),(56,.iter ((AW (yR x) []).map (kC x)) (p.1.2.1.map (kC x)) p.1.2.2),(90,.tok 6 0),(91,.tok 1 0),(93,.tok 10 0),(94,.tok 4 0)],Ad⟩) (Xi (fun p=>p.1.2.1.length) (Yi (Xi ⟨([],AW (yR x) [],none),.refl _⟩ ?_) ?_))))
  .refine⟨Z3,⟨Zr,⟨Aa (HO.rom Ek) (eM _),rfl⟩,Zr,Zr,Zr,⟨?_,rfl⟩,Zr,Zr,Zr,Zr,Tv⟩,Fh,Yb (fun n=>?_)⟩
   .show HO.iter (SQ _ (I4 (yR (x.take i)))) (SQ _ (I4 (yR (x.take i)))) none=_;rw[eM]
   .exact eF (yR (x.take i)) n
  intro⟨⟨done,rem,Db⟩,r1⟩;refine Xi 0 (Yi ?_ ?_)
  .intro hr;have hr:rem=[]:=FS.1 hr;subst hr;rw[BZ]at r1;refine cU [(5,.ref 16 0)] [(14,.map Em []),(16,.cells [sl A2 roots,.cmap Ek (mC x),.cmap Ek (done.map (kA x)),.slice (.id 90 6) [],.slice (.id 91 1) [],.mref 14,vb false,.slice (.id 93 10) [],.slice (.id 94 4) [],.msl 92 0]),(90,.tok 6 0),(91,.tok 1 0),(92,.arr 1 []),(93,.tok 10 0),(94,.tok 4 0)] Z1 Z7 (Xi 0 ?_);exact Xi _ (Yi (.refl _) (Xi done (Yi r1 (Yi rfl rfl))))
  .intro kv OM hp;refine BA (qH hp) (fun t hp=>BA hp (fun r hp=>?_));have e1:=hp.1;have e2:=hp.2.1;subst e1;subst e2;have hp:=hp.2.2;refine cU [(2,.ref 2 0),(5,.ref 16 0),(56,.ref 56 0)] [(2,.ro (Ic x ifs)),(12,.rom Ek ((AW (yR x) []).map (kC x))),(13,.map Ek (done.map (kA x))),(14,.map Em []),(16,.cells [sl A2 roots,.mref 12,.mref 13,.slice (.id 90 6) [],.slice (.id 91 1) [],.mref 14,vb false,.slice (.id 93 10) [],.slice (.id 94 4) [],nzA]),(56,.iter ((AW (yR x) []).map (kC x)) (r.map (kC x)) (some (kC x t))),(90,.tok 6 0),(91,.tok 1 0),(93,.tok 10 0),(94,.tok 4 0)] Z3 Z10 (Xi 0 (cU [(2,.ref 2 0),(5,.ref 16 0),(10,vs t),(56,.ref 56 0)] [(2,.ro (Ic x ifs)),(12,.rom Ek ((AW (yR x) []).map (kC x))),(13,.map Ek (done.map (kA x))),(14,.map Em []),(16,.cells [sl A2 roots,.mref 12,.mref 13,.slice (.id 90 6) [],.slice (.id 91 1) [],.mref 14,vb false,.slice (.id 93 10) [],.slice (.id 94 4) [],nzA]),(56,.iter ((AW (yR x) []).map (kC x)) (r.map (kC x)) (some (kC x t))),(90,.tok 6 0),(91,.tok 1 0),(93,.tok 10 0),(94,.tok 4 0)] Z4 Z10 (Xi 0 ?_)));have PI:(done++rem).Nodup:=r1.nodup_iff.2 (Fa _ [] Fz);have htn:t∉done:=fun hc=>(GK.1 PI).2.2 t hc t (hp.mem_iff.2 (Ab ..)) rfl;have em:Ff (done.map (kA x)) (.string t) (sl AC (B8 x t))=(done++[t]).map (kA x):=by
    rw[Nb (fun a ha=>htn (Yt.1 ha).1),Az];rfl
   have Vv:((done++[t])++r).Perm (AW (yR x) []):=by
    rw[Bm];exact(List.Perm.append_left _ hp.symm).trans r1
   refine yN (Xi _ (Yi (AaC x ifs t (c84 x ifs hx)) (Yi aa0 (Xi ⟨(done++[t],r,some (kC x t)),Vv⟩ ?_))));exact⟨by show r.length<rem.length;rw[hp.length_eq,Al];omega,Z3,⟨Zr,Zr,⟨Aa (HO.map Ek) em,rfl⟩,Zr,Zr,Zr,Zr,Zr,Zr,Zr,Tv⟩,Fh,BQ aa0⟩
end Go.Eng
namespace Go.Eng
open Go.Proofs
variable {x:List Rl}{p:ByteArray}
def ek(p:ByteArray)(r:Rl):Bool:=decide (r.path=p)&&!r.yanked
def zi(r:Rl):Int×Int:=(plc r.ver,plc r.ver+1)
theorem gw(h:Bd x=0):B8 x p=canon ((x.filter (ek p)).map zi):=by
 unfold B8 KW;rw[Ah (not_not_intro h),List.filter_filter]
 congr 3
 funext r
 unfold ek;rw[Bool.and_comm]
theorem bW(h0:Bd x=0)(h:p∉AW (yR x) []):B8 x p=[]:=by
 rw[gw h0]
 have:x.filter (ek p)=[]:=by
  rw[EX];intro r hr hc;unfold ek at hc;rw[Af,Au]at hc;exact h ((HN _ _ _).2 (.inr ⟨r,BG.2 ⟨hr,hc.2⟩,hc.1⟩))
 rw[this];rfl
theorem lI{roots:List Rq}(hx:∀r∈x,Jw r)(hr:∀q∈roots,NQ q)(h0:Bd x=0)(h1:B5 roots=0){l:List ByteArray}(hl:l.Perm (AW (yR x) [])):wg x roots (mC x) (l.map (kA x)) where
 hx:=h0
 hr:=h1
 fx:=hx
 fr:=hr
 c1:=yz x
 c2:=yA x
 c3:=yB x
 av p:=by
  by_cases hp:p∈l
  .exact⟨sl AC (B8 x p),fun a ha=>(Yt.1 ha).2,fun hn=>(hn _ (Yt.2 ⟨hp,rfl⟩)).elim,fun h=>wP p (B8 x p) (Tz x p)⟩
  .refine⟨nzA,fun a ha=>(hp (Yt.1 ha).1).elim,fun _=>rfl,fun h=>?_⟩;have e:=bW h0 (fun hc=>hp (hl.mem_iff.2 hc));have hc:=wP p (B8 x p) (Tz x p);rw[e]at hc⊢;exact Lc.args hc ⟨.refl _,.nil,trivial⟩
theorem Rj{α:Type}(o:Option α):(∃x,o=some x)\/o=none:=by
 cases o with
 |none=>exact .inr rfl
 |some x=>exact .inl ⟨x,rfl⟩
abbrev Jg(b:Bool):List AV:=[vb b]
section
variable {x l:List Rl}{roots:List Rq}{s:List Sl}
theorem cg:∀{m:List Rl} {b:Option Rl},DF b m=0->∀r∈m,D1 r=0
 | [],_,_,_,h=>by cases h
 |a::m,b,h,r,hr=>by
  unfold DF at h;split at h
  .rename_i h1;exact absurd h h1
  .rename_i h1;rcases Ay.1 hr with rfl | hr
   .exact Decidable.not_not.1 h1
   .cases b with
    |none=>exact cg h r hr
    |some c=>
     have h:(if FC c=FC a then(5:Int)else if 0<SC c a then 1 else DF (some a) m)=0:=h;split at h
     .cases h
     .split at h
      .cases h
      .exact cg h r hr
theorem tf{r:Rl}(hr:r∈x)(h:Bd x=0):D1 r=0:=by
 unfold Bd at h;split at h
 .cases h
 .exact cg h r hr
theorem uW(h0:Bd x=0)(hi:B6 s=true)(h:jI x s=some l)(hl:s.length<=256):Bd l=0:=by
 obtain⟨h1,h2,_⟩:=YP h;have hx:=(CF h0).1;have Ca:l.length=s.length:=by rw[<-h1,Lm]
 have hm:∀r∈l,D1 r=0:=fun r hr=>tf ((FV (h2 r hr)).2.1) h0;unfold Bd;rw[Ah ch];have hp:=(IB hi).1;rw[<-h1]at hp;have hp:l.Pairwise fun a b=>FQ a.path b.path=true:=RN.1 hp;have gen:∀(l:List Rl) (b:Option Rl),(∀r∈l,D1 r=0)->l.Pairwise (fun a b=>FQ a.path b.path=true)->(∀c,b=some c->∀r∈l,FQ c.path r.path=true)->DF b l=0:=by
  intro l
  induction l with
  |nil=>intro _ _ _ _;rfl
  |cons r l ih=>
   intro b hm hp hb;obtain⟨p1,p2⟩:=Ds.1 hp;have ih:=ih (some r) (fun r hr=>hm r (Ae _ hr)) p2 (fun c e=>by cases e;exact p1);unfold DF;rw[Ah (by rw[hm r (Ab ..)];decide)];cases b with
   |none=>exact ih
   |some c=>
    have hc:=hb c rfl r (Ab ..);show(if FC c=FC r then(5:Int)else if 0<SC c r then 1 else DF (some r) l)=0;rw[Ah (fun e=>XQ hc (Aa Sl.path e)),Ah (by
     unfold SC Ou;rw[As hc,As Cl];decide)]
    exact ih
 exact gen l none hm hp fun c e=>by cases e
end
end Go.Eng
