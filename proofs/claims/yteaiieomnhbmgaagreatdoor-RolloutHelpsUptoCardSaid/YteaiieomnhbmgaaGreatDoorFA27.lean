/- Lemmas 27. -/
import Derived.Test.YteaiieomnhbmgaaGreatDoorFA26
import Derived.Test.YteaiieomnhbmgaaGreatDoorFA04
namespace Go.Eng
open Go.Proofs
variable {p:ByteArray}{l:List ByteArray}{h:Nat->HO}{n k:Nat}{a:AV}(y x:List Rl)(j:Nat)(r:Rl)
abbrev SI:List AV:=AY ⟨plc r.ver,r⟩
abbrev G5(p:ByteArray):List (List AV):=(y.filter fun r=>decide (r.path=p)).map SI
abbrev bm(q:ByteArray×Nat):Value×AV:=(.string q.1,.slice (.id (q.2+100) 10) (G5 y q.1))
abbrev Jz:List (Value×AV):=(AZ y []).zipIdx.map (bm y)
def GP(l:Nat):HO:=match(AZ y [])[l]? with
 |some q=>.tok 10 (G5 y q).length
 |none=>.free
def Ke:HO:=bif Nat.ble 100 j&&Nat.blt j 1000 then GP y (j-100)else .free
theorem Fx(hy:y.length<=256)(l:Nat):Ke y (l+100)=GP y l:=by
 unfold Ke;rw[show Nat.ble 100 (l+100)=true by rw[Dw];omega,E4,Nat.add_sub_cancel]
 by_cases h:l+100<1000
 .rw[show Nat.blt (l+100) 1000=true by rw[CB];exact h];rfl
 .rw[show Nat.blt (l+100) 1000=false by rw[AM];intro hc;rw[CB]at hc;omega]
  have:=Ik y []
  rw[Au]at this;unfold GP;rw[A8 ch];rfl
theorem qV{j:Nat}(h:j<100):Ke y j=.free:=by
 unfold Ke;rw[show Nat.ble 100 j=false by rw[AM];intro hc;rw[Dw]at hc;omega];rfl
theorem Ij(q:ByteArray):G5 (y++[r]) q=if r.path=q then G5 y q++[SI r]else G5 y q:=by
 unfold G5;rw[EL]
 by_cases h:r.path=q
 .rw[Ap h,Ue (by simpa using h)];simp
 .rw[Aj h,Ud (by simpa using h)];simp
section
variable {y:List Rl}{r:Rl}{k:Nat}
open Classical in
theorem mO(h:(AZ y [])[k]?=some r.path):E2 (Jz y) (.string r.path) (.slice (.id (k+100) 10) (G5 y r.path++[SI r]))=Jz (y++[r]):=by
 have hd:=Fp y [] FF;have hm:bm y (r.path,k)∈Jz y:=Ai.2 ⟨_,FX.2 h,rfl⟩;rw[bS (a':=.slice (.id (k+100) 10) (G5 y r.path)) hm];unfold Jz;rw[Kp h,Bq];refine Bg fun q hq=>?_;have hg:=Jn hq;obtain⟨q,j⟩:=q;show(if Value.string q=Value.string r.path then _ else _)=bm (y++[r]) (q,j)
 by_cases he:q=r.path
 .subst he
  have:j=k:=Km hd hg h
  subst this;rw[Ap rfl];show _=(Value.string r.path,AV.slice (.id (j+100) 10) (G5 (y++[r]) r.path));rw[Ij,Ap rfl]
 .rw[Aj (fun e=>he (by simpa using e))];show(Value.string q,AV.slice (.id (j+100) 10) (G5 y q))=(Value.string q,AV.slice (.id (j+100) 10) (G5 (y++[r]) q));rw[Ij,Aj (fun e=>he e.symm)]
theorem cd(h:r.path∉AZ y []):G5 y r.path=[]:=by
 have:y.filter (fun s=>decide (s.path=r.path))=[]:=by
  rw[Ir];intro s hs he;exact h ((G6 y [] r.path).2 (.inr ⟨s,hs,AP he⟩))
 unfold G5;rw[this];rfl
theorem XH(h:r.path∉AZ y [])(a:AV):(Value.string r.path,a)∉Jz y:=by
 intro hc;obtain⟨q,h1,h2⟩:=Ai.1 hc;simp only[bm,Gk,Value.string.injEq]at h2;exact h (by rw[<-h2.1];exact Az (Jn h1))
theorem mN(h:r.path∉AZ y []):E2 (Jz y) (.string r.path) (.slice (.id ((AZ y []).length+100) 10) [SI r])=Jz (y++[r]):=by
 rw[NF (fun a=>XH h a)];unfold Jz;rw[Ko h,List.zipIdx_append,At]
 congr 1
 .refine Bg fun q hq=>?_;have hg:=Jn hq
  have:q.1≠r.path:=fun e=>h (by rw[<-e];exact Az hg)
  show(Value.string q.1,AV.slice (.id (q.2+100) 10) (G5 y q.1))=(Value.string q.1,AV.slice (.id (q.2+100) 10) (G5 (y++[r]) q.1));rw[Ij,Aj (fun e=>this e.symm)]
 .show [_]=[(Value.string r.path,AV.slice (.id (0+(AZ y []).length+100) 10) (G5 (y++[r]) r.path))];rw[Ij,Ap rfl,cd h,Bb];rfl
theorem jA{j:Nat}(h:(AZ y [])[j]?=some p):(Value.string p,AV.slice (.id (j+100) 10) (G5 y p))∈Jz y/\∀b,(Value.string p,b)∈Jz y->b=AV.slice (.id (j+100) 10) (G5 y p):=by
 refine⟨Ai.2 ⟨(p,j),FX.2 h,rfl⟩,fun b hb=>?_⟩;obtain⟨q,h1,h2⟩:=Ai.1 hb;simp only[bm,Gk,Value.string.injEq]at h2;have hg:=Jn h1;rw[h2.1]at hg
 have:=Km (Fp y [] FF) hg h
 rw[<-h2.2,h2.1,this]
theorem iA{j:Nat}(h:(AZ y [])[j]?=some p):GP y j=.tok 10 (G5 y p).length:=by
 unfold GP;rw[h]
theorem pn(h:(AZ y [])[k]?=some r.path)(l:Nat):(bif Nat.beq (l+100) (k+100)then HO.tok 10 ((G5 y r.path).length+1)else GP y l)=GP (y++[r]) l:=by
 by_cases he:l=k
 .subst he;rw[show Nat.beq (l+100) (l+100)=true from Ds _];unfold GP;rw[Kp h,h];show HO.tok 10 _=HO.tok 10 (G5 (y++[r]) r.path).length;rw[Ij,Ap rfl,Ac];rfl
 .rw[show Nat.beq (l+100) (k+100)=false by rw[AM];intro hc;have:=AL hc;omega];show GP y l=_;unfold GP;rw[Kp h];cases hq:(AZ y [])[l]? with
  |none=>rfl
  |some q=>
   show HO.tok 10 (G5 y q).length=HO.tok 10 (G5 (y++[r]) q).length;rw[Ij,Aj];intro e;subst e;exact he (Km (Fp y [] FF) hq h)
theorem pm(h:r.path∉AZ y [])(l:Nat):(bif Nat.beq (l+100) ((AZ y []).length+100)then HO.tok 10 1 else GP y l)=GP (y++[r]) l:=by
 by_cases he:l=(AZ y []).length
 .subst he;rw[show Nat.beq ((AZ y []).length+100) ((AZ y []).length+100)=true from Ds _];unfold GP;rw[Ko h];simp only[A2 (Am _),E7,Bd];show HO.tok 10 1=HO.tok 10 (G5 (y++[r]) r.path).length;rw[Ij,Ap rfl,cd h];rfl
 .rw[show Nat.beq (l+100) ((AZ y []).length+100)=false by rw[AM];intro hc;have:=AL hc;omega];show GP y l=_;unfold GP;rw[Ko h]
  by_cases hl:l<(AZ y []).length
  .rw[AT hl,Ge hl];show HO.tok 10 (G5 y (AZ y [])[l]).length=HO.tok 10 (G5 (y++[r]) (AZ y [])[l]).length;rw[Ij,Aj];intro e;exact h (by rw[e];exact Ao hl)
  .rw[A8 ch,A8 (by rw[Ac];simp;omega)]
end
theorem IE(hh:∀l,h (l+100)=GP y l):SU h (Jz y)=true:=by
 refine RN fun p hp=>?_;obtain⟨q,h1,rfl⟩:=Ai.1 hp;show TE h (q.2+100)=true;unfold TE;rw[hh,iA (Jn h1)]
theorem Hg{y:List Rl}(hy:y.length<=256){h':Nat->HO}(hh:∀l,h (l+100)=GP y l)(j:Nat):Ke y j=.free\/(h j=Ke y j/\TF h' (Ke y j)=true):=by
 by_cases hj:j<100
 .exact .inl (qV y hj)
 .obtain⟨l,rfl⟩:∃l,j=l+100:=⟨j-100,by omega⟩
  right
  rw[Fx y hy];refine⟨hh l,?_⟩;unfold GP;cases (AZ y [])[l]?<;>rfl
abbrev yR:List Rl:=x.filter fun r=>!r.yanked
theorem eU(p:ByteArray):G5 (yR x) p=(B7 x p).map AY:=by
 unfold G5 B7;rw[List.filter_filter,Bq]
 rfl
def mC:List (Value×AV):=(AZ (yR x) []).map fun p=>(.string p,sl AY (B7 x p))
theorem nN{x:List Rl}:(Value.string p,a)∈mC x↔p∈AZ (yR x) []/\a=sl AY (B7 x p):=by
 unfold mC;rw[Ai];constructor
 .rintro⟨q,hq,e⟩
  injection e with e1 e2
  injection e1 with e1
  subst e1;exact⟨hq,e2.symm⟩
 .rintro⟨h1,h2⟩
  exact⟨p,h1,by rw[h2]⟩
theorem Xt{x:List Rl}:B7 x p=[]↔p∉AZ (yR x) []:=by
 rw[G6];unfold B7;rw[DO,Ir];constructor
 .rintro h (h1|⟨r,h1,h2⟩)
  .cases h1
  .obtain⟨h3,h4⟩:=Br.1 h1;exact h r h3 (by rw[Ak h2,h4];rfl)
 .intro h r hr hc;rw[Af,AA]at hc;exact h (.inr ⟨r,Br.2 ⟨hr,hc.2⟩,hc.1⟩)
theorem zS:∀(p:ByteArray) (a:AV),(Value.string p,a)∈mC x->a=sl AY (B7 x p):=fun _ _ h=>(nN.1 h).2
theorem zU:∀p:ByteArray,(∀a,(Value.string p,a)∉mC x)->B7 x p=[]:=fun _ h=>Xt.2 fun hp=>h _ (nN.2 ⟨hp,rfl⟩)
theorem zV:∀p:ByteArray,B7 x p=[]->∀a,(Value.string p,a)∉mC x:=fun _ h _ ha=>Xt.1 h (nN.1 ha).1
abbrev plN:Tt:=⟨[2],[],[],[(52,[12])],[],[12],[50],[(53,(16,3,90,6)),(54,(16,4,91,1)),(55,(16,7,93,10)),(56,(16,8,94,4))],[],[(850013,13),(800013,10016),(810013,20016),(900013,10000000000+92000000+90016)],[5,7,8,9,11,12,13]⟩
abbrev kC(p:ByteArray):Value×AV:=(.string p,sl AY (B7 x p))
abbrev kA(p:ByteArray):Value×AV:=(.string p,sl AE (Co x p))
theorem rF{x:List Rl}{kv:Value×AV}{MH:List (Value×AV)}(h:(l.map (kC x)).Perm (kv::MH)):∃t r,kv=kC x t/\MH=r.map (kC x)/\l.Perm (t::r):=by
 obtain⟨ps,h1,h2⟩:=Lk h l rfl;cases ps with
 |nil=>cases h2
 |cons t r=>
  rw[AJ,Fi]at h2;exact⟨t,r,h2.1.symm,h2.2.symm,h1.symm⟩
abbrev srN(roots:List Rq)(C A:List (Value×AV)):List (Nat×HO):=
 [(2000,.cells [sl AW roots,.cmap Cu C,.cmap Cu A,.slice (.id 2001 6) [],.slice (.id 2002 1) [],.mref 2003,vb false,.slice .none [],.slice .none [],.msl 2004 0]),(2001,.tok 6 0),(2002,.tok 1 0),(2003,.map FU []),(2004,.arr 1 [])]
theorem Zm{x:List Rl}:(Value.string p,a)∈l.map (kA x)↔p∈l/\a=sl AE (Co x p):=by
 rw[Ai];constructor
 .rintro⟨q,hq,e⟩
  injection e with e1 e2
  injection e1 with e1
  subst e1;exact⟨hq,e2.symm⟩
 .rintro⟨h1,h2⟩
  exact⟨p,h1,by rw[h2]⟩
theorem gz(n:Nat):Ke y (n+1000)=.free:=by
 unfold Ke;rw[show Nat.blt (n+1000) 1000=false by rw[AM];intro hc;rw[CB]at hc;omega,Cp];rfl
theorem YX{s:Nat->HO}(H:∀n,h (n+1000)=.free):∀j,1000<=j->j<2000->h j≠.free->s j≠.free:=fun j h1 _ hn=>by
 refine absurd (H (j-1000)) ?_;rw[show j-1000+1000=j by omega];exact hn
theorem qv(h:k<1000):Nat.beq (n+1000) k=false:=by
 rw[AM];intro hc;have:=AL hc;omega
theorem fX{y:List Rl}{o:HO}(h:k<1000):(bif Nat.beq (n+1000) k then o else Ke y (n+1000))=.free:=by
 rw[qv h,gz];rfl
attribute [local irreducible] Jh
set_option maxRecDepth 30000 in
set_option maxHeartbeats 4000000 in
theorem s29(ifs:List (List AV))(roots:List Rq)(hx:∀r∈x,Ey r)(h0:A0 x=0):A9 Tryz.prog 136 [Iu x ifs,sl AW roots] (As [] Ag) fun r h'=>∃l:List ByteArray,l.Perm (AZ (yR x) [])/\r=.ref 2000 0/\h'=As (srN roots (mC x) (l.map (kA x))) Ag:=by
 have tw:x.length<=256:=(My h0).1;refine Cz (No plN) [(16,2000),(90,2001),(91,2002),(14,2003),(92,2004)] rfl C3 hm rfl Tryz.func136 Wk rfl (Nz rfl) Wk rfl (Xi 0 (Xi 0 (Xi 0 (Xi {i:Nat // i<=x.length} (Xi (fun i=>⟨[(2,.ref 2 0),(5,.ref 16 0),(18,sl AC x),(19,vi (x.map AC).length),(20,vi i.1)],[(2,.ro (Ic x ifs)),(12,.mapU Cu (Jz (yR (x.take i.1)))),(13,.map Cu []),(14,.map FU []),(16,.cells [sl AW roots,.mref 12,.mref 13,nzA,nzA,.mref 14,vb false,nzA,nzA,nzA])],Ke (yR (x.take i.1))⟩) (Xi (fun i=>x.length-i.1) (Yi (Xi ⟨0,AB _⟩ ?_) ?_)))))))
 .refine⟨Z5,Z5,fun j=>.inl ?_,BV Wk⟩;show Ke [] j=.free;unfold Ke;cases (Nat.ble 100 j&&Nat.blt j 1000)<;>rfl
 intro⟨i,i1⟩;have hq:∀k,(yR (x.take k)).length<=256:=fun k=>by
  have:=Bx (fun r:Rl=>!r.yanked) (x.take k)
  rw[Ax]at this;show(List.filter _ _).length<=256;omega
 refine Xi 0 (Yi ?_ ?_)
 .intro h;have h:i<x.length:=by simpa using h
  have hg:x[i]?=some x[i]:=Ge h;have LW:x.take (i+1)=x.take i++[x[i]]:=by rw[Bh,hg];rfl
  refine Xi 0 (Xi (AC x[i]) (Yi (Yi (Nn i) (by simp[hg])) (Yi rfl ?_)));refine Yi (Nz rfl) (yN (Xi ⟨[(2,.ref 2 0),(5,.ref 16 0),(7,.ref 7 0),(18,sl AC x),(19,vi (x.map AC).length),(20,vi i)],[(2,.ro (Ic x ifs)),(7,.cells (AC x[i])),(12,.mapU Cu (Jz (yR (x.take i)))),(13,.map Cu []),(14,.map FU []),(16,.cells [sl AW roots,.mref 12,.mref 13,nzA,nzA,.mref 14,vb false,nzA,nzA,nzA])],Ke (yR (x.take i))⟩ (Yi ?_ ?_)))
  .exact⟨Z6,⟨Zr,Zr,⟨rfl,IE _ (Fx _ (hq _))⟩,Zr,Zr,Zr,Tv⟩,Hg (hq _) (Fx _ (hq _)),BV Wk⟩
  refine Xi 0 (Yi (fun hy=>?_) (fun hy=>?_))
  .have ey:yR (x.take (i+1))=yR (x.take i):=by
    unfold yR;rw[LW,EL,Ud (by rw[hy];decide)];simp
   refine Xi ⟨[(2,.ref 2 0),(5,.ref 16 0),(18,sl AC x),(19,vi (x.map AC).length),(20,vi i)],[(2,.ro (Ic x ifs)),(12,.mapU Cu (Jz (yR (x.take (i+1))))),(13,.map Cu []),(14,.map FU []),(16,.cells [sl AW roots,.mref 12,.mref 13,nzA,nzA,.mref 14,vb false,nzA,nzA,nzA])],Ke (yR (x.take (i+1)))⟩ (Yi ?_ ?_)
   .rw[ey];exact⟨Z5,⟨Zr,⟨rfl,IE _ (Fx _ (hq _))⟩,Zr,Zr,Zr,Tv⟩,Hg (hq _) (Fx _ (hq _)),BV Wk⟩
   refine Xi 0 (Yi (Ii i ch) (Xi ⟨i+1,by omega⟩ ?_));exact⟨Dl x.length i ch,Z5,⟨Zr,⟨rfl,IE _ (Fx _ (hq _))⟩,Zr,Zr,Zr,Tv⟩,Hg (hq _) (Fx _ (hq _)),BV Wk⟩
  refine Xi 0 (yN (Xi .pure (Xi _ (Yi (xn x[i].ver) (Xi ⟨[(2,.ref 2 0),(5,.ref 16 0),(7,.ref 7 0),(8,vi (plc x[i].ver)),(18,sl AC x),(19,vi (x.map AC).length),(20,vi i)],[(2,.ro (Ic x ifs)),(7,.cells (AC x[i])),(12,.mapU Cu (Jz (yR (x.take i)))),(13,.map Cu []),(14,.map FU []),(16,.cells [sl AW roots,.mref 12,.mref 13,nzA,nzA,.mref 14,vb false,nzA,nzA,nzA])],Ke (yR (x.take i))⟩ (Yi ?_ ?_))))))
  .exact⟨Z7,⟨Zr,Zr,⟨rfl,IE _ (Fx _ (hq _))⟩,Zr,Zr,Zr,Tv⟩,Hg (hq _) (Fx _ (hq _)),BV Wk⟩
  have ey:yR (x.take (i+1))=yR (x.take i)++[x[i]]:=by
   unfold yR;rw[LW,EL,Ue (by rw[hy];decide)];rfl
  have hyl:(yR (x.take i)).length<=256:=by
   have:=Bx (fun r:Rl=>!r.yanked) (x.take i)
   rw[Ax]at this;show(List.filter _ _).length<=256;omega
  have hP:∀l,Ke (yR (x.take i)) (l+100)=GP (yR (x.take i)) l:=Fx _ (hq _);refine BX (Classical.em (x[i].path∈AZ (yR (x.take i)) [])) (fun hp=>?_) (fun hp=>?_)
  .refine CL (Ct.1 hp) (fun k hk=>?_);have hu:=jA hk;have hl:(G5 (yR (x.take i)) x[i].path).length<=256:=by
    rw[Lm];exact AK (Bx _ _) hyl
   have zk:k<256:=by
    have:=(Aw.1 hk).1
    have:=Ik (yR (x.take i)) []
    simp only[Au]at this;omega
   have hr:Ke (yR (x.take i)) (k+100)=.tok 10 (G5 (yR (x.take i)) x[i].path).length:=by rw[hP,iA hk]
   refine Xi 0 ?_;refine Or.inl (Xi (.slice (.id (k+100) 10) (G5 (yR (x.take i)) x[i].path)) (Yi hu ?_));refine yN (SE (e:=266) (m:=9) (es2:=[SI x[i]]) rfl rfl rfl (fun _ h=>h) hr ⟨rfl,trivial⟩ (by show(_+1)*128<=_;omega) (by show _+1<=_;omega) (Yi (Ka ⟨A4 _,A4 _,A4 _,A4 _,A4 _,A4 _,A4 _,A4 _,A4 _,A4 _,A4 _,A4 _,A4 _,A4 _,A4 _,A4 _,Ew (show 49<10000000 by decide),Ew (by show _+100<10000000;omega),Ew (show 12<10000000 by decide),trivial⟩ Wk) ?_));have e9:E2 (Jz (yR (x.take i))) (.string x[i].path) (.slice (.id (k+100) 10) (G5 (yR (x.take i)) x[i].path++[SI x[i]]))=Jz (yR (x.take (i+1))):=by rw[ey];exact mO hk
   have hG:∀l,(bif Nat.beq (l+100) (k+100)then HO.tok 10 ((G5 (yR (x.take i)) x[i].path).length+1)else GP (yR (x.take i)) l)=GP (yR (x.take (i+1))) l:=by rw[ey];exact pn hk
   refine Xi ⟨[(2,.ref 2 0),(5,.ref 16 0),(18,sl AC x),(19,vi (x.map AC).length),(20,vi i)],[(2,.ro (Ic x ifs)),(12,.mapU Cu (Jz (yR (x.take (i+1))))),(13,.map Cu []),(14,.map FU []),(16,.cells [sl AW roots,.mref 12,.mref 13,nzA,nzA,.mref 14,vb false,nzA,nzA,nzA])],Ke (yR (x.take (i+1)))⟩ (Yi ?_ ?_)
   .refine⟨Z5,⟨Zr,⟨Aa (HO.mapU Cu) e9,IE _ (Fx _ (hq _))⟩,Zr,Zr,Zr,Tv⟩,Hg (hq _) (fun l=>?_),YX (fun n=>?_)⟩
    .show(bif Nat.beq (l+100) (k+100)then HO.tok 10 ((G5 (yR (x.take i)) x[i].path).length+1)else Ke (yR (x.take i)) (l+100))=_;rw[hP];exact hG l
    .exact fX (y:=yR (x.take i)) (show k+100<1000 by omega)
   refine Xi 0 (Yi (Ii i ch) (Xi ⟨i+1,by omega⟩ ?_));exact⟨Dl x.length i ch,Z5,⟨Zr,⟨rfl,IE _ (Fx _ (hq _))⟩,Zr,Zr,Zr,Tv⟩,Hg (hq _) (Fx _ (hq _)),BV Wk⟩
  .have MX:(AZ (yR (x.take i)) []).length<=256:=by
    have:=Ik (yR (x.take i)) []
    simp only[Au]at this;omega
   have hn:=XH hp;have hr:Ke (yR (x.take i)) ((AZ (yR (x.take i)) []).length+100)=.free:=by
    rw[hP];unfold GP;rw[A8 (Am _)]
   refine Xi ((AZ (yR (x.take i)) []).length+100) ?_;refine Or.inr (Yi hn ?_);refine yN (SD (e:=266) (m:=9) (es2:=[SI x[i]]) rfl rfl rfl (fun _ h=>h) hr rfl ⟨rfl,trivial⟩ (by show 1*128<=_;omega) (by show 1<=_;omega) (Yi (Ka ⟨A4 _,A4 _,A4 _,A4 _,A4 _,A4 _,A4 _,A4 _,A4 _,A4 _,A4 _,A4 _,A4 _,A4 _,A4 _,A4 _,Ew (show 49<10000000 by decide),Ew (by show _+100<10000000;omega),Ew (show 12<10000000 by decide),trivial⟩ Wk) ?_));have e9:E2 (Jz (yR (x.take i))) (.string x[i].path) (.slice (.id ((AZ (yR (x.take i)) []).length+100) 10) [SI x[i]])=Jz (yR (x.take (i+1))):=by rw[ey];exact mN hp
   have hG:∀l,(bif Nat.beq (l+100) ((AZ (yR (x.take i)) []).length+100)then HO.tok 10 1 else GP (yR (x.take i)) l)=GP (yR (x.take (i+1))) l:=by rw[ey];exact pm hp
   refine Xi ⟨[(2,.ref 2 0),(5,.ref 16 0),(18,sl AC x),(19,vi (x.map AC).length),(20,vi i)],[(2,.ro (Ic x ifs)),(12,.mapU Cu (Jz (yR (x.take (i+1))))),(13,.map Cu []),(14,.map FU []),(16,.cells [sl AW roots,.mref 12,.mref 13,nzA,nzA,.mref 14,vb false,nzA,nzA,nzA])],Ke (yR (x.take (i+1)))⟩ (Yi ?_ ?_)
   .refine⟨Z5,⟨Zr,⟨Aa (HO.mapU Cu) e9,IE _ (Fx _ (hq _))⟩,Zr,Zr,Zr,Tv⟩,Hg (hq _) (fun l=>?_),YX (fun n=>?_)⟩
    .show(bif Nat.beq (l+100) ((AZ (yR (x.take i)) []).length+100)then HO.tok 10 1 else Ke (yR (x.take i)) (l+100))=_;rw[hP];exact hG l
    .exact fX (y:=yR (x.take i)) (show(AZ (yR (x.take i)) []).length+100<1000 by omega)
   refine Xi 0 (Yi (Ii i ch) (Xi ⟨i+1,by omega⟩ ?_));exact⟨Dl x.length i ch,Z5,⟨Zr,⟨rfl,IE _ (Fx _ (hq _))⟩,Zr,Zr,Zr,Tv⟩,Hg (hq _) (Fx _ (hq _)),BV Wk⟩
 .intro h;have h:¬i<x.length:=by simpa using h
  have et:x.take i=x:=Av ch;have eM:∀hh:Nat->HO,TK hh (Jz (yR (x.take i)))=(AZ (yR x) []).map (kC x):=fun hh=>by
   rw[et];unfold TK Jz;rw[Bq];refine Dz fun j=>?_;rw[AG,AG,List.getElem?_zipIdx];cases (AZ (yR x) [])[j]? with
   |none=>rfl
   |some q=>show some (Value.string q,AV.slice .none (G5 (yR x) q))=_;rw[eU];rfl
  refine Xi ⟨[(2,.ref 2 0),(5,.ref 16 0)],[(2,.ro (Ic x ifs)),(12,.mapU Cu (Jz (yR (x.take i)))),(13,.map Cu []),(14,.map FU []),(16,.cells [sl AW roots,.mref 12,.mref 13,nzA,nzA,.mref 14,vb false,nzA,nzA,nzA])],Ke (yR (x.take i))⟩ (Yi ?_ ?_)
  .exact⟨Z2,⟨Zr,⟨rfl,IE _ (Fx _ (hq _))⟩,Zr,Zr,Zr,Tv⟩,Hg (hq _) (Fx _ (hq _)),BV Wk⟩
  refine Xi 0 (Xi {p:List ByteArray×List ByteArray×Option (Value×AV) // (p.1++p.2.1).Perm (AZ (yR x) [])} (Xi (fun p=>⟨[(2,.ref 2 0),(5,.ref 16 0),(56,.ref 56 0)],[(2,.ro (Ic x ifs)),(12,.rom Cu ((AZ (yR x) []).map (kC x))),(13,.map Cu (p.1.1.map (kA x))),(14,.map FU []),(16,.cells [sl AW roots,.mref 12,.mref 13,.slice (.id 90 6) [],.slice (.id 91 1) [],.mref 14,vb false,.slice (.id 93 10) [],.slice (.id 94 4) [],nzA]),(56,.iter ((AZ (yR x) []).map (kC x)) (p.1.2.1.map (kC x)) p.1.2.2),(90,.tok 6 0),(91,.tok 1 0),(93,.tok 10 0),(94,.tok 4 0)],Ag⟩) (Xi (fun p=>p.1.2.1.length) (Yi (Xi ⟨([],AZ (yR x) [],none),.refl _⟩ ?_) ?_))))
  .refine⟨Z3,⟨Zr,⟨Aa (HO.rom Cu) (eM _),rfl⟩,Zr,Zr,Zr,⟨?_,rfl⟩,Zr,Zr,Zr,Zr,Tv⟩,Fh,YX (fun n=>?_)⟩
   .show HO.iter (TK _ (Jz (yR (x.take i)))) (TK _ (Jz (yR (x.take i)))) none=_;rw[eM]
   .exact gz (yR (x.take i)) n
  intro⟨⟨done,rem,EJ⟩,r1⟩;refine Xi 0 (Yi ?_ ?_)
  .intro hr;have hr:rem=[]:=DO.1 hr;subst hr;rw[BQ]at r1;refine cU [(5,.ref 16 0)] [(14,.map FU []),(16,.cells [sl AW roots,.cmap Cu (mC x),.cmap Cu (done.map (kA x)),.slice (.id 90 6) [],.slice (.id 91 1) [],.mref 14,vb false,.slice (.id 93 10) [],.slice (.id 94 4) [],.msl 92 0]),(90,.tok 6 0),(91,.tok 1 0),(92,.arr 1 []),(93,.tok 10 0),(94,.tok 4 0)] Z1 Z7 (Xi 0 ?_);exact Xi _ (Yi (.refl _) (Xi done (Yi r1 (Yi rfl rfl))))
  .intro kv MH hp;refine CL (rF hp) (fun t hp=>CL hp (fun r hp=>?_));have e1:=hp.1;have e2:=hp.2.1;subst e1;subst e2;have hp:=hp.2.2;refine cU [(2,.ref 2 0),(5,.ref 16 0),(56,.ref 56 0)] [(2,.ro (Ic x ifs)),(12,.rom Cu ((AZ (yR x) []).map (kC x))),(13,.map Cu (done.map (kA x))),(14,.map FU []),(16,.cells [sl AW roots,.mref 12,.mref 13,.slice (.id 90 6) [],.slice (.id 91 1) [],.mref 14,vb false,.slice (.id 93 10) [],.slice (.id 94 4) [],nzA]),(56,.iter ((AZ (yR x) []).map (kC x)) (r.map (kC x)) (some (kC x t))),(90,.tok 6 0),(91,.tok 1 0),(93,.tok 10 0),(94,.tok 4 0)] Z3 Z10 (Xi 0 (cU [(2,.ref 2 0),(5,.ref 16 0),(10,vs t),(56,.ref 56 0)] [(2,.ro (Ic x ifs)),(12,.rom Cu ((AZ (yR x) []).map (kC x))),(13,.map Cu (done.map (kA x))),(14,.map FU []),(16,.cells [sl AW roots,.mref 12,.mref 13,.slice (.id 90 6) [],.slice (.id 91 1) [],.mref 14,vb false,.slice (.id 93 10) [],.slice (.id 94 4) [],nzA]),(56,.iter ((AZ (yR x) []).map (kC x)) (r.map (kC x)) (some (kC x t))),(90,.tok 6 0),(91,.tok 1 0),(93,.tok 10 0),(94,.tok 4 0)] Z4 Z10 (Xi 0 ?_)));have TC:(done++rem).Nodup:=r1.nodup_iff.2 (Fp _ [] FF);have htn:t∉done:=fun hc=>(FQ.1 TC).2.2 t hc t (hp.mem_iff.2 (Ab ..)) rfl;have em:E2 (done.map (kA x)) (.string t) (sl AE (Co x t))=(done++[t]).map (kA x):=by
    rw[NF (fun a ha=>htn (Zm.1 ha).1),At];rfl
   have SP:((done++[t])++r).Perm (AZ (yR x) []):=by
    rw[BD];exact(IX _ hp.symm).trans r1
   refine yN (Xi _ (Yi (Acn x ifs t (c84 x ifs hx)) (Yi Wk (Xi ⟨(done++[t],r,some (kC x t)),SP⟩ ?_))));exact⟨by show r.length<rem.length;rw[hp.length_eq,Al];omega,Z3,⟨Zr,Zr,⟨Aa (HO.map Cu) em,rfl⟩,Zr,Zr,Zr,Zr,Zr,Zr,Zr,Tv⟩,Fh,BV Wk⟩
end Go.Eng
namespace Go.Eng
open Go.Proofs
variable {x:List Rl}
theorem dv(h0:A0 x=0){p:ByteArray}(h:p∉AZ (yR x) []):Co x p=[]:=by
 rw[i7 h0]
 have:x.filter (gu p)=[]:=by
  rw[Ir];intro r hr hc;unfold gu at hc;rw[Af,AA]at hc;exact h ((G6 _ _ _).2 (.inr ⟨r,Br.2 ⟨hr,hc.2⟩,hc.1⟩))
 rw[this];rfl
theorem uO{roots:List Rq}(hx:∀r∈x,Ey r)(hr:∀q∈roots,JH q)(h0:A0 x=0)(h1:BH roots=0){l:List ByteArray}(hl:l.Perm (AZ (yR x) [])):Env x roots (mC x) (l.map (kA x)) where
 hx:=h0
 hr:=h1
 fx:=hx
 fr:=hr
 c1:=zS x
 c2:=zU x
 c3:=zV x
 av p:=by
  by_cases hp:p∈l
  .exact⟨sl AE (Co x p),fun a ha=>(Zm.1 ha).2,fun hn=>(hn _ (Zm.2 ⟨hp,rfl⟩)).elim,fun h=>yg p (Co x p) (Uq x p)⟩
  .refine⟨nzA,fun a ha=>(hp (Zm.1 ha).1).elim,fun _=>rfl,fun h=>?_⟩;have e:=dv h0 (fun hc=>hp (hl.mem_iff.2 hc));have hc:=yg p (Co x p) (Uq x p);rw[e]at hc⊢;exact Jp.args hc ⟨.refl _,.nil,trivial⟩
abbrev JN(b:Bool):List AV:=[vb b]
end Go.Eng
