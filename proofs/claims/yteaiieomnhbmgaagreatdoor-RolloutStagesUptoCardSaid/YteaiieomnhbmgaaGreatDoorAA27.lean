/- Lemmas 27. -/
import Derived.Test.YteaiieomnhbmgaaGreatDoorAA26
import Derived.Test.YteaiieomnhbmgaaGreatDoorAA23
namespace Go.Eng
open Go.Proofs
variable {p:ByteArray}{l:List ByteArray}{h:Nat->HO}{n k:Nat}{a:AV}(y x:List Rl)(j:Nat)(r:Rl)
abbrev SD:List AV:=AT ⟨plc r.ver,r⟩
abbrev G5(p:ByteArray):List (List AV):=(y.filter fun r=>decide (r.path=p)).map SD
abbrev aN(q:ByteArray×Nat):Value×AV:=(.string q.1,.slice (.id (q.2+100) 10) (G5 y q.1))
abbrev Jm:List (Value×AV):=(AW y []).zipIdx.map (aN y)
def GR(l:Nat):HO:=match(AW y [])[l]? with
 |some q=>.tok 10 (G5 y q).length
 |none=>.free
def JW:HO:=bif Nat.ble 100 j&&Nat.blt j 1000 then GR y (j-100)else .free
theorem FC(hy:y.length<=256)(l:Nat):JW y (l+100)=GR y l:=by
 unfold JW;rw[show Nat.ble 100 (l+100)=true by rw[Dt];omega,Fb,Nat.add_sub_cancel]
 by_cases h:l+100<1000
 .rw[show Nat.blt (l+100) 1000=true by rw[Cv];exact h];rfl
 .rw[show Nat.blt (l+100) 1000=false by rw[AM];intro hc;rw[Cv]at hc;omega]
  have:=Ie y []
  rw[Ao]at this;unfold GR;rw[A7 ch];rfl
theorem qx{j:Nat}(h:j<100):JW y j=.free:=by
 unfold JW;rw[show Nat.ble 100 j=false by rw[AM];intro hc;rw[Dt]at hc;omega];rfl
theorem Ib(q:ByteArray):G5 (y++[r]) q=if r.path=q then G5 y q++[SD r]else G5 y q:=by
 unfold G5;rw[EP]
 by_cases h:r.path=q
 .rw[Al h,T8 (by simpa using h)];simp
 .rw[Aj h,T7 (by simpa using h)];simp
section
variable {y:List Rl}{r:Rl}{k:Nat}
open Classical in
theorem mi(h:(AW y [])[k]?=some r.path):Fa (Jm y) (.string r.path) (.slice (.id (k+100) 10) (G5 y r.path++[SD r]))=Jm (y++[r]):=by
 have hd:=Ft y [] FJ;have hm:aN y (r.path,k)∈Jm y:=Ai.2 ⟨_,F0.2 h,rfl⟩;rw[bx (a':=.slice (.id (k+100) 10) (G5 y r.path)) hm];unfold Jm;rw[Kb h,Bs];refine Bi fun q hq=>?_;have hg:=Jb hq;obtain⟨q,j⟩:=q;show(if Value.string q=Value.string r.path then _ else _)=aN (y++[r]) (q,j)
 by_cases he:q=r.path
 .subst he
  have:j=k:=J8 hd hg h
  subst this;rw[Al rfl];show _=(Value.string r.path,AV.slice (.id (j+100) 10) (G5 (y++[r]) r.path));rw[Ib,Al rfl]
 .rw[Aj (fun e=>he (by simpa using e))];show(Value.string q,AV.slice (.id (j+100) 10) (G5 y q))=(Value.string q,AV.slice (.id (j+100) 10) (G5 (y++[r]) q));rw[Ib,Aj (fun e=>he e.symm)]
theorem bG(h:r.path∉AW y []):G5 y r.path=[]:=by
 have:y.filter (fun s=>decide (s.path=r.path))=[]:=by
  rw[Ih];intro s hs he;exact h ((G6 y [] r.path).2 (.inr ⟨s,hs,AU he⟩))
 unfold G5;rw[this];rfl
theorem Xy(h:r.path∉AW y [])(a:AV):(Value.string r.path,a)∉Jm y:=by
 intro hc;obtain⟨q,h1,h2⟩:=Ai.1 hc;simp only[aN,Gl,Value.string.injEq]at h2;exact h (by rw[<-h2.1];exact Aw (Jb h1))
theorem mh(h:r.path∉AW y []):Fa (Jm y) (.string r.path) (.slice (.id ((AW y []).length+100) 10) [SD r])=Jm (y++[r]):=by
 rw[Ns (fun a=>Xy h a)];unfold Jm;rw[Ka h,List.zipIdx_append,As]
 congr 1
 .refine Bi fun q hq=>?_;have hg:=Jb hq
  have:q.1≠r.path:=fun e=>h (by rw[<-e];exact Aw hg)
  show(Value.string q.1,AV.slice (.id (q.2+100) 10) (G5 y q.1))=(Value.string q.1,AV.slice (.id (q.2+100) 10) (G5 (y++[r]) q.1));rw[Ib,Aj (fun e=>this e.symm)]
 .show [_]=[(Value.string r.path,AV.slice (.id (0+(AW y []).length+100) 10) (G5 (y++[r]) r.path))];rw[Ib,Al rfl,bG h,Bg];rfl
theorem iW{j:Nat}(h:(AW y [])[j]?=some p):(Value.string p,AV.slice (.id (j+100) 10) (G5 y p))∈Jm y/\∀b,(Value.string p,b)∈Jm y->b=AV.slice (.id (j+100) 10) (G5 y p):=by
 refine⟨Ai.2 ⟨(p,j),F0.2 h,rfl⟩,fun b hb=>?_⟩;obtain⟨q,h1,h2⟩:=Ai.1 hb;simp only[aN,Gl,Value.string.injEq]at h2;have hg:=Jb h1;rw[h2.1]at hg
 have:=J8 (Ft y [] FJ) hg h
 rw[<-h2.2,h2.1,this]
theorem gQ{j:Nat}(h:(AW y [])[j]?=some p):GR y j=.tok 10 (G5 y p).length:=by
 unfold GR;rw[h]
theorem oL(h:(AW y [])[k]?=some r.path)(l:Nat):(bif Nat.beq (l+100) (k+100)then HO.tok 10 ((G5 y r.path).length+1)else GR y l)=GR (y++[r]) l:=by
 by_cases he:l=k
 .subst he;rw[show Nat.beq (l+100) (l+100)=true from Dq _];unfold GR;rw[Kb h,h];show HO.tok 10 _=HO.tok 10 (G5 (y++[r]) r.path).length;rw[Ib,Al rfl,Ac];rfl
 .rw[show Nat.beq (l+100) (k+100)=false by rw[AM];intro hc;have:=AL hc;omega];show GR y l=_;unfold GR;rw[Kb h];cases hq:(AW y [])[l]? with
  |none=>rfl
  |some q=>
   show HO.tok 10 (G5 y q).length=HO.tok 10 (G5 (y++[r]) q).length;rw[Ib,Aj];intro e;subst e;exact he (J8 (Ft y [] FJ) hq h)
theorem oK(h:r.path∉AW y [])(l:Nat):(bif Nat.beq (l+100) ((AW y []).length+100)then HO.tok 10 1 else GR y l)=GR (y++[r]) l:=by
 by_cases he:l=(AW y []).length
 .subst he;rw[show Nat.beq ((AW y []).length+100) ((AW y []).length+100)=true from Dq _];unfold GR;rw[Ka h];simp only[A0 (Ak _),Ff,Bf];show HO.tok 10 1=HO.tok 10 (G5 (y++[r]) r.path).length;rw[Ib,Al rfl,bG h];rfl
 .rw[show Nat.beq (l+100) ((AW y []).length+100)=false by rw[AM];intro hc;have:=AL hc;omega];show GR y l=_;unfold GR;rw[Ka h]
  by_cases hl:l<(AW y []).length
  .rw[AZ hl,Ge hl];show HO.tok 10 (G5 y (AW y [])[l]).length=HO.tok 10 (G5 (y++[r]) (AW y [])[l]).length;rw[Ib,Aj];intro e;exact h (by rw[e];exact Aq hl)
  .rw[A7 ch,A7 (by rw[Ac];simp;omega)]
end
theorem Iv(hh:∀l,h (l+100)=GR y l):SO h (Jm y)=true:=by
 refine RG fun p hp=>?_;obtain⟨q,h1,rfl⟩:=Ai.1 hp;show Tw h (q.2+100)=true;unfold Tw;rw[hh,gQ (Jb h1)]
theorem Hg{y:List Rl}(hy:y.length<=256){h':Nat->HO}(hh:∀l,h (l+100)=GR y l)(j:Nat):JW y j=.free\/(h j=JW y j/\Tx h' (JW y j)=true):=by
 by_cases hj:j<100
 .exact .inl (qx y hj)
 .obtain⟨l,rfl⟩:∃l,j=l+100:=⟨j-100,by omega⟩
  right
  rw[FC y hy];refine⟨hh l,?_⟩;unfold GR;cases (AW y [])[l]?<;>rfl
abbrev yR:List Rl:=x.filter fun r=>!r.yanked
theorem dW(p:ByteArray):G5 (yR x) p=(CC x p).map AT:=by
 unfold G5 CC;rw[List.filter_filter,Bs]
 rfl
def mC:List (Value×AV):=(AW (yR x) []).map fun p=>(.string p,sl AT (CC x p))
theorem ne{x:List Rl}:(Value.string p,a)∈mC x↔p∈AW (yR x) []/\a=sl AT (CC x p):=by
 unfold mC;rw[Ai];constructor
 .rintro⟨q,hq,e⟩
  injection e with e1 e2
  injection e1 with e1
  subst e1;exact⟨hq,e2.symm⟩
 .rintro⟨h1,h2⟩
  exact⟨p,h1,by rw[h2]⟩
theorem Xk{x:List Rl}:CC x p=[]↔p∉AW (yR x) []:=by
 rw[G6];unfold CC;rw[DN,Ih];constructor
 .rintro h (h1 | ⟨r,h1,h2⟩)
  .cases h1
  .obtain⟨h3,h4⟩:=Bz.1 h1;exact h r h3 (by rw[Ay h2,h4];rfl)
 .intro h r hr hc;rw[Af,AC]at hc;exact h (.inr ⟨r,Bz.2 ⟨hr,hc.2⟩,hc.1⟩)
theorem zl:∀(p:ByteArray) (a:AV),(Value.string p,a)∈mC x->a=sl AT (CC x p):=fun _ _ h=>(ne.1 h).2
theorem zm:∀p:ByteArray,(∀a,(Value.string p,a)∉mC x)->CC x p=[]:=fun _ h=>Xk.2 fun hp=>h _ (ne.2 ⟨hp,rfl⟩)
theorem zn:∀p:ByteArray,CC x p=[]->∀a,(Value.string p,a)∉mC x:=fun _ h _ ha=>Xk.1 h (ne.1 ha).1
abbrev plN:Tn:=⟨[2],[],[],[(52,[12])],[],[12],[50],[(53,(16,3,90,6)),(54,(16,4,91,1)),(55,(16,7,93,10)),(56,(16,8,94,4))],[],[(850013,13),(800013,10016),(810013,20016),(900013,10000000000+92000000+90016)],[5,7,8,9,11,12,13]⟩
abbrev kC(p:ByteArray):Value×AV:=(.string p,sl AT (CC x p))
abbrev kA(p:ByteArray):Value×AV:=(.string p,sl AE (Cn x p))
theorem qZ{x:List Rl}{kv:Value×AV}{Mw : List (Value×AV)}(h:(l.map (kC x)).Perm (kv::Mw)):∃t r,kv=kC x t/\Mw=r.map (kC x)/\l.Perm (t::r):=by
 obtain⟨ps,h1,h2⟩:=K5 h l rfl;cases ps with
 |nil=>cases h2
 |cons t r=>
  rw[AK,Fo]at h2;exact⟨t,r,h2.1.symm,h2.2.symm,h1.symm⟩
abbrev srN(roots:List Rq)(C A:List (Value×AV)):List (Nat×HO):=
 [(2000,.cells [sl Bb roots,.cmap Cq C,.cmap Cq A,.slice (.id 2001 6) [],.slice (.id 2002 1) [],.mref 2003,vb false,.slice .none [],.slice .none [],.msl 2004 0]),(2001,.tok 6 0),(2002,.tok 1 0),(2003,.map FY []),(2004,.arr 1 [])]
theorem Y7{x:List Rl}:(Value.string p,a)∈l.map (kA x)↔p∈l/\a=sl AE (Cn x p):=by
 rw[Ai];constructor
 .rintro⟨q,hq,e⟩
  injection e with e1 e2
  injection e1 with e1
  subst e1;exact⟨hq,e2.symm⟩
 .rintro⟨h1,h2⟩
  exact⟨p,h1,by rw[h2]⟩
theorem fL(n:Nat):JW y (n+1000)=.free:=by
 unfold JW;rw[show Nat.blt (n+1000) 1000=false by rw[AM];intro hc;rw[Cv]at hc;omega,Dw];rfl
theorem YM{s:Nat->HO}(H:∀n,h (n+1000)=.free):∀j,1000<=j->j<2000->h j≠.free->s j≠.free:=fun j h1 _ hn=>by
 refine absurd (H (j-1000)) ?_;rw[show j-1000+1000=j by omega];exact hn
theorem pY(h:k<1000):Nat.beq (n+1000) k=false:=by
 rw[AM];intro hc;have:=AL hc;omega
theorem fp{y:List Rl}{o:HO}(h:k<1000):(bif Nat.beq (n+1000) k then o else JW y (n+1000))=.free:=by
 rw[pY h,fL];rfl
attribute [local irreducible] I6
set_option maxRecDepth 30000 in
set_option maxHeartbeats 4000000 in
theorem s29(ifs:List (List AV))(roots:List Rq)(hx:∀r∈x,EG r)(h0:A5 x=0):Ba Tryz.prog 136 [MU x ifs,sl Bb roots] (Ap [] Ae) fun r h'=>∃l:List ByteArray,l.Perm (AW (yR x) [])/\r=.ref 2000 0/\h'=Ap (srN roots (mC x) (l.map (kA x))) Ae:=by
 have sV:x.length<=256:=(Mn h0).1;refine Cu (M7 plN) [(16,2000),(90,2001),(91,2002),(14,2003),(92,2004)] rfl Da hm rfl Tryz.func136 Wk rfl (Nz rfl) Wk rfl (Xi 0 (Xi 0 (Xi 0 (Xi {i:Nat // i<=x.length} (Xi (fun i=>⟨[(2,.ref 2 0),(5,.ref 16 0),(18,sl AF x),(19,vi (x.map AF).length),(20,vi i.1)],[(2,.ro (Ic x ifs)),(12,.mapU Cq (Jm (yR (x.take i.1)))),(13,.map Cq []),(14,.map FY []),(16,.cells [sl Bb roots,.mref 12,.mref 13,nzA,nzA,.mref 14,vb false,nzA,nzA,nzA])],JW (yR (x.take i.1))⟩) (Xi (fun i=>x.length-i.1) (Yi (Xi ⟨0,Ax _⟩ ?_) ?_)))))))
 .refine⟨Z5,Z5,fun j=>.inl ?_,BT Wk⟩;show JW [] j=.free;unfold JW;cases (Nat.ble 100 j&&Nat.blt j 1000)<;>rfl
 intro⟨i,i1⟩;have hq:∀k,(yR (x.take k)).length<=256:=fun k=>by
  have:=Bw (fun r:Rl=>!r.yanked) (x.take k)
  rw[Au]at this;show(List.filter _ _).length<=256;omega
 refine Xi 0 (Yi ?_ ?_)
 .intro h;have h:i<x.length:=by simpa using h
  have hg:x[i]?=some x[i]:=Ge h;have LK:x.take (i+1)=x.take i++[x[i]]:=by rw[Bj,hg];rfl
  refine Xi 0 (Xi (AF x[i]) (Yi (Yi (Nn i) (by simp[hg])) (Yi rfl ?_)));refine Yi (Nz rfl) (yN (Xi ⟨[(2,.ref 2 0),(5,.ref 16 0),(7,.ref 7 0),(18,sl AF x),(19,vi (x.map AF).length),(20,vi i)],[(2,.ro (Ic x ifs)),(7,.cells (AF x[i])),(12,.mapU Cq (Jm (yR (x.take i)))),(13,.map Cq []),(14,.map FY []),(16,.cells [sl Bb roots,.mref 12,.mref 13,nzA,nzA,.mref 14,vb false,nzA,nzA,nzA])],JW (yR (x.take i))⟩ (Yi ?_ ?_)))
  .exact⟨Z6,⟨Zr,Zr,⟨rfl,Iv _ (FC _ (hq _))⟩,Zr,Zr,Zr,Tv⟩,Hg (hq _) (FC _ (hq _)),BT Wk⟩
  refine Xi 0 (Yi (fun hy=>?_) (fun hy=>?_))
  .have ey:yR (x.take (i+1))=yR (x.take i):=by
    unfold yR;rw[LK,EP,T7 (by rw[hy];decide)];simp
   refine Xi ⟨[(2,.ref 2 0),(5,.ref 16 0),(18,sl AF x),(19,vi (x.map AF).length),(20,vi i)],[(2,.ro (Ic x ifs)),(12,.mapU Cq (Jm (yR (x.take (i+1))))),(13,.map Cq []),(14,.map FY []),(16,.cells [sl Bb roots,.mref 12,.mref 13,nzA,nzA,.mref 14,vb false,nzA,nzA,nzA])],JW (yR (x.take (i+1)))⟩ (Yi ?_ ?_)
   .rw[ey];exact⟨Z5,⟨Zr,⟨rfl,Iv _ (FC _ (hq _))⟩,Zr,Zr,Zr,Tv⟩,Hg (hq _) (FC _ (hq _)),BT Wk⟩
   refine Xi 0 (Yi (Ii i ch) (Xi ⟨i+1,by omega⟩ ?_));exact⟨Dl x.length i ch,Z5,⟨Zr,⟨rfl,Iv _ (FC _ (hq _))⟩,Zr,Zr,Zr,Tv⟩,Hg (hq _) (FC _ (hq _)),BT Wk⟩
  refine Xi 0 (yN (Xi .pure (Xi _ (Yi (wK x[i].ver) (Xi ⟨[(2,.ref 2 0),(5,.ref 16 0),(7,.ref 7 0),(8,vi (plc x[i].ver)),(18,sl AF x),(19,vi (x.map AF).length),(20,vi i)],[(2,.ro (Ic x ifs)),(7,.cells (AF x[i])),(12,.mapU Cq (Jm (yR (x.take i)))),(13,.map Cq []),(14,.map FY []),(16,.cells [sl Bb roots,.mref 12,.mref 13,nzA,nzA,.mref 14,vb false,nzA,nzA,nzA])],JW (yR (x.take i))⟩ (Yi ?_ ?_))))))
  .exact⟨Z7,⟨Zr,Zr,⟨rfl,Iv _ (FC _ (hq _))⟩,Zr,Zr,Zr,Tv⟩,Hg (hq _) (FC _ (hq _)),BT Wk⟩
  have ey:yR (x.take (i+1))=yR (x.take i)++[x[i]]:=by
   unfold yR;rw[LK,EP,T8 (by rw[hy];decide)];rfl
  have hyl:(yR (x.take i)).length<=256:=by
   have:=Bw (fun r:Rl=>!r.yanked) (x.take i)
   rw[Au]at this;show(List.filter _ _).length<=256;omega
  have hP:∀l,JW (yR (x.take i)) (l+100)=GR (yR (x.take i)) l:=FC _ (hq _);refine Cf (Classical.em (x[i].path∈AW (yR (x.take i)) [])) (fun hp=>?_) (fun hp=>?_)
  .refine CT (Cp.1 hp) (fun k hk=>?_);have hu:=iW hk;have hl:(G5 (yR (x.take i)) x[i].path).length<=256:=by
    rw[Lm];exact AI (Bw _ _) hyl
   have yC:k<256:=by
    have:=(Av.1 hk).1
    have:=Ie (yR (x.take i)) []
    simp only[Ao]at this;omega
   have hr:JW (yR (x.take i)) (k+100)=.tok 10 (G5 (yR (x.take i)) x[i].path).length:=by rw[hP,gQ hk]
   refine Xi 0 ?_;refine Or.inl (Xi (.slice (.id (k+100) 10) (G5 (yR (x.take i)) x[i].path)) (Yi hu ?_));refine yN (Sz (e:=266) (m:=9) (es2:=[SD x[i]]) rfl rfl rfl (fun _ h=>h) hr ⟨rfl,trivial⟩ (by show(_+1)*128<=_;omega) (by show _+1<=_;omega) (Yi (JU ⟨A3 _,A3 _,A3 _,A3 _,A3 _,A3 _,A3 _,A3 _,A3 _,A3 _,A3 _,A3 _,A3 _,A3 _,A3 _,A3 _,EB (show 49<10000000 by decide),EB (by show _+100<10000000;omega),EB (show 12<10000000 by decide),trivial⟩ Wk) ?_));have e9:Fa (Jm (yR (x.take i))) (.string x[i].path) (.slice (.id (k+100) 10) (G5 (yR (x.take i)) x[i].path++[SD x[i]]))=Jm (yR (x.take (i+1))):=by rw[ey];exact mi hk
   have hG:∀l,(bif Nat.beq (l+100) (k+100)then HO.tok 10 ((G5 (yR (x.take i)) x[i].path).length+1)else GR (yR (x.take i)) l)=GR (yR (x.take (i+1))) l:=by rw[ey];exact oL hk
   refine Xi ⟨[(2,.ref 2 0),(5,.ref 16 0),(18,sl AF x),(19,vi (x.map AF).length),(20,vi i)],[(2,.ro (Ic x ifs)),(12,.mapU Cq (Jm (yR (x.take (i+1))))),(13,.map Cq []),(14,.map FY []),(16,.cells [sl Bb roots,.mref 12,.mref 13,nzA,nzA,.mref 14,vb false,nzA,nzA,nzA])],JW (yR (x.take (i+1)))⟩ (Yi ?_ ?_)
   .refine⟨Z5,⟨Zr,⟨Aa (HO.mapU Cq) e9,Iv _ (FC _ (hq _))⟩,Zr,Zr,Zr,Tv⟩,Hg (hq _) (fun l=>?_),YM (fun n=>?_)⟩
    .show(bif Nat.beq (l+100) (k+100)then HO.tok 10 ((G5 (yR (x.take i)) x[i].path).length+1)else JW (yR (x.take i)) (l+100))=_;rw[hP];exact hG l
    .exact fp (y:=yR (x.take i)) (show k+100<1000 by omega)
   refine Xi 0 (Yi (Ii i ch) (Xi ⟨i+1,by omega⟩ ?_));exact⟨Dl x.length i ch,Z5,⟨Zr,⟨rfl,Iv _ (FC _ (hq _))⟩,Zr,Zr,Zr,Tv⟩,Hg (hq _) (FC _ (hq _)),BT Wk⟩
  .have MK:(AW (yR (x.take i)) []).length<=256:=by
    have:=Ie (yR (x.take i)) []
    simp only[Ao]at this;omega
   have hn:=Xy hp;have hr:JW (yR (x.take i)) ((AW (yR (x.take i)) []).length+100)=.free:=by
    rw[hP];unfold GR;rw[A7 (Ak _)]
   refine Xi ((AW (yR (x.take i)) []).length+100) ?_;refine Or.inr (Yi hn ?_);refine yN (Sy (e:=266) (m:=9) (es2:=[SD x[i]]) rfl rfl rfl (fun _ h=>h) hr rfl ⟨rfl,trivial⟩ (by show 1*128<=_;omega) (by show 1<=_;omega) (Yi (JU ⟨A3 _,A3 _,A3 _,A3 _,A3 _,A3 _,A3 _,A3 _,A3 _,A3 _,A3 _,A3 _,A3 _,A3 _,A3 _,A3 _,EB (show 49<10000000 by decide),EB (by show _+100<10000000;omega),EB (show 12<10000000 by decide),trivial⟩ Wk) ?_));have e9:Fa (Jm (yR (x.take i))) (.string x[i].path) (.slice (.id ((AW (yR (x.take i)) []).length+100) 10) [SD x[i]])=Jm (yR (x.take (i+1))):=by rw[ey];exact mh hp
   have hG:∀l,(bif Nat.beq (l+100) ((AW (yR (x.take i)) []).length+100)then HO.tok 10 1 else GR (yR (x.take i)) l)=GR (yR (x.take (i+1))) l:=by rw[ey];exact oK hp
   refine Xi ⟨[(2,.ref 2 0),(5,.ref 16 0),(18,sl AF x),(19,vi (x.map AF).length),(20,vi i)],[(2,.ro (Ic x ifs)),(12,.mapU Cq (Jm (yR (x.take (i+1))))),(13,.map Cq []),(14,.map FY []),(16,.cells [sl Bb roots,.mref 12,.mref 13,nzA,nzA,.mref 14,vb false,nzA,nzA,nzA])],JW (yR (x.take (i+1)))⟩ (Yi ?_ ?_)
   .refine⟨Z5,⟨Zr,⟨Aa (HO.mapU Cq) e9,Iv _ (FC _ (hq _))⟩,Zr,Zr,Zr,Tv⟩,Hg (hq _) (fun l=>?_),YM (fun n=>?_)⟩
    .show(bif Nat.beq (l+100) ((AW (yR (x.take i)) []).length+100)then HO.tok 10 1 else JW (yR (x.take i)) (l+100))=_;rw[hP];exact hG l
    .exact fp (y:=yR (x.take i)) (show(AW (yR (x.take i)) []).length+100<1000 by omega)
   refine Xi 0 (Yi (Ii i ch) (Xi ⟨i+1,by omega⟩ ?_));exact⟨Dl x.length i ch,Z5,⟨Zr,⟨rfl,Iv _ (FC _ (hq _))⟩,Zr,Zr,Zr,Tv⟩,Hg (hq _) (FC _ (hq _)),BT Wk⟩
 .intro h;have h:¬i<x.length:=by simpa using h
  have et:x.take i=x:=At ch;have eM:∀hh:Nat->HO,TB hh (Jm (yR (x.take i)))=(AW (yR x) []).map (kC x):=fun hh=>by
   rw[et];unfold TB Jm;rw[Bs];refine Dx fun j=>?_;rw[AG,AG,List.getElem?_zipIdx];cases (AW (yR x) [])[j]? with
   |none=>rfl
   |some q=>show some (Value.string q,AV.slice .none (G5 (yR x) q))=_;rw[dW];rfl
  refine Xi ⟨[(2,.ref 2 0),(5,.ref 16 0)],[(2,.ro (Ic x ifs)),(12,.mapU Cq (Jm (yR (x.take i)))),(13,.map Cq []),(14,.map FY []),(16,.cells [sl Bb roots,.mref 12,.mref 13,nzA,nzA,.mref 14,vb false,nzA,nzA,nzA])],JW (yR (x.take i))⟩ (Yi ?_ ?_)
  .exact⟨Z2,⟨Zr,⟨rfl,Iv _ (FC _ (hq _))⟩,Zr,Zr,Zr,Tv⟩,Hg (hq _) (FC _ (hq _)),BT Wk⟩
  refine Xi 0 (Xi {p:List ByteArray×List ByteArray×Option (Value×AV) // (p.1++p.2.1).Perm (AW (yR x) [])} (Xi (fun p=>⟨[(2,.ref 2 0),(5,.ref 16 0),(56,.ref 56 0)],[(2,.ro (Ic x ifs)),(12,.rom Cq ((AW (yR x) []).map (kC x))),(13,.map Cq (p.1.1.map (kA x))),(14,.map FY []),(16,.cells [sl Bb roots,.mref 12,.mref 13,.slice (.id 90 6) [],.slice (.id 91 1) [],.mref 14,vb false,.slice (.id 93 10) [],.slice (.id 94 4) [],nzA]),(56,.iter ((AW (yR x) []).map (kC x)) (p.1.2.1.map (kC x)) p.1.2.2),(90,.tok 6 0),(91,.tok 1 0),(93,.tok 10 0),(94,.tok 4 0)],Ae⟩) (Xi (fun p=>p.1.2.1.length) (Yi (Xi ⟨([],AW (yR x) [],none),.refl _⟩ ?_) ?_))))
  .refine⟨Z3,⟨Zr,⟨Aa (HO.rom Cq) (eM _),rfl⟩,Zr,Zr,Zr,⟨?_,rfl⟩,Zr,Zr,Zr,Zr,Tv⟩,Fh,YM (fun n=>?_)⟩
   .show HO.iter (TB _ (Jm (yR (x.take i)))) (TB _ (Jm (yR (x.take i)))) none=_;rw[eM]
   .exact fL (yR (x.take i)) n
  intro⟨⟨done,rem,EN⟩,r1⟩;refine Xi 0 (Yi ?_ ?_)
  .intro hr;have hr:rem=[]:=DN.1 hr;subst hr;rw[BP]at r1;refine cU [(5,.ref 16 0)] [(14,.map FY []),(16,.cells [sl Bb roots,.cmap Cq (mC x),.cmap Cq (done.map (kA x)),.slice (.id 90 6) [],.slice (.id 91 1) [],.mref 14,vb false,.slice (.id 93 10) [],.slice (.id 94 4) [],.msl 92 0]),(90,.tok 6 0),(91,.tok 1 0),(92,.arr 1 []),(93,.tok 10 0),(94,.tok 4 0)] Z1 Z7 (Xi 0 ?_);exact Xi _ (Yi (.refl _) (Xi done (Yi r1 (Yi rfl rfl))))
  .intro kv Mw hp;refine CT (qZ hp) (fun t hp=>CT hp (fun r hp=>?_));have e1:=hp.1;have e2:=hp.2.1;subst e1;subst e2;have hp:=hp.2.2;refine cU [(2,.ref 2 0),(5,.ref 16 0),(56,.ref 56 0)] [(2,.ro (Ic x ifs)),(12,.rom Cq ((AW (yR x) []).map (kC x))),(13,.map Cq (done.map (kA x))),(14,.map FY []),(16,.cells [sl Bb roots,.mref 12,.mref 13,.slice (.id 90 6) [],.slice (.id 91 1) [],.mref 14,vb false,.slice (.id 93 10) [],.slice (.id 94 4) [],nzA]),(56,.iter ((AW (yR x) []).map (kC x)) (r.map (kC x)) (some (kC x t))),(90,.tok 6 0),(91,.tok 1 0),(93,.tok 10 0),(94,.tok 4 0)] Z3 Z10 (Xi 0 (cU [(2,.ref 2 0),(5,.ref 16 0),(10,vs t),(56,.ref 56 0)] [(2,.ro (Ic x ifs)),(12,.rom Cq ((AW (yR x) []).map (kC x))),(13,.map Cq (done.map (kA x))),(14,.map FY []),(16,.cells [sl Bb roots,.mref 12,.mref 13,.slice (.id 90 6) [],.slice (.id 91 1) [],.mref 14,vb false,.slice (.id 93 10) [],.slice (.id 94 4) [],nzA]),(56,.iter ((AW (yR x) []).map (kC x)) (r.map (kC x)) (some (kC x t))),(90,.tok 6 0),(91,.tok 1 0),(93,.tok 10 0),(94,.tok 4 0)] Z4 Z10 (Xi 0 ?_)));have Tu:(done++rem).Nodup:=r1.nodup_iff.2 (Ft _ [] FJ);have htn:t∉done:=fun hc=>(FW.1 Tu).2.2 t hc t (hp.mem_iff.2 (Ab ..)) rfl;have em:Fa (done.map (kA x)) (.string t) (sl AE (Cn x t))=(done++[t]).map (kA x):=by
    rw[Ns (fun a ha=>htn (Y7.1 ha).1),As];rfl
   have SL:((done++[t])++r).Perm (AW (yR x) []):=by
    rw[BA];exact(IL _ hp.symm).trans r1
   refine yN (Xi _ (Yi (AbN x ifs t (c84 x ifs hx)) (Yi Wk (Xi ⟨(done++[t],r,some (kC x t)),SL⟩ ?_))));exact⟨by show r.length<rem.length;rw[hp.length_eq,Ag];omega,Z3,⟨Zr,Zr,⟨Aa (HO.map Cq) em,rfl⟩,Zr,Zr,Zr,Zr,Zr,Zr,Zr,Tv⟩,Fh,BT Wk⟩
end Go.Eng
namespace Go.Eng
open Go.Proofs
variable {x:List Rl}
theorem cO(h0:A5 x=0){p:ByteArray}(h:p∉AW (yR x) []):Cn x p=[]:=by
 rw[iu h0]
 have:x.filter (fH p)=[]:=by
  rw[Ih];intro r hr hc;unfold fH at hc;rw[Af,AC]at hc;exact h ((G6 _ _ _).2 (.inr ⟨r,Bz.2 ⟨hr,hc.2⟩,hc.1⟩))
 rw[this];rfl
theorem ul{roots:List Rq}(hx:∀r∈x,EG r)(hr:∀q∈roots,Kd q)(h0:A5 x=0)(h1:BN roots=0){l:List ByteArray}(hl:l.Perm (AW (yR x) [])):Env x roots (mC x) (l.map (kA x)) where
 hx:=h0
 hr:=h1
 fx:=hx
 fr:=hr
 c1:=zl x
 c2:=zm x
 c3:=zn x
 av p:=by
  by_cases hp:p∈l
  .exact⟨sl AE (Cn x p),fun a ha=>(Y7.1 ha).2,fun hn=>(hn _ (Y7.2 ⟨hp,rfl⟩)).elim,fun h=>xz p (Cn x p) (Ul x p)⟩
  .refine⟨nzA,fun a ha=>(hp (Y7.1 ha).1).elim,fun _=>rfl,fun h=>?_⟩;have e:=cO h0 (fun hc=>hp (hl.mem_iff.2 hc));have hc:=xz p (Cn x p) (Ul x p);rw[e]at hc⊢;exact Jd.args hc ⟨.refl _,.nil,trivial⟩
abbrev Jz(b:Bool):List AV:=[vb b]
end Go.Eng
