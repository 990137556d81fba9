/- Lemmas 27. -/
import Derived.Test.YteaiieomnhbmgaaGreatDoorEA26
namespace Go.Eng
open Go.Proofs
variable {p:ByteArray}{l:List ByteArray}{h:Nat->HO}{n k:Nat}{a:AV}(y x:List Rl)(j:Nat)(r:Rl)
abbrev Sx:List AV:=AX ⟨plc r.ver,r⟩
abbrev GW(p:ByteArray):List (List AV):=(y.filter fun r=>decide (r.path=p)).map Sx
abbrev aF(q:ByteArray×Nat):Value×AV:=(.string q.1,.slice (.id (q.2+100) 10) (GW y q.1))
abbrev Jj:List (Value×AV):=(AY y []).zipIdx.map (aF y)
def GJ(l:Nat):HO:=match(AY y [])[l]? with
 |some q=>.tok 10 (GW y q).length
 |none=>.free
def JT:HO:=bif Nat.ble 100 j&&Nat.blt j 1000 then GJ y (j-100)else .free
theorem Fu(hy:y.length<=256)(l:Nat):JT y (l+100)=GJ y l:=by
 unfold JT;rw[show Nat.ble 100 (l+100)=true by rw[Dt];omega,E5,Nat.add_sub_cancel]
 by_cases h:l+100<1000
 .rw[show Nat.blt (l+100) 1000=true by rw[Cw];exact h];rfl
 .rw[show Nat.blt (l+100) 1000=false by rw[AN];intro hc;rw[Cw]at hc;omega]
  have:=H6 y []
  rw[Au]at this;unfold GJ;rw[A9 ch];rfl
theorem qr{j:Nat}(h:j<100):JT y j=.free:=by
 unfold JT;rw[show Nat.ble 100 j=false by rw[AN];intro hc;rw[Dt]at hc;omega];rfl
theorem H5(q:ByteArray):GW (y++[r]) q=if r.path=q then GW y q++[Sx r]else GW y q:=by
 unfold GW;rw[EK]
 by_cases h:r.path=q
 .rw[Ao h,T7 (by simpa using h)];simp
 .rw[Aj h,T6 (by simpa using h)];simp
section
variable {y:List Rl}{r:Rl}{k:Nat}
open Classical in
theorem mi(h:(AY y [])[k]?=some r.path):E4 (Jj y) (.string r.path) (.slice (.id (k+100) 10) (GW y r.path++[Sx r]))=Jj (y++[r]):=by
 have hd:=Fk y [] FD;have hm:aF y (r.path,k)∈Jj y:=Ai.2 ⟨_,FV.2 h,rfl⟩;rw[bp (a':=.slice (.id (k+100) 10) (GW y r.path)) hm];unfold Jj;rw[J5 h,Br];refine Bi fun q hq=>?_;have hg:=I9 hq;obtain⟨q,j⟩:=q;show(if Value.string q=Value.string r.path then _ else _)=aF (y++[r]) (q,j)
 by_cases he:q=r.path
 .subst he
  have:j=k:=J0 hd hg h
  subst this;rw[Ao rfl];show _=(Value.string r.path,AV.slice (.id (j+100) 10) (GW (y++[r]) r.path));rw[H5,Ao rfl]
 .rw[Aj (fun e=>he (by simpa using e))];show(Value.string q,AV.slice (.id (j+100) 10) (GW y q))=(Value.string q,AV.slice (.id (j+100) 10) (GW (y++[r]) q));rw[H5,Aj (fun e=>he e.symm)]
theorem bA(h:r.path∉AY y []):GW y r.path=[]:=by
 have:y.filter (fun s=>decide (s.path=r.path))=[]:=by
  rw[H9];intro s hs he;exact h ((GX y [] r.path).2 (.inr ⟨s,hs,AK he⟩))
 unfold GW;rw[this];rfl
theorem Xo(h:r.path∉AY y [])(a:AV):(Value.string r.path,a)∉Jj y:=by
 intro hc;obtain⟨q,h1,h2⟩:=Ai.1 hc;simp only[aF,Gd,Value.string.injEq]at h2;exact h (by rw[<-h2.1];exact Az (I9 h1))
theorem mh(h:r.path∉AY y []):E4 (Jj y) (.string r.path) (.slice (.id ((AY y []).length+100) 10) [Sx r])=Jj (y++[r]):=by
 rw[Np (fun a=>Xo h a)];unfold Jj;rw[J4 h,List.zipIdx_append,As]
 congr 1
 .refine Bi fun q hq=>?_;have hg:=I9 hq
  have:q.1≠r.path:=fun e=>h (by rw[<-e];exact Az hg)
  show(Value.string q.1,AV.slice (.id (q.2+100) 10) (GW y q.1))=(Value.string q.1,AV.slice (.id (q.2+100) 10) (GW (y++[r]) q.1));rw[H5,Aj (fun e=>this e.symm)]
 .show [_]=[(Value.string r.path,AV.slice (.id (0+(AY y []).length+100) 10) (GW (y++[r]) r.path))];rw[H5,Ao rfl,bA h,Bf];rfl
theorem iZ{j:Nat}(h:(AY y [])[j]?=some p):(Value.string p,AV.slice (.id (j+100) 10) (GW y p))∈Jj y/\∀b,(Value.string p,b)∈Jj y->b=AV.slice (.id (j+100) 10) (GW y p):=by
 refine⟨Ai.2 ⟨(p,j),FV.2 h,rfl⟩,fun b hb=>?_⟩;obtain⟨q,h1,h2⟩:=Ai.1 hb;simp only[aF,Gd,Value.string.injEq]at h2;have hg:=I9 h1;rw[h2.1]at hg
 have:=J0 (Fk y [] FD) hg h
 rw[<-h2.2,h2.1,this]
theorem gT{j:Nat}(h:(AY y [])[j]?=some p):GJ y j=.tok 10 (GW y p).length:=by
 unfold GJ;rw[h]
theorem oH(h:(AY y [])[k]?=some r.path)(l:Nat):(bif Nat.beq (l+100) (k+100)then HO.tok 10 ((GW y r.path).length+1)else GJ y l)=GJ (y++[r]) l:=by
 by_cases he:l=k
 .subst he;rw[show Nat.beq (l+100) (l+100)=true from Dp _];unfold GJ;rw[J5 h,h];show HO.tok 10 _=HO.tok 10 (GW (y++[r]) r.path).length;rw[H5,Ao rfl,Ac];rfl
 .rw[show Nat.beq (l+100) (k+100)=false by rw[AN];intro hc;have:=AM hc;omega];show GJ y l=_;unfold GJ;rw[J5 h];cases hq:(AY y [])[l]? with
  |none=>rfl
  |some q=>
   show HO.tok 10 (GW y q).length=HO.tok 10 (GW (y++[r]) q).length;rw[H5,Aj];intro e;subst e;exact he (J0 (Fk y [] FD) hq h)
theorem oG(h:r.path∉AY y [])(l:Nat):(bif Nat.beq (l+100) ((AY y []).length+100)then HO.tok 10 1 else GJ y l)=GJ (y++[r]) l:=by
 by_cases he:l=(AY y []).length
 .subst he;rw[show Nat.beq ((AY y []).length+100) ((AY y []).length+100)=true from Dp _];unfold GJ;rw[J4 h];simp only[A1 (Ak _),E8,Be];show HO.tok 10 1=HO.tok 10 (GW (y++[r]) r.path).length;rw[H5,Ao rfl,bA h];rfl
 .rw[show Nat.beq (l+100) ((AY y []).length+100)=false by rw[AN];intro hc;have:=AM hc;omega];show GJ y l=_;unfold GJ;rw[J4 h]
  by_cases hl:l<(AY y []).length
  .rw[A0 hl,Ge hl];show HO.tok 10 (GW y (AY y [])[l]).length=HO.tok 10 (GW (y++[r]) (AY y [])[l]).length;rw[H5,Aj];intro e;exact h (by rw[e];exact Al hl)
  .rw[A9 ch,A9 (by rw[Ac];simp;omega)]
end
theorem Ip(hh:∀l,h (l+100)=GJ y l):SI h (Jj y)=true:=by
 refine RB fun p hp=>?_;obtain⟨q,h1,rfl⟩:=Ai.1 hp;show Tr h (q.2+100)=true;unfold Tr;rw[hh,gT (I9 h1)]
theorem G8{y:List Rl}(hy:y.length<=256){h':Nat->HO}(hh:∀l,h (l+100)=GJ y l)(j:Nat):JT y j=.free\/(h j=JT y j/\Ts h' (JT y j)=true):=by
 by_cases hj:j<100
 .exact .inl (qr y hj)
 .obtain⟨l,rfl⟩:∃l,j=l+100:=⟨j-100,by omega⟩
  right
  rw[Fu y hy];refine⟨hh l,?_⟩;unfold GJ;cases (AY y [])[l]?<;>rfl
abbrev yR:List Rl:=x.filter fun r=>!r.yanked
theorem dK(p:ByteArray):GW (yR x) p=(CE x p).map AX:=by
 unfold GW CE;rw[List.filter_filter,Br]
 rfl
def mC:List (Value×AV):=(AY (yR x) []).map fun p=>(.string p,sl AX (CE x p))
theorem m8{x:List Rl}:(Value.string p,a)∈mC x↔p∈AY (yR x) []/\a=sl AX (CE x p):=by
 unfold mC;rw[Ai];constructor
 .rintro⟨q,hq,e⟩
  injection e with e1 e2
  injection e1 with e1
  subst e1;exact⟨hq,e2.symm⟩
 .rintro⟨h1,h2⟩
  exact⟨p,h1,by rw[h2]⟩
theorem WZ{x:List Rl}:CE x p=[]↔p∉AY (yR x) []:=by
 rw[GX];unfold CE;rw[DJ,H9];constructor
 .rintro h (h1 | ⟨r,h1,h2⟩)
  .cases h1
  .obtain⟨h3,h4⟩:=By.1 h1;exact h r h3 (by rw[Ar h2,h4];rfl)
 .intro h r hr hc;rw[Ag,AD]at hc;exact h (.inr ⟨r,By.2 ⟨hr,hc.2⟩,hc.1⟩)
theorem zf:∀(p:ByteArray) (a:AV),(Value.string p,a)∈mC x->a=sl AX (CE x p):=fun _ _ h=>(m8.1 h).2
theorem zg:∀p:ByteArray,(∀a,(Value.string p,a)∉mC x)->CE x p=[]:=fun _ h=>WZ.2 fun hp=>h _ (m8.2 ⟨hp,rfl⟩)
theorem zh:∀p:ByteArray,CE x p=[]->∀a,(Value.string p,a)∉mC x:=fun _ h _ ha=>WZ.1 h (m8.1 ha).1
abbrev plN:Th:=⟨[2],[],[],[(52,[12])],[],[12],[50],[(53,(16,3,90,6)),(54,(16,4,91,1)),(55,(16,7,93,10)),(56,(16,8,94,4))],[],[(850013,13),(800013,10016),(810013,20016),(900013,10000000000+92000000+90016)],[5,7,8,9,11,12,13]⟩
abbrev kC(p:ByteArray):Value×AV:=(.string p,sl AX (CE x p))
abbrev kA(p:ByteArray):Value×AV:=(.string p,sl AE (Cn x p))
theorem qV{x:List Rl}{kv:Value×AV}{Mo : List (Value×AV)}(h:(l.map (kC x)).Perm (kv::Mo)):∃t r,kv=kC x t/\Mo=r.map (kC x)/\l.Perm (t::r):=by
 obtain⟨ps,h1,h2⟩:=KU h l rfl;cases ps with
 |nil=>cases h2
 |cons t r=>
  rw[AL,Ff]at h2;exact⟨t,r,h2.1.symm,h2.2.symm,h1.symm⟩
abbrev srN(roots:List Rq)(C A:List (Value×AV)):List (Nat×HO):=
 [(2000,.cells [sl A8 roots,.cmap Cr C,.cmap Cr A,.slice (.id 2001 6) [],.slice (.id 2002 1) [],.mref 2003,vb false,.slice .none [],.slice .none [],.msl 2004 0]),(2001,.tok 6 0),(2002,.tok 1 0),(2003,.map FS []),(2004,.arr 1 [])]
theorem Y1{x:List Rl}:(Value.string p,a)∈l.map (kA x)↔p∈l/\a=sl AE (Cn x p):=by
 rw[Ai];constructor
 .rintro⟨q,hq,e⟩
  injection e with e1 e2
  injection e1 with e1
  subst e1;exact⟨hq,e2.symm⟩
 .rintro⟨h1,h2⟩
  exact⟨p,h1,by rw[h2]⟩
theorem fN(n:Nat):JT y (n+1000)=.free:=by
 unfold JT;rw[show Nat.blt (n+1000) 1000=false by rw[AN];intro hc;rw[Cw]at hc;omega,Ck];rfl
theorem YG{s:Nat->HO}(H:∀n,h (n+1000)=.free):∀j,1000<=j->j<2000->h j≠.free->s j≠.free:=fun j h1 _ hn=>by
 refine absurd (H (j-1000)) ?_;rw[show j-1000+1000=j by omega];exact hn
theorem pR(h:k<1000):Nat.beq (n+1000) k=false:=by
 rw[AN];intro hc;have:=AM hc;omega
theorem fh{y:List Rl}{o:HO}(h:k<1000):(bif Nat.beq (n+1000) k then o else JT y (n+1000))=.free:=by
 rw[pR h,fN];rfl
attribute [local irreducible] I3
set_option maxRecDepth 30000 in
set_option maxHeartbeats 4000000 in
theorem s29(ifs:List (List AV))(roots:List Rq)(hx:∀r∈x,En r)(h0:A6 x=0):Bc Tryz.prog 136 [HH x ifs,sl A8 roots] (Ap [] Af) fun r h'=>∃l:List ByteArray,l.Perm (AY (yR x) [])/\r=.ref 2000 0/\h'=Ap (srN roots (mC x) (l.map (kA x))) Af:=by
 have sZ:x.length<=256:=(Mi h0).1;refine Cu (M2 plN) [(16,2000),(90,2001),(91,2002),(14,2003),(92,2004)] rfl CW hm rfl Tryz.func136 Wk rfl (Nz rfl) Wk rfl (Xi 0 (Xi 0 (Xi 0 (Xi {i:Nat // i<=x.length} (Xi (fun i=>⟨[(2,.ref 2 0),(5,.ref 16 0),(18,sl AF x),(19,vi (x.map AF).length),(20,vi i.1)],[(2,.ro (Ic x ifs)),(12,.mapU Cr (Jj (yR (x.take i.1)))),(13,.map Cr []),(14,.map FS []),(16,.cells [sl A8 roots,.mref 12,.mref 13,nzA,nzA,.mref 14,vb false,nzA,nzA,nzA])],JT (yR (x.take i.1))⟩) (Xi (fun i=>x.length-i.1) (Yi (Xi ⟨0,AA _⟩ ?_) ?_)))))))
 .refine⟨Z5,Z5,fun j=>.inl ?_,BP Wk⟩;show JT [] j=.free;unfold JT;cases (Nat.ble 100 j&&Nat.blt j 1000)<;>rfl
 intro⟨i,i1⟩;have hq:∀k,(yR (x.take k)).length<=256:=fun k=>by
  have:=Bv (fun r:Rl=>!r.yanked) (x.take k)
  rw[Aw]at this;show(List.filter _ _).length<=256;omega
 refine Xi 0 (Yi ?_ ?_)
 .intro h;have h:i<x.length:=by simpa using h
  have hg:x[i]?=some x[i]:=Ge h;have LF:x.take (i+1)=x.take i++[x[i]]:=by rw[Bj,hg];rfl
  refine Xi 0 (Xi (AF x[i]) (Yi (Yi (Nn i) (by simp[hg])) (Yi rfl ?_)));refine Yi (Nz rfl) (yN (Xi ⟨[(2,.ref 2 0),(5,.ref 16 0),(7,.ref 7 0),(18,sl AF x),(19,vi (x.map AF).length),(20,vi i)],[(2,.ro (Ic x ifs)),(7,.cells (AF x[i])),(12,.mapU Cr (Jj (yR (x.take i)))),(13,.map Cr []),(14,.map FS []),(16,.cells [sl A8 roots,.mref 12,.mref 13,nzA,nzA,.mref 14,vb false,nzA,nzA,nzA])],JT (yR (x.take i))⟩ (Yi ?_ ?_)))
  .exact⟨Z6,⟨Zr,Zr,⟨rfl,Ip _ (Fu _ (hq _))⟩,Zr,Zr,Zr,Tv⟩,G8 (hq _) (Fu _ (hq _)),BP Wk⟩
  refine Xi 0 (Yi (fun hy=>?_) (fun hy=>?_))
  .have ey:yR (x.take (i+1))=yR (x.take i):=by
    unfold yR;rw[LF,EK,T6 (by rw[hy];decide)];simp
   refine Xi ⟨[(2,.ref 2 0),(5,.ref 16 0),(18,sl AF x),(19,vi (x.map AF).length),(20,vi i)],[(2,.ro (Ic x ifs)),(12,.mapU Cr (Jj (yR (x.take (i+1))))),(13,.map Cr []),(14,.map FS []),(16,.cells [sl A8 roots,.mref 12,.mref 13,nzA,nzA,.mref 14,vb false,nzA,nzA,nzA])],JT (yR (x.take (i+1)))⟩ (Yi ?_ ?_)
   .rw[ey];exact⟨Z5,⟨Zr,⟨rfl,Ip _ (Fu _ (hq _))⟩,Zr,Zr,Zr,Tv⟩,G8 (hq _) (Fu _ (hq _)),BP Wk⟩
   refine Xi 0 (Yi (Ii i ch) (Xi ⟨i+1,by omega⟩ ?_));exact⟨Dl x.length i ch,Z5,⟨Zr,⟨rfl,Ip _ (Fu _ (hq _))⟩,Zr,Zr,Zr,Tv⟩,G8 (hq _) (Fu _ (hq _)),BP Wk⟩
  refine Xi 0 (yN (Xi .pure (Xi _ (Yi (wH x[i].ver) (Xi ⟨[(2,.ref 2 0),(5,.ref 16 0),(7,.ref 7 0),(8,vi (plc x[i].ver)),(18,sl AF x),(19,vi (x.map AF).length),(20,vi i)],[(2,.ro (Ic x ifs)),(7,.cells (AF x[i])),(12,.mapU Cr (Jj (yR (x.take i)))),(13,.map Cr []),(14,.map FS []),(16,.cells [sl A8 roots,.mref 12,.mref 13,nzA,nzA,.mref 14,vb false,nzA,nzA,nzA])],JT (yR (x.take i))⟩ (Yi ?_ ?_))))))
  .exact⟨Z7,⟨Zr,Zr,⟨rfl,Ip _ (Fu _ (hq _))⟩,Zr,Zr,Zr,Tv⟩,G8 (hq _) (Fu _ (hq _)),BP Wk⟩
  have ey:yR (x.take (i+1))=yR (x.take i)++[x[i]]:=by
   unfold yR;rw[LF,EK,T7 (by rw[hy];decide)];rfl
  have hyl:(yR (x.take i)).length<=256:=by
   have:=Bv (fun r:Rl=>!r.yanked) (x.take i)
   rw[Aw]at this;show(List.filter _ _).length<=256;omega
  have hP:∀l,JT (yR (x.take i)) (l+100)=GJ (yR (x.take i)) l:=Fu _ (hq _);refine BN (Classical.em (x[i].path∈AY (yR (x.take i)) [])) (fun hp=>?_) (fun hp=>?_)
  .refine CR (Cp.1 hp) (fun k hk=>?_);have hu:=iZ hk;have hl:(GW (yR (x.take i)) x[i].path).length<=256:=by
    rw[Lm];exact AG (Bv _ _) hyl
   have yy:k<256:=by
    have:=(Ay.1 hk).1
    have:=H6 (yR (x.take i)) []
    simp only[Au]at this;omega
   have hr:JT (yR (x.take i)) (k+100)=.tok 10 (GW (yR (x.take i)) x[i].path).length:=by rw[hP,gT hk]
   refine Xi 0 ?_;refine Or.inl (Xi (.slice (.id (k+100) 10) (GW (yR (x.take i)) x[i].path)) (Yi hu ?_));refine yN (Ss (e:=266) (m:=9) (es2:=[Sx x[i]]) rfl rfl rfl (fun _ h=>h) hr ⟨rfl,trivial⟩ (by show(_+1)*128<=_;omega) (by show _+1<=_;omega) (Yi (JQ ⟨A4 _,A4 _,A4 _,A4 _,A4 _,A4 _,A4 _,A4 _,A4 _,A4 _,A4 _,A4 _,A4 _,A4 _,A4 _,A4 _,Ev (show 49<10000000 by decide),Ev (by show _+100<10000000;omega),Ev (show 12<10000000 by decide),trivial⟩ Wk) ?_));have e9:E4 (Jj (yR (x.take i))) (.string x[i].path) (.slice (.id (k+100) 10) (GW (yR (x.take i)) x[i].path++[Sx x[i]]))=Jj (yR (x.take (i+1))):=by rw[ey];exact mi hk
   have hG:∀l,(bif Nat.beq (l+100) (k+100)then HO.tok 10 ((GW (yR (x.take i)) x[i].path).length+1)else GJ (yR (x.take i)) l)=GJ (yR (x.take (i+1))) l:=by rw[ey];exact oH hk
   refine Xi ⟨[(2,.ref 2 0),(5,.ref 16 0),(18,sl AF x),(19,vi (x.map AF).length),(20,vi i)],[(2,.ro (Ic x ifs)),(12,.mapU Cr (Jj (yR (x.take (i+1))))),(13,.map Cr []),(14,.map FS []),(16,.cells [sl A8 roots,.mref 12,.mref 13,nzA,nzA,.mref 14,vb false,nzA,nzA,nzA])],JT (yR (x.take (i+1)))⟩ (Yi ?_ ?_)
   .refine⟨Z5,⟨Zr,⟨Aa (HO.mapU Cr) e9,Ip _ (Fu _ (hq _))⟩,Zr,Zr,Zr,Tv⟩,G8 (hq _) (fun l=>?_),YG (fun n=>?_)⟩
    .show(bif Nat.beq (l+100) (k+100)then HO.tok 10 ((GW (yR (x.take i)) x[i].path).length+1)else JT (yR (x.take i)) (l+100))=_;rw[hP];exact hG l
    .exact fh (y:=yR (x.take i)) (show k+100<1000 by omega)
   refine Xi 0 (Yi (Ii i ch) (Xi ⟨i+1,by omega⟩ ?_));exact⟨Dl x.length i ch,Z5,⟨Zr,⟨rfl,Ip _ (Fu _ (hq _))⟩,Zr,Zr,Zr,Tv⟩,G8 (hq _) (Fu _ (hq _)),BP Wk⟩
  .have MD:(AY (yR (x.take i)) []).length<=256:=by
    have:=H6 (yR (x.take i)) []
    simp only[Au]at this;omega
   have hn:=Xo hp;have hr:JT (yR (x.take i)) ((AY (yR (x.take i)) []).length+100)=.free:=by
    rw[hP];unfold GJ;rw[A9 (Ak _)]
   refine Xi ((AY (yR (x.take i)) []).length+100) ?_;refine Or.inr (Yi hn ?_);refine yN (Sr (e:=266) (m:=9) (es2:=[Sx x[i]]) rfl rfl rfl (fun _ h=>h) hr rfl ⟨rfl,trivial⟩ (by show 1*128<=_;omega) (by show 1<=_;omega) (Yi (JQ ⟨A4 _,A4 _,A4 _,A4 _,A4 _,A4 _,A4 _,A4 _,A4 _,A4 _,A4 _,A4 _,A4 _,A4 _,A4 _,A4 _,Ev (show 49<10000000 by decide),Ev (by show _+100<10000000;omega),Ev (show 12<10000000 by decide),trivial⟩ Wk) ?_));have e9:E4 (Jj (yR (x.take i))) (.string x[i].path) (.slice (.id ((AY (yR (x.take i)) []).length+100) 10) [Sx x[i]])=Jj (yR (x.take (i+1))):=by rw[ey];exact mh hp
   have hG:∀l,(bif Nat.beq (l+100) ((AY (yR (x.take i)) []).length+100)then HO.tok 10 1 else GJ (yR (x.take i)) l)=GJ (yR (x.take (i+1))) l:=by rw[ey];exact oG hp
   refine Xi ⟨[(2,.ref 2 0),(5,.ref 16 0),(18,sl AF x),(19,vi (x.map AF).length),(20,vi i)],[(2,.ro (Ic x ifs)),(12,.mapU Cr (Jj (yR (x.take (i+1))))),(13,.map Cr []),(14,.map FS []),(16,.cells [sl A8 roots,.mref 12,.mref 13,nzA,nzA,.mref 14,vb false,nzA,nzA,nzA])],JT (yR (x.take (i+1)))⟩ (Yi ?_ ?_)
   .refine⟨Z5,⟨Zr,⟨Aa (HO.mapU Cr) e9,Ip _ (Fu _ (hq _))⟩,Zr,Zr,Zr,Tv⟩,G8 (hq _) (fun l=>?_),YG (fun n=>?_)⟩
    .show(bif Nat.beq (l+100) ((AY (yR (x.take i)) []).length+100)then HO.tok 10 1 else JT (yR (x.take i)) (l+100))=_;rw[hP];exact hG l
    .exact fh (y:=yR (x.take i)) (show(AY (yR (x.take i)) []).length+100<1000 by omega)
   refine Xi 0 (Yi (Ii i ch) (Xi ⟨i+1,by omega⟩ ?_));exact⟨Dl x.length i ch,Z5,⟨Zr,⟨rfl,Ip _ (Fu _ (hq _))⟩,Zr,Zr,Zr,Tv⟩,G8 (hq _) (Fu _ (hq _)),BP Wk⟩
 .intro h;have h:¬i<x.length:=by simpa using h
  have et:x.take i=x:=At ch;have eM:∀hh:Nat->HO,Tz hh (Jj (yR (x.take i)))=(AY (yR x) []).map (kC x):=fun hh=>by
   rw[et];unfold Tz Jj;rw[Br];refine Du fun j=>?_;rw[AH,AH,List.getElem?_zipIdx];cases (AY (yR x) [])[j]? with
   |none=>rfl
   |some q=>show some (Value.string q,AV.slice .none (GW (yR x) q))=_;rw[dK];rfl
  refine Xi ⟨[(2,.ref 2 0),(5,.ref 16 0)],[(2,.ro (Ic x ifs)),(12,.mapU Cr (Jj (yR (x.take i)))),(13,.map Cr []),(14,.map FS []),(16,.cells [sl A8 roots,.mref 12,.mref 13,nzA,nzA,.mref 14,vb false,nzA,nzA,nzA])],JT (yR (x.take i))⟩ (Yi ?_ ?_)
  .exact⟨Z2,⟨Zr,⟨rfl,Ip _ (Fu _ (hq _))⟩,Zr,Zr,Zr,Tv⟩,G8 (hq _) (Fu _ (hq _)),BP Wk⟩
  refine Xi 0 (Xi {p:List ByteArray×List ByteArray×Option (Value×AV) // (p.1++p.2.1).Perm (AY (yR x) [])} (Xi (fun p=>⟨[(2,.ref 2 0),(5,.ref 16 0),(56,.ref 56 0)],[(2,.ro (Ic x ifs)),(12,.rom Cr ((AY (yR x) []).map (kC x))),(13,.map Cr (p.1.1.map (kA x))),(14,.map FS []),(16,.cells [sl A8 roots,.mref 12,.mref 13,.slice (.id 90 6) [],.slice (.id 91 1) [],.mref 14,vb false,.slice (.id 93 10) [],.slice (.id 94 4) [],nzA]),(56,.iter ((AY (yR x) []).map (kC x)) (p.1.2.1.map (kC x)) p.1.2.2),(90,.tok 6 0),(91,.tok 1 0),(93,.tok 10 0),(94,.tok 4 0)],Af⟩) (Xi (fun p=>p.1.2.1.length) (Yi (Xi ⟨([],AY (yR x) [],none),.refl _⟩ ?_) ?_))))
  .refine⟨Z3,⟨Zr,⟨Aa (HO.rom Cr) (eM _),rfl⟩,Zr,Zr,Zr,⟨?_,rfl⟩,Zr,Zr,Zr,Zr,Tv⟩,Fh,YG (fun n=>?_)⟩
   .show HO.iter (Tz _ (Jj (yR (x.take i)))) (Tz _ (Jj (yR (x.take i)))) none=_;rw[eM]
   .exact fN (yR (x.take i)) n
  intro⟨⟨done,rem,EI⟩,r1⟩;refine Xi 0 (Yi ?_ ?_)
  .intro hr;have hr:rem=[]:=DJ.1 hr;subst hr;rw[BM]at r1;refine cU [(5,.ref 16 0)] [(14,.map FS []),(16,.cells [sl A8 roots,.cmap Cr (mC x),.cmap Cr (done.map (kA x)),.slice (.id 90 6) [],.slice (.id 91 1) [],.mref 14,vb false,.slice (.id 93 10) [],.slice (.id 94 4) [],.msl 92 0]),(90,.tok 6 0),(91,.tok 1 0),(92,.arr 1 []),(93,.tok 10 0),(94,.tok 4 0)] Z1 Z7 (Xi 0 ?_);exact Xi _ (Yi (.refl _) (Xi done (Yi r1 (Yi rfl rfl))))
  .intro kv Mo hp;refine CR (qV hp) (fun t hp=>CR hp (fun r hp=>?_));have e1:=hp.1;have e2:=hp.2.1;subst e1;subst e2;have hp:=hp.2.2;refine cU [(2,.ref 2 0),(5,.ref 16 0),(56,.ref 56 0)] [(2,.ro (Ic x ifs)),(12,.rom Cr ((AY (yR x) []).map (kC x))),(13,.map Cr (done.map (kA x))),(14,.map FS []),(16,.cells [sl A8 roots,.mref 12,.mref 13,.slice (.id 90 6) [],.slice (.id 91 1) [],.mref 14,vb false,.slice (.id 93 10) [],.slice (.id 94 4) [],nzA]),(56,.iter ((AY (yR x) []).map (kC x)) (r.map (kC x)) (some (kC x t))),(90,.tok 6 0),(91,.tok 1 0),(93,.tok 10 0),(94,.tok 4 0)] Z3 Z10 (Xi 0 (cU [(2,.ref 2 0),(5,.ref 16 0),(10,vs t),(56,.ref 56 0)] [(2,.ro (Ic x ifs)),(12,.rom Cr ((AY (yR x) []).map (kC x))),(13,.map Cr (done.map (kA x))),(14,.map FS []),(16,.cells [sl A8 roots,.mref 12,.mref 13,.slice (.id 90 6) [],.slice (.id 91 1) [],.mref 14,vb false,.slice (.id 93 10) [],.slice (.id 94 4) [],nzA]),(56,.iter ((AY (yR x) []).map (kC x)) (r.map (kC x)) (some (kC x t))),(90,.tok 6 0),(91,.tok 1 0),(93,.tok 10 0),(94,.tok 4 0)] Z4 Z10 (Xi 0 ?_)));have SD:(done++rem).Nodup:=r1.nodup_iff.2 (Fk _ [] FD);have htn:t∉done:=fun hc=>(FQ.1 SD).2.2 t hc t (hp.mem_iff.2 (Ab ..)) rfl;have em:E4 (done.map (kA x)) (.string t) (sl AE (Cn x t))=(done++[t]).map (kA x):=by
    rw[Np (fun a ha=>htn (Y1.1 ha).1),As];rfl
   have SF:((done++[t])++r).Perm (AY (yR x) []):=by
    rw[BB];exact(II _ hp.symm).trans r1
   refine yN (Xi _ (Yi (AbD x ifs t (c84 x ifs hx)) (Yi Wk (Xi ⟨(done++[t],r,some (kC x t)),SF⟩ ?_))));exact⟨by show r.length<rem.length;rw[hp.length_eq,Am];omega,Z3,⟨Zr,Zr,⟨Aa (HO.map Cr) em,rfl⟩,Zr,Zr,Zr,Zr,Zr,Zr,Zr,Tv⟩,Fh,BP Wk⟩
end Go.Eng
namespace Go.Eng
open Go.Proofs
variable {x:List Rl}
theorem cG(h0:A6 x=0){p:ByteArray}(h:p∉AY (yR x) []):Cn x p=[]:=by
 rw[iw h0]
 have:x.filter (fH p)=[]:=by
  rw[H9];intro r hr hc;unfold fH at hc;rw[Ag,AD]at hc;exact h ((GX _ _ _).2 (.inr ⟨r,By.2 ⟨hr,hc.2⟩,hc.1⟩))
 rw[this];rfl
theorem uo{roots:List Rq}(hx:∀r∈x,En r)(hr:∀q∈roots,J7 q)(h0:A6 x=0)(h1:BK roots=0){l:List ByteArray}(hl:l.Perm (AY (yR x) [])):Env x roots (mC x) (l.map (kA x)) where
 hx:=h0
 hr:=h1
 fx:=hx
 fr:=hr
 c1:=zf x
 c2:=zg x
 c3:=zh x
 av p:=by
  by_cases hp:p∈l
  .exact⟨sl AE (Cn x p),fun a ha=>(Y1.1 ha).2,fun hn=>(hn _ (Y1.2 ⟨hp,rfl⟩)).elim,fun h=>xy p (Cn x p) (Uk x p)⟩
  .refine⟨nzA,fun a ha=>(hp (Y1.1 ha).1).elim,fun _=>rfl,fun h=>?_⟩;have e:=cG h0 (fun hc=>hp (hl.mem_iff.2 hc));have hc:=xy p (Cn x p) (Uk x p);rw[e]at hc⊢;exact Jb.args hc ⟨.refl _,.nil,trivial⟩
theorem MY{cx:Cx}{c:Code}{Q:Ex->St->Prop}{s s' : LS}(h:s=s')(hk:Rj cx c Q s'.st):Rj cx c Q s.st:=by subst h;exact hk
abbrev Jw(b:Bool):List AV:=[vb b]
end Go.Eng
