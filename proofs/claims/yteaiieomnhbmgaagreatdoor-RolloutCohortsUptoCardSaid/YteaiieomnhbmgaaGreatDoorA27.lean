/- Lemmas for the claims of this seat, without a condition: part 27 (S13, S14, S16, S18, R24, C74, R25, R26, R27, R28, R29, R30, R31). -/
import Derived.Test.YteaiieomnhbmgaaGreatDoorA26
import Derived.Test.YteaiieomnhbmgaaGreatDoorA23
namespace Go.Eng
open Go.Proofs
variable {p:ByteArray}{l:List ByteArray}{h:Nat->HO}{n k:Nat}{a:AV}(y x:List Rl)(j:Nat)(r:Rl)
abbrev RQ:List AV:=AT ⟨plc r.ver,r⟩
abbrev GP(p:ByteArray):List (List AV):=(y.filter fun r=>decide (r.path=p)).map RQ
abbrev ZQ(q:ByteArray×Nat):Value×AV:=(.string q.1,.slice (.id (q.2+100) 10) (GP y q.1))
abbrev I6:List (Value×AV):=(AW y []).zipIdx.map (ZQ y)
def GB(l:Nat):HO:=match(AW y [])[l]? with
 |some q=>.tok 10 (GP y q).length
 |none=>.free
def JF:HO:=bif Nat.ble 100 j&&Nat.blt j 1000 then GB y (j-100)else .free
theorem Fo(hy:y.length<=256)(l:Nat):JF y (l+100)=GB y l:=by
 unfold JF;rw[show Nat.ble 100 (l+100)=true by rw[Dm];omega,EY,Nat.add_sub_cancel]
 by_cases h:l+100<1000
 .rw[show Nat.blt (l+100) 1000=true by rw[Cs];exact h];rfl
 .rw[show Nat.blt (l+100) 1000=false by rw[AM];intro hc;rw[Cs]at hc;omega]
  have:=HW y []
  rw[At]at this;unfold GB;rw[A6 ch];rfl
theorem po{j:Nat}(h:j<100):JF y j=.free:=by
 unfold JF;rw[show Nat.ble 100 j=false by rw[AM];intro hc;rw[Dm]at hc;omega];rfl
theorem HU(q:ByteArray):GP (y++[r]) q=if r.path=q then GP y q++[RQ r]else GP y q:=by
 unfold GP;rw[EE]
 by_cases h:r.path=q
 .rw[Al h,Tz (by simpa using h)];simp
 .rw[Ai h,Ty (by simpa using h)];simp
section
variable {y:List Rl}{r:Rl}{k:Nat}
open Classical in
theorem li(h:(AW y [])[k]?=some r.path):EX (I6 y) (.string r.path) (.slice (.id (k+100) 10) (GP y r.path++[RQ r]))=I6 (y++[r]):=by
 have hd:=Fc y [] Fu;have hm:ZQ y (r.path,k)∈I6 y:=Ag.2 ⟨_,FK.2 h,rfl⟩;rw[aA (a':=.slice (.id (k+100) 10) (GP y r.path)) hm];unfold I6;rw[JR h,Bo];refine Bh fun q hq=>?_;have hg:=IW hq;obtain⟨q,j⟩:=q;show(if Value.string q=Value.string r.path then _ else _)=ZQ (y++[r]) (q,j)
 by_cases he:q=r.path
 .subst he
  have:j=k:=JO hd hg h
  subst this;rw[Al rfl];show _=(Value.string r.path,AV.slice (.id (j+100) 10) (GP (y++[r]) r.path));rw[HU,Al rfl]
 .rw[Ai (fun e=>he (by simpa using e))];show(Value.string q,AV.slice (.id (j+100) 10) (GP y q))=(Value.string q,AV.slice (.id (j+100) 10) (GP (y++[r]) q));rw[HU,Ai (fun e=>he e.symm)]
theorem aJ(h:r.path∉AW y []):GP y r.path=[]:=by
 have:y.filter (fun s=>decide (s.path=r.path))=[]:=by
  rw[HZ];intro s hs he;exact h ((GQ y [] r.path).2 (.inr ⟨s,hs,AU he⟩))
 unfold GP;rw[this];rfl
theorem WK(h:r.path∉AW y [])(a:AV):(Value.string r.path,a)∉I6 y:=by
 intro hc;obtain⟨q,h1,h2⟩:=Ag.1 hc;simp only[ZQ,F4,Value.string.injEq]at h2;exact h (by rw[<-h2.1];exact Aw (IW h1))
theorem lh(h:r.path∉AW y []):EX (I6 y) (.string r.path) (.slice (.id ((AW y []).length+100) 10) [RQ r])=I6 (y++[r]):=by
 rw[M1 (fun a=>WK h a)];unfold I6;rw[JQ h,List.zipIdx_append,Ar]
 congr 1
 .refine Bh fun q hq=>?_;have hg:=IW hq
  have:q.1≠r.path:=fun e=>h (by rw[<-e];exact Aw hg)
  show(Value.string q.1,AV.slice (.id (q.2+100) 10) (GP y q.1))=(Value.string q.1,AV.slice (.id (q.2+100) 10) (GP (y++[r]) q.1));rw[HU,Ai (fun e=>this e.symm)]
 .show [_]=[(Value.string r.path,AV.slice (.id (0+(AW y []).length+100) 10) (GP (y++[r]) r.path))];rw[HU,Al rfl,aJ h,Bf];rfl
theorem gZ{j:Nat}(h:(AW y [])[j]?=some p):(Value.string p,AV.slice (.id (j+100) 10) (GP y p))∈I6 y/\∀b,(Value.string p,b)∈I6 y->b=AV.slice (.id (j+100) 10) (GP y p):=by
 refine⟨Ag.2 ⟨(p,j),FK.2 h,rfl⟩,fun b hb=>?_⟩;obtain⟨q,h1,h2⟩:=Ag.1 hb;simp only[ZQ,F4,Value.string.injEq]at h2;have hg:=IW h1;rw[h2.1]at hg
 have:=JO (Fc y [] Fu) hg h
 rw[<-h2.2,h2.1,this]
theorem fQ{j:Nat}(h:(AW y [])[j]?=some p):GB y j=.tok 10 (GP y p).length:=by
 unfold GB;rw[h]
theorem ny(h:(AW y [])[k]?=some r.path)(l:Nat):(bif Nat.beq (l+100) (k+100)then HO.tok 10 ((GP y r.path).length+1)else GB y l)=GB (y++[r]) l:=by
 by_cases he:l=k
 .subst he;rw[show Nat.beq (l+100) (l+100)=true from Di _];unfold GB;rw[JR h,h];show HO.tok 10 _=HO.tok 10 (GP (y++[r]) r.path).length;rw[HU,Al rfl,Ac];rfl
 .rw[show Nat.beq (l+100) (k+100)=false by rw[AM];intro hc;have:=AK hc;omega];show GB y l=_;unfold GB;rw[JR h];cases hq:(AW y [])[l]? with
  |none=>rfl
  |some q =>
   show HO.tok 10 (GP y q).length=HO.tok 10 (GP (y++[r]) q).length;rw[HU,Ai];intro e;subst e;exact he (JO (Fc y [] Fu) hq h)
theorem nx(h:r.path∉AW y [])(l:Nat):(bif Nat.beq (l+100) ((AW y []).length+100)then HO.tok 10 1 else GB y l)=GB (y++[r]) l:=by
 by_cases he:l=(AW y []).length
 .subst he;rw[show Nat.beq ((AW y []).length+100) ((AW y []).length+100)=true from Di _];unfold GB;rw[JQ h];simp only[AZ (Aj _),E1,Be];show HO.tok 10 1=HO.tok 10 (GP (y++[r]) r.path).length;rw[HU,Al rfl,aJ h];rfl
 .rw[show Nat.beq (l+100) ((AW y []).length+100)=false by rw[AM];intro hc;have:=AK hc;omega];show GB y l=_;unfold GB;rw[JQ h]
  by_cases hl:l<(AW y []).length
  .rw[AY hl,Ge hl];show HO.tok 10 (GP y (AW y [])[l]).length=HO.tok 10 (GP (y++[r]) (AW y [])[l]).length;rw[HU,Ai];intro e;exact h (by rw[e];exact Aq hl)
  .rw[A6 ch,A6 (by rw[Ac];simp;omega)]
end
theorem If(hh:∀l,h (l+100)=GB y l):Sb h (I6 y)=true:=by
 refine QX fun p hp=>?_;obtain⟨q,h1,rfl⟩:=Ag.1 hp;show SJ h (q.2+100)=true;unfold SJ;rw[hh,fQ (IW h1)]
theorem G1{y:List Rl}(hy:y.length<=256){h':Nat->HO}(hh:∀l,h (l+100)=GB y l)(j:Nat):JF y j=.free\/(h j=JF y j/\SK h' (JF y j)=true):=by
 by_cases hj:j<100
 .exact .inl (po y hj)
 .obtain⟨l,rfl⟩:∃l,j=l+100:=⟨j-100,by omega⟩
  right
  rw[Fo y hy];refine⟨hh l,?_⟩;unfold GB;cases (AW y [])[l]?<;>rfl
abbrev yR:List Rl:=x.filter fun r=>!r.yanked
theorem cY(p:ByteArray):GP (yR x) p=(Cz x p).map AT:=by
 unfold GP Cz;rw[List.filter_filter,Bo]
 rfl
def mC:List (Value×AV):=(AW (yR x) []).map fun p=>(.string p,sl AT (Cz x p))
theorem l8{x:List Rl}:(Value.string p,a)∈mC x↔p∈AW (yR x) []/\a=sl AT (Cz x p):=by
 unfold mC;rw[Ag];constructor
 .rintro⟨q,hq,e⟩
  injection e with e1 e2
  injection e1 with e1
  subst e1;exact⟨hq,e2.symm⟩
 .rintro⟨h1,h2⟩
  exact⟨p,h1,by rw[h2]⟩
theorem Wu{x:List Rl}:Cz x p=[]↔p∉AW (yR x) []:=by
 rw[GQ];unfold Cz;rw[DE,HZ];constructor
 .rintro h (h1 | ⟨r,h1,h2⟩)
  .cases h1
  .obtain⟨h3,h4⟩:=Bv.1 h1;exact h r h3 (by rw[Ax h2,h4];rfl)
 .intro h r hr hc;rw[Ae,AA]at hc;exact h (.inr ⟨r,Bv.2 ⟨hr,hc.2⟩,hc.1⟩)
theorem xW:∀(p:ByteArray) (a:AV),(Value.string p,a)∈mC x->a=sl AT (Cz x p):=fun _ _ h=>(l8.1 h).2
theorem xX:∀p:ByteArray,(∀a,(Value.string p,a)∉mC x)->Cz x p=[]:=fun _ h=>Wu.2 fun hp=>h _ (l8.2 ⟨hp,rfl⟩)
theorem xY:∀p:ByteArray,Cz x p=[]->∀a,(Value.string p,a)∉mC x:=fun _ h _ ha=>Wu.1 h (l8.1 ha).1
abbrev plN:SB:=⟨[2],[],[],[(52,[12])],[],[12],[50],[(53,(16,3,90,6)),(54,(16,4,91,1)),(55,(16,7,93,10)),(56,(16,8,94,4))],[],[(850013,13),(800013,10016),(810013,20016),(900013,10000000000+92000000+90016)],[5,7,8,9,11,12,13]⟩
abbrev kC(p:ByteArray):Value×AV:=(.string p,sl AT (Cz x p))
abbrev kA(p:ByteArray):Value×AV:=(.string p,sl AC (Ch x p))
theorem pZ{x:List Rl}{kv:Value×AV}{Ma : List (Value×AV)}(h:(l.map (kC x)).Perm (kv::Ma)):∃t r,kv=kC x t/\Ma=r.map (kC x)/\l.Perm (t::r):=by
 obtain⟨ps,h1,h2⟩:=KJ h l rfl;cases ps with
 |nil=>cases h2
 |cons t r =>
  rw[AI,E7]at h2;exact⟨t,r,h2.1.symm,h2.2.symm,h1.symm⟩
abbrev srN(roots:List Rq)(C A:List (Value×AV)):List (Nat×HO) :=
 [(2000,.cells [sl Ba roots,.cmap Cm C,.cmap Cm A,.slice (.id 2001 6) [],.slice (.id 2002 1) [],.mref 2003,vb false,.slice .none [],.slice .none [],.msl 2004 0]),(2001,.tok 6 0),(2002,.tok 1 0),(2003,.map FI []),(2004,.arr 1 [])]
theorem Yt{x:List Rl}:(Value.string p,a)∈l.map (kA x)↔p∈l/\a=sl AC (Ch x p):=by
 rw[Ag];constructor
 .rintro⟨q,hq,e⟩
  injection e with e1 e2
  injection e1 with e1
  subst e1;exact⟨hq,e2.symm⟩
 .rintro⟨h1,h2⟩
  exact⟨p,h1,by rw[h2]⟩
theorem eB(n:Nat):JF y (n+1000)=.free:=by
 unfold JF;rw[show Nat.blt (n+1000) 1000=false by rw[AM];intro hc;rw[Cs]at hc;omega,Dn];rfl
theorem X7{s:Nat->HO}(H:∀n,h (n+1000)=.free):∀j,1000<=j->j<2000->h j≠.free->s j≠.free:=fun j h1 _ hn=>by
 refine absurd (H (j-1000)) ?_;rw[show j-1000+1000=j by omega];exact hn
theorem oP(h:k<1000):Nat.beq (n+1000) k=false:=by
 rw[AM];intro hc;have:=AK hc;omega
theorem dR{y:List Rl}{o:HO}(h:k<1000):(bif Nat.beq (n+1000) k then o else JF y (n+1000))=.free:=by
 rw[oP h,eB];rfl
attribute [local irreducible] IR
set_option maxRecDepth 30000 in
set_option maxHeartbeats 4000000 in
theorem s29(ifs:List (List AV))(roots:List Rq)(hx:∀r∈x,Eu r)(h0:A4 x=0):A9 Tryz.prog 136 [Mo x ifs,sl Ba roots] (Ao [] Af) fun r h'=>∃l:List ByteArray,l.Perm (AW (yR x) [])/\r=.ref 2000 0/\h'=Ao (srN roots (mC x) (l.map (kA x))) Af:=by
 have rK:x.length<=256:=(L3 h0).1;refine Cq (MK plN) [(16,2000),(90,2001),(91,2002),(14,2003),(92,2004)] rfl CQ hm rfl Tryz.func136 Wk rfl (Nz rfl) Wk rfl (Xi 0 (Xi 0 (Xi 0 (Xi {i:Nat // i<=x.length} (Xi (fun i=>⟨[(2,.ref 2 0),(5,.ref 16 0),(18,sl AF x),(19,vi (x.map AF).length),(20,vi i.1)],[(2,.ro (Ic x ifs)),(12,.mapU Cm (I6 (yR (x.take i.1)))),(13,.map Cm []),(14,.map FI []),(16,.cells [sl Ba roots,.mref 12,.mref 13,nzA,nzA,.mref 14,vb false,nzA,nzA,nzA])],JF (yR (x.take i.1))⟩) (Xi (fun i=>x.length-i.1) (Yi (Xi ⟨0,AE _⟩ ?_) ?_)))))))
 .refine⟨Z5,Z5,fun j=>.inl ?_,BN Wk⟩;show JF [] j=.free;unfold JF;cases (Nat.ble 100 j&&Nat.blt j 1000)<;>rfl
 intro⟨i,i1⟩;have hq:∀k,(yR (x.take k)).length<=256:=fun k=>by
  have:=Bq (fun r:Rl=>!r.yanked) (x.take k)
  rw[Av]at this;show(List.filter _ _).length<=256;omega
 refine Xi 0 (Yi ?_ ?_)
 .intro h;have h:i<x.length:=by simpa using h
  have hg:x[i]?=some x[i]:=Ge h;have Lq:x.take (i+1)=x.take i++[x[i]]:=by rw[Bi,hg];rfl
  refine Xi 0 (Xi (AF x[i]) (Yi (Yi (Nn i) (by simp[hg])) (Yi rfl ?_)));refine Yi (Nz rfl) (yN (Xi ⟨[(2,.ref 2 0),(5,.ref 16 0),(7,.ref 7 0),(18,sl AF x),(19,vi (x.map AF).length),(20,vi i)],[(2,.ro (Ic x ifs)),(7,.cells (AF x[i])),(12,.mapU Cm (I6 (yR (x.take i)))),(13,.map Cm []),(14,.map FI []),(16,.cells [sl Ba roots,.mref 12,.mref 13,nzA,nzA,.mref 14,vb false,nzA,nzA,nzA])],JF (yR (x.take i))⟩ (Yi ?_ ?_)))
  .exact⟨Z6,⟨Zr,Zr,⟨rfl,If _ (Fo _ (hq _))⟩,Zr,Zr,Zr,Tv⟩,G1 (hq _) (Fo _ (hq _)),BN Wk⟩
  refine Xi 0 (Yi (fun hy=>?_) (fun hy=>?_))
  .have ey:yR (x.take (i+1))=yR (x.take i):=by
    unfold yR;rw[Lq,EE,Ty (by rw[hy];decide)];simp
   refine Xi ⟨[(2,.ref 2 0),(5,.ref 16 0),(18,sl AF x),(19,vi (x.map AF).length),(20,vi i)],[(2,.ro (Ic x ifs)),(12,.mapU Cm (I6 (yR (x.take (i+1))))),(13,.map Cm []),(14,.map FI []),(16,.cells [sl Ba roots,.mref 12,.mref 13,nzA,nzA,.mref 14,vb false,nzA,nzA,nzA])],JF (yR (x.take (i+1)))⟩ (Yi ?_ ?_)
   .rw[ey];exact⟨Z5,⟨Zr,⟨rfl,If _ (Fo _ (hq _))⟩,Zr,Zr,Zr,Tv⟩,G1 (hq _) (Fo _ (hq _)),BN Wk⟩
   refine Xi 0 (Yi (Ii i ch) (Xi ⟨i+1,by omega⟩ ?_));exact⟨Dl x.length i ch,Z5,⟨Zr,⟨rfl,If _ (Fo _ (hq _))⟩,Zr,Zr,Zr,Tv⟩,G1 (hq _) (Fo _ (hq _)),BN Wk⟩
  refine Xi 0 (yN (Xi .pure (Xi _ (Yi (vo x[i].ver) (Xi ⟨[(2,.ref 2 0),(5,.ref 16 0),(7,.ref 7 0),(8,vi (plc x[i].ver)),(18,sl AF x),(19,vi (x.map AF).length),(20,vi i)],[(2,.ro (Ic x ifs)),(7,.cells (AF x[i])),(12,.mapU Cm (I6 (yR (x.take i)))),(13,.map Cm []),(14,.map FI []),(16,.cells [sl Ba roots,.mref 12,.mref 13,nzA,nzA,.mref 14,vb false,nzA,nzA,nzA])],JF (yR (x.take i))⟩ (Yi ?_ ?_))))))
  .exact⟨Z7,⟨Zr,Zr,⟨rfl,If _ (Fo _ (hq _))⟩,Zr,Zr,Zr,Tv⟩,G1 (hq _) (Fo _ (hq _)),BN Wk⟩
  have ey:yR (x.take (i+1))=yR (x.take i)++[x[i]]:=by
   unfold yR;rw[Lq,EE,Tz (by rw[hy];decide)];rfl
  have hyl:(yR (x.take i)).length<=256:=by
   have:=Bq (fun r:Rl=>!r.yanked) (x.take i)
   rw[Av]at this;show(List.filter _ _).length<=256;omega
  have hP:∀l,JF (yR (x.take i)) (l+100)=GB (yR (x.take i)) l:=Fo _ (hq _);refine B8 (Classical.em (x[i].path∈AW (yR (x.take i)) [])) (fun hp=>?_) (fun hp=>?_)
  .refine CN (Ck.1 hp) (fun k hk=>?_);have hu:=gZ hk;have hl:(GP (yR (x.take i)) x[i].path).length<=256:=by
    rw[Lm];exact AJ (Bq _ _) hyl
   have xl:k<256:=by
    have:=(Au.1 hk).1
    have:=HW (yR (x.take i)) []
    simp only[At]at this;omega
   have hr:JF (yR (x.take i)) (k+100)=.tok 10 (GP (yR (x.take i)) x[i].path).length:=by rw[hP,fQ hk]
   refine Xi 0 ?_;refine Or.inl (Xi (.slice (.id (k+100) 10) (GP (yR (x.take i)) x[i].path)) (Yi hu ?_));refine yN (RN (e:=266) (m:=9) (es2:=[RQ x[i]]) rfl rfl rfl (fun _ h=>h) hr ⟨rfl,trivial⟩ (by show(_+1)*128<=_;omega) (by show _+1<=_;omega) (Yi (JD ⟨A2 _,A2 _,A2 _,A2 _,A2 _,A2 _,A2 _,A2 _,A2 _,A2 _,A2 _,A2 _,A2 _,A2 _,A2 _,A2 _,Eo (show 49<10000000 by decide),Eo (by show _+100<10000000;omega),Eo (show 12<10000000 by decide),trivial⟩ Wk) ?_));have e9:EX (I6 (yR (x.take i))) (.string x[i].path) (.slice (.id (k+100) 10) (GP (yR (x.take i)) x[i].path++[RQ x[i]]))=I6 (yR (x.take (i+1))):=by rw[ey];exact li hk
   have hG:∀l,(bif Nat.beq (l+100) (k+100)then HO.tok 10 ((GP (yR (x.take i)) x[i].path).length+1)else GB (yR (x.take i)) l)=GB (yR (x.take (i+1))) l:=by rw[ey];exact ny hk
   refine Xi ⟨[(2,.ref 2 0),(5,.ref 16 0),(18,sl AF x),(19,vi (x.map AF).length),(20,vi i)],[(2,.ro (Ic x ifs)),(12,.mapU Cm (I6 (yR (x.take (i+1))))),(13,.map Cm []),(14,.map FI []),(16,.cells [sl Ba roots,.mref 12,.mref 13,nzA,nzA,.mref 14,vb false,nzA,nzA,nzA])],JF (yR (x.take (i+1)))⟩ (Yi ?_ ?_)
   .refine⟨Z5,⟨Zr,⟨Aa (HO.mapU Cm) e9,If _ (Fo _ (hq _))⟩,Zr,Zr,Zr,Tv⟩,G1 (hq _) (fun l=>?_),X7 (fun n=>?_)⟩
    .show(bif Nat.beq (l+100) (k+100)then HO.tok 10 ((GP (yR (x.take i)) x[i].path).length+1)else JF (yR (x.take i)) (l+100))=_;rw[hP];exact hG l
    .exact dR (y:=yR (x.take i)) (show k+100<1000 by omega)
   refine Xi 0 (Yi (Ii i ch) (Xi ⟨i+1,by omega⟩ ?_));exact⟨Dl x.length i ch,Z5,⟨Zr,⟨rfl,If _ (Fo _ (hq _))⟩,Zr,Zr,Zr,Tv⟩,G1 (hq _) (Fo _ (hq _)),BN Wk⟩
  .have Mm:(AW (yR (x.take i)) []).length<=256:=by
    have:=HW (yR (x.take i)) []
    simp only[At]at this;omega
   have hn:=WK hp;have hr:JF (yR (x.take i)) ((AW (yR (x.take i)) []).length+100)=.free:=by
    rw[hP];unfold GB;rw[A6 (Aj _)]
   refine Xi ((AW (yR (x.take i)) []).length+100) ?_;refine Or.inr (Yi hn ?_);refine yN (RM (e:=266) (m:=9) (es2:=[RQ x[i]]) rfl rfl rfl (fun _ h=>h) hr rfl ⟨rfl,trivial⟩ (by show 1*128<=_;omega) (by show 1<=_;omega) (Yi (JD ⟨A2 _,A2 _,A2 _,A2 _,A2 _,A2 _,A2 _,A2 _,A2 _,A2 _,A2 _,A2 _,A2 _,A2 _,A2 _,A2 _,Eo (show 49<10000000 by decide),Eo (by show _+100<10000000;omega),Eo (show 12<10000000 by decide),trivial⟩ Wk) ?_));have e9:EX (I6 (yR (x.take i))) (.string x[i].path) (.slice (.id ((AW (yR (x.take i)) []).length+100) 10) [RQ x[i]])=I6 (yR (x.take (i+1))):=by rw[ey];exact lh hp
   have hG:∀l,(bif Nat.beq (l+100) ((AW (yR (x.take i)) []).length+100)then HO.tok 10 1 else GB (yR (x.take i)) l)=GB (yR (x.take (i+1))) l:=by rw[ey];exact nx hp
   refine Xi ⟨[(2,.ref 2 0),(5,.ref 16 0),(18,sl AF x),(19,vi (x.map AF).length),(20,vi i)],[(2,.ro (Ic x ifs)),(12,.mapU Cm (I6 (yR (x.take (i+1))))),(13,.map Cm []),(14,.map FI []),(16,.cells [sl Ba roots,.mref 12,.mref 13,nzA,nzA,.mref 14,vb false,nzA,nzA,nzA])],JF (yR (x.take (i+1)))⟩ (Yi ?_ ?_)
   .refine⟨Z5,⟨Zr,⟨Aa (HO.mapU Cm) e9,If _ (Fo _ (hq _))⟩,Zr,Zr,Zr,Tv⟩,G1 (hq _) (fun l=>?_),X7 (fun n=>?_)⟩
    .show(bif Nat.beq (l+100) ((AW (yR (x.take i)) []).length+100)then HO.tok 10 1 else JF (yR (x.take i)) (l+100))=_;rw[hP];exact hG l
    .exact dR (y:=yR (x.take i)) (show(AW (yR (x.take i)) []).length+100<1000 by omega)
   refine Xi 0 (Yi (Ii i ch) (Xi ⟨i+1,by omega⟩ ?_));exact⟨Dl x.length i ch,Z5,⟨Zr,⟨rfl,If _ (Fo _ (hq _))⟩,Zr,Zr,Zr,Tv⟩,G1 (hq _) (Fo _ (hq _)),BN Wk⟩
 .intro h;have h:¬i<x.length:=by simpa using h
  have et:x.take i=x:=As ch;have eM:∀hh:Nat->HO,SQ hh (I6 (yR (x.take i)))=(AW (yR x) []).map (kC x):=fun hh=>by
   rw[et];unfold SQ I6;rw[Bo];refine Do fun j=>?_;rw[AG,AG,List.getElem?_zipIdx];cases (AW (yR x) [])[j]? with
   |none=>rfl
   |some q=>show some (Value.string q,AV.slice .none (GP (yR x) q))=_;rw[cY];rfl
  refine Xi ⟨[(2,.ref 2 0),(5,.ref 16 0)],[(2,.ro (Ic x ifs)),(12,.mapU Cm (I6 (yR (x.take i)))),(13,.map Cm []),(14,.map FI []),(16,.cells [sl Ba roots,.mref 12,.mref 13,nzA,nzA,.mref 14,vb false,nzA,nzA,nzA])],JF (yR (x.take i))⟩ (Yi ?_ ?_)
  .exact⟨Z2,⟨Zr,⟨rfl,If _ (Fo _ (hq _))⟩,Zr,Zr,Zr,Tv⟩,G1 (hq _) (Fo _ (hq _)),BN Wk⟩
  refine Xi 0 (Xi {p:List ByteArray×List ByteArray×Option (Value×AV) // (p.1++p.2.1).Perm (AW (yR x) [])} (Xi (fun p=>⟨[(2,.ref 2 0),(5,.ref 16 0),(56,.ref 56 0)],[(2,.ro (Ic x ifs)),(12,.rom Cm ((AW (yR x) []).map (kC x))),(13,.map Cm (p.1.1.map (kA x))),(14,.map FI []),(16,.cells [sl Ba roots,.mref 12,.mref 13,.slice (.id 90 6) [],.slice (.id 91 1) [],.mref 14,vb false,.slice (.id 93 10) [],.slice (.id 94 4) [],nzA]),(56,.iter ((AW (yR x) []).map (kC x)) (p.1.2.1.map (kC x)) p.1.2.2),(90,.tok 6 0),(91,.tok 1 0),(93,.tok 10 0),(94,.tok 4 0)],Af⟩) (Xi (fun p=>p.1.2.1.length) (Yi (Xi ⟨([],AW (yR x) [],none),.refl _⟩ ?_) ?_))))
  .refine⟨Z3,⟨Zr,⟨Aa (HO.rom Cm) (eM _),rfl⟩,Zr,Zr,Zr,⟨?_,rfl⟩,Zr,Zr,Zr,Zr,Tv⟩,Fh,X7 (fun n=>?_)⟩
   .show HO.iter (SQ _ (I6 (yR (x.take i)))) (SQ _ (I6 (yR (x.take i)))) none=_;rw[eM]
   .exact eB (yR (x.take i)) n
  intro⟨⟨done,rem,EC⟩,r1⟩;refine Xi 0 (Yi ?_ ?_)
  .intro hr;have hr:rem=[]:=DE.1 hr;subst hr;rw[BP]at r1;refine cU [(5,.ref 16 0)] [(14,.map FI []),(16,.cells [sl Ba roots,.cmap Cm (mC x),.cmap Cm (done.map (kA x)),.slice (.id 90 6) [],.slice (.id 91 1) [],.mref 14,vb false,.slice (.id 93 10) [],.slice (.id 94 4) [],.msl 92 0]),(90,.tok 6 0),(91,.tok 1 0),(92,.arr 1 []),(93,.tok 10 0),(94,.tok 4 0)] Z1 Z7 (Xi 0 ?_);exact Xi _ (Yi (.refl _) (Xi done (Yi r1 (Yi rfl rfl))))
  .intro kv Ma hp;refine CN (pZ hp) (fun t hp=>CN hp (fun r hp=>?_));have e1:=hp.1;have e2:=hp.2.1;subst e1;subst e2;have hp:=hp.2.2;refine cU [(2,.ref 2 0),(5,.ref 16 0),(56,.ref 56 0)] [(2,.ro (Ic x ifs)),(12,.rom Cm ((AW (yR x) []).map (kC x))),(13,.map Cm (done.map (kA x))),(14,.map FI []),(16,.cells [sl Ba roots,.mref 12,.mref 13,.slice (.id 90 6) [],.slice (.id 91 1) [],.mref 14,vb false,.slice (.id 93 10) [],.slice (.id 94 4) [],nzA]),(56,.iter ((AW (yR x) []).map (kC x)) (r.map (kC x)) (some (kC x t))),(90,.tok 6 0),(91,.tok 1 0),(93,.tok 10 0),(94,.tok 4 0)] Z3 Z10 (Xi 0 (cU [(2,.ref 2 0),(5,.ref 16 0),(10,vs t),(56,.ref 56 0)] [(2,.ro (Ic x ifs)),(12,.rom Cm ((AW (yR x) []).map (kC x))),(13,.map Cm (done.map (kA x))),(14,.map FI []),(16,.cells [sl Ba roots,.mref 12,.mref 13,.slice (.id 90 6) [],.slice (.id 91 1) [],.mref 14,vb false,.slice (.id 93 10) [],.slice (.id 94 4) [],nzA]),(56,.iter ((AW (yR x) []).map (kC x)) (r.map (kC x)) (some (kC x t))),(90,.tok 6 0),(91,.tok 1 0),(93,.tok 10 0),(94,.tok 4 0)] Z4 Z10 (Xi 0 ?_)));have SI:(done++rem).Nodup:=r1.nodup_iff.2 (Fc _ [] Fu);have htn:t∉done:=fun hc=>(FG.1 SI).2.2 t hc t (hp.mem_iff.2 (Ab ..)) rfl;have em:EX (done.map (kA x)) (.string t) (sl AC (Ch x t))=(done++[t]).map (kA x):=by
    rw[M1 (fun a ha=>htn (Yt.1 ha).1),Ar];rfl
   have RY:((done++[t])++r).Perm (AW (yR x) []):=by
    rw[BA];exact(Iw _ hp.symm).trans r1
   refine yN (Xi _ (Yi (AaC x ifs t (c84 x ifs hx)) (Yi Wk (Xi ⟨(done++[t],r,some (kC x t)),RY⟩ ?_))));exact⟨by show r.length<rem.length;rw[hp.length_eq,Ak];omega,Z3,⟨Zr,Zr,⟨Aa (HO.map Cm) em,rfl⟩,Zr,Zr,Zr,Zr,Zr,Zr,Zr,Tv⟩,Fh,BN Wk⟩
end Go.Eng
namespace Go.Eng
open Go.Proofs
variable {x:List Rl}
theorem bN(h0:A4 x=0){p:ByteArray}(h:p∉AW (yR x) []):Ch x p=[]:=by
 rw[gy h0]
 have:x.filter (d7 p)=[]:=by
  rw[HZ];intro r hr hc;unfold d7 at hc;rw[Ae,AA]at hc;exact h ((GQ _ _ _).2 (.inr ⟨r,Bv.2 ⟨hr,hc.2⟩,hc.1⟩))
 rw[this];rfl
theorem s7{roots:List Rq}(hx:∀r∈x,Eu r)(hr:∀q∈roots,JT q)(h0:A4 x=0)(h1:BI roots=0){l:List ByteArray}(hl:l.Perm (AW (yR x) [])):Env x roots (mC x) (l.map (kA x)) where
 hx:=h0
 hr:=h1
 fx:=hx
 fr:=hr
 c1:=xW x
 c2:=xX x
 c3:=xY x
 av p:=by
  by_cases hp:p∈l
  .exact⟨sl AC (Ch x p),fun a ha=>(Yt.1 ha).2,fun hn=>(hn _ (Yt.2 ⟨hp,rfl⟩)).elim,fun h=>wk p (Ch x p) (TN x p)⟩
  .refine⟨nzA,fun a ha=>(hp (Yt.1 ha).1).elim,fun _=>rfl,fun h=>?_⟩;have e:=bN h0 (fun hc=>hp (hl.mem_iff.2 hc));have hc:=wk p (Ch x p) (TN x p);rw[e]at hc⊢;exact IY.args hc ⟨.refl _,.nil,trivial⟩
abbrev Jj(b:Bool):List AV:=[vb b]
end Go.Eng
