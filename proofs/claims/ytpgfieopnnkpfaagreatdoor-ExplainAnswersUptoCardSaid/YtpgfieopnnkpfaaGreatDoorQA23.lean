/- Lemmas 23. -/
import Derived.Test.YtpgfieopnnkpfaaGreatDoorQA22
set_option maxHeartbeats 4000000
namespace Go.Eng
open Go.Proofs
variable {l:List Nf}{x:List Rl}{roots:List Rq}{L:List Nat}{n:Int}{i:Nat}{target:Int}
theorem m0(l m:List Nat)(hl:BB l):PC 17 [sl A0 l,sl A0 m] (vb (decide (l=m))):=by
 refine Ps Cu Tryz.func17 rfl (Nz rfl) (Yi ?_ ?_)
 .intro h;have h:¬((l.map A0).length:Int)=(m.map A0).length:=h
  have:l≠m:=fun e=>h (by rw[e])
  rw[AU this];exact .refl _
 .intro h;have h:¬((l.map A0).length:Int)≠(m.map A0).length:=h;have Cy:l.length=m.length:=by simp at h;omega
  refine Xi {i:Nat // i<=l.length/\l.take i=m.take i} (Xi (fun i=>⟨[(0,sl A0 l),(1,sl A0 m),(12,vi (l.map A0).length),(13,vi i.1)],[],Af⟩) (Xi (fun i=>l.length-i.1) (Yi (Xi ⟨0,by simp⟩ ?_) ?_)))
  .exact⟨Z4,Tv,Fh,Tv⟩
  .intro⟨i,h1,h2⟩;refine Yi ?_ ?_
   .intro h;have h:(i:Int)<(l.map A0).length:=h;have h:i<l.length:=by simpa using h
    have h' : i<m.length:=by omega
    have hg:l[i]?=some l[i]:=Ge h;have nQ : m[i]?=some m[i]:=Ge h';refine Xi (A0 l[i]) (Yi (Yi (Nn i) (by simp[hg])) (Yi rfl ?_));refine Xi (A0 m[i]) (Yi (Yi (Nn i) (by simp[nQ])) (Yi rfl ?_));refine Yi ?_ ?_
    .intro h5;refine Yi aa3 ?_;have h5:(l[i]:Int)≠(m[i]:Int):=h5
     have:l≠m:=fun e=>h5 (by subst e;rfl)
     rw[AU this];exact .refl _
    .intro h5;have h5:¬(l[i]:Int)≠(m[i]:Int):=h5;have e:l[i]=m[i]:=by have:=Bs.1 h5;omega
     refine Yi aa3 (Yi (by show Al ((i:Int)+1);unfold BB at hl;unfold Al;omega) (Xi ⟨i+1,by omega,?_⟩ ?_))
     .rw[B9,B9,h2,hg,nQ,e]
     .exact⟨Dl l.length i aa0,Z4,Tv,Fh,Tv⟩
   .intro h;have h:¬(i:Int)<(l.map A0).length:=h;have h:¬i<l.length:=by simpa using h
    have e:l=m:=by
     rw[<-AK (l:=l) (i:=i) aa0,h2,AK aa0]
    rw[A4 e];exact .refl _
theorem Vf(h:i<L.length)(hj:∀j (hj:j<L.length),j<i->¬(L[j]:Int)=n)(e:(L[i]:Int)=n):EJ L n=i:=by
 have:L.findIdx? (fun i:Nat=>decide ((i:Int)=n))=some i:=by
  rw[List.findIdx?_eq_some_iff_getElem];refine⟨h,by simpa using e,fun j sJ=>by simpa using hj j aa0 sJ⟩
 unfold EJ;rw[this]
theorem Za(hj:∀j (hj:j<L.length),¬(L[j]:Int)=n):EJ L n=-1:=by
 have:L.findIdx? (fun i:Nat=>decide ((i:Int)=n))=none:=by
  rw[List.findIdx?_eq_none_iff];intro x hx;obtain⟨j,h,rfl⟩:=Ev hx;simpa using hj j h
 unfold EJ;rw[this]
theorem Pa:∀i∈Dv l target,i<l.length:=by
 intro i hi;unfold Dv at hi;split at hi
 .cases hi
 .split at hi
  .cases hi
  .rename_i u hu;unfold Ez at hu;have h1:=HZ hu;unfold HS at hi;have h2:=GU.1 (DF.1 hi).1;simp at h1;omega
theorem MM:(Dv l target).length<=l.length:=by
 unfold Dv;split
 .simp
 .split
  .simp
  .rename_i u hu;unfold Ez at hu;have h1:=HZ hu;have h2:(HS u).length<=u.length:=W7 u u.length;rw[Hq,FY]at h1;exact h1▸h2
theorem Wl(h:i<l.length):l[i]?=some (l.getD i BL):=by
 rw[Bq,Ge h];rfl
theorem e54(L:List Nat)(n:Int)(hl:BB L):PC 54 [sl A0 L,vi (n:Int)] (vi (EJ L n)):=by
 have hl:L.length<=1073741824:=hl;refine Ps Cu Tryz.func54 rfl (Nz rfl) (Xi {i:Nat // i<=L.length/\∀j (hj:j<L.length),j<i->¬(L[j]:Int)=n} (Xi (fun q=>⟨[(0,sl A0 L),(1,vi (n:Int)),(7,vi (L.map A0).length),(8,vi q.1)],[],Af⟩) (Xi (fun q=>L.length-q.1) (Yi (Xi ⟨0,Ao _,fun j _ h=>by omega⟩ ?_) ?_))))
 .exact⟨Z4,Tv,Fh,Tv⟩
 intro⟨i,i1,i2⟩;have i1:i<=L.length:=i1;have i2:∀j (hj:j<L.length),j<i->¬(L[j]:Int)=n:=i2;refine Yi (fun h1=>?_) (fun h1=>?_)
 .have h1:(i:Int)<((L.map A0).length:Int):=h1;have n1:i<L.length:=by have q:=h1;rw[Lm]at q;omega
  have g1:L[i]?=some L[i]:=Ge n1;refine Xi (A0 L[i]) (Yi (Yi (Nn i) (AM g1)) (Yi rfl (Yi (fun h2=>?_) (fun h2=>?_))))
  .have h2:((n:Int):Int)=(L[i]:Int):=h2;exact .of_eq (show vi i=vi (EJ L n) by rw[Vf n1 i2 (by have q:=h2;omega)])
  have h2:¬(((n:Int):Int)=(L[i]:Int)):=h2;refine Yi (Ii i aa0) (Xi ⟨i+1,by omega,fun j hj He=>(Dq j i).elim (i2 j hj) (fun z=>by have e:j=i:=aa0;subst e;exact fun hq=>h2 hq.symm)⟩ ?_);exact⟨Dl L.length i aa0,Z4,Tv,Fh,Tv⟩
 have h1:¬((i:Int)<((L.map A0).length:Int)):=h1;have n1:¬i<L.length:=by have q:=h1;rw[Lm]at q;omega
 exact .of_eq (show vi (-1)=vi (EJ L n) by rw[Za fun j hj=>i2 j hj aa0])
theorem e53(L:List Nat)(n:Int)(hl:BB L):PC 53 [vi (n:Int),.cptr [sl A0 L]] (vi (EJ L n)):=by
 refine Ps Cu Tryz.func53 rfl (Nz rfl) (Xi .pure (Xi _ (Yi (e54 L n hl) ?_)));exact .refl _
theorem e21(l:List Nf)(target:Int)(hl:BB l)(ht:Al target):PC 21 [sl Aj l,vi (target:Int)] (sl Aj (De l target)):=by
 have nI:∀i∈Dv l target,i<l.length:=Pa;have uv:=MM (l:=l) (target:=target);have QX:=yP l target hl ht;obtain⟨U,hU⟩:∃U,U=Dv l target:=⟨_,rfl⟩;rw[<-hU]at nI uv QX;have hl:l.length<=1073741824:=hl;have nH:BB U:=by unfold BB;omega
 refine Ps (pT [5] [(7,6)] [2,8,10]) Tryz.func21 rfl (Nz rfl) (Xi .pure (Xi _ (Yi QX (yN (cU [(0,sl Aj l),(5,.ref 5 0)] [(5,.ro [sl A0 U])] Z2 Z1 (Xi {i:Nat // i<=U.length} (Xi (fun q=>⟨[(0,sl Aj l),(6,.clo 53 [.cptr [sl A0 U]]),(7,.slice (.id 7 6) (((U.take q.1).map fun k=>BV U (l.getD k BL)).map Aj)),(15,sl A0 U),(16,vi (U.map A0).length),(17,vi q.1)],[(7,.tok 6 q.1)],Af⟩) (Xi (fun q=>U.length-q.1) (Yi (Xi ⟨0,Ao _⟩ ?_) ?_)))))))))
 .exact⟨Z6,Z1,Fh,Tv⟩
 intro⟨i,i1⟩;have i1:i<=U.length:=i1;have GH:((U.take i).map fun k=>BV U (l.getD k BL)).length=i:=by rw[Lm,AC];omega
 refine Yi (fun h1=>?_) (fun h1=>?_)
 .have h1:(i:Int)<((U.map A0).length:Int):=h1;have n1:i<U.length:=by have q:=h1;rw[Lm]at q;omega
  have g1:U[i]?=some U[i]:=Ge n1;have gy:l[U[i]]?=some (l.getD U[i] BL):=Wl (nI _ (Ah n1));refine Xi (A0 U[i]) (Yi (Yi (Nn i) (AM g1)) (Yi rfl (Xi (Aj (l.getD U[i] BL)) (Yi (Yi (show(0:Int)<=(U[i]:Nat) by omega) (AM gy)) (Yi rfl (yN (yN (cU [(0,sl Aj l),(6,.clo 53 [.cptr [sl A0 U]]),(7,.slice (.id 7 6) (((U.take i).map fun k=>BV U (l.getD k BL)).map Aj)),(10,.ref 10 0),(15,sl A0 U),(16,vi (U.map A0).length),(17,vi i)] [(7,.tok 6 i),(10,.cells (Aj (l.getD U[i] BL)))] Z7 Z2 (Yi (fun h2=>?_) (fun h2=>?_))))))))))
  .have h2:((l.getD U[i] BL).kind:Int)=(3:Int):=h2;refine Xi _ (Yi (e53 U (l.getD U[i] BL).left nH) (Xi _ (Yi (e53 U (l.getD U[i] BL).right nH) (yN (yN (Yi aa3 (cU [(0,sl Aj l),(6,.clo 53 [.cptr [sl A0 U]]),(7,.slice (.id 7 6) (((U.take i).map fun k=>BV U (l.getD k BL)).map Aj)),(10,.ref 10 0),(15,sl A0 U),(16,vi (U.map A0).length),(17,vi i)] [(7,.tok 6 i),(10,.cells [vi (l.getD U[i] BL).kind,vs (l.getD U[i] BL).path,vi (l.getD U[i] BL).place,vi (l.getD U[i] BL).number,vi (EJ U (l.getD U[i] BL).left),vi (EJ U (l.getD U[i] BL).right)])] Z7 Z2 (yN ?_))))))));have b3:AZ 6 [[vi (l.getD U[i] BL).kind,vs (l.getD U[i] BL).path,vi (l.getD U[i] BL).place,vi (l.getD U[i] BL).number,vi (EJ U (l.getD U[i] BL).left),vi (EJ U (l.getD U[i] BL).right)]]/\(((U.take i).map fun k=>BV U (l.getD k BL)).map Aj).length=i/\((((U.take i).map fun k=>BV U (l.getD k BL)).map Aj).length+([[vi (l.getD U[i] BL).kind,vs (l.getD U[i] BL).path,vi (l.getD U[i] BL).place,vi (l.getD U[i] BL).number,vi (EJ U (l.getD U[i] BL).left),vi (EJ U (l.getD U[i] BL).right)]]:List (List AV)).length)*56<=140737488355328/\(((U.take i).map fun k=>BV U (l.getD k BL)).map Aj).length+([[vi (l.getD U[i] BL).kind,vs (l.getD U[i] BL).path,vi (l.getD U[i] BL).place,vi (l.getD U[i] BL).number,vi (EJ U (l.getD U[i] BL).left),vi (EJ U (l.getD U[i] BL).right)]]:List (List AV)).length<=9223372036854775807:=⟨⟨rfl,trivial⟩,(by simp only[Lm,AC];omega),(by simp only[Lm,Av,AA,AC];omega),(by simp only[Lm,Av,AA,AC];omega)⟩;refine Yi b3 (Yi (Ii i aa0) ?_);have hy:[vi (l.getD U[i] BL).kind,vs (l.getD U[i] BL).path,vi (l.getD U[i] BL).place,vi (l.getD U[i] BL).number,vi (EJ U (l.getD U[i] BL).left),vi (EJ U (l.getD U[i] BL).right)]=Aj (BV U (l.getD U[i] BL)):=by unfold BV;rw[AE h2];try rfl
   have ht:(U.take (i+1)).map (fun k=>BV U (l.getD k BL))=(U.take i).map (fun k=>BV U (l.getD k BL))++[BV U (l.getD U[i] BL)]:=by rw[A6 n1,AB];rfl
   refine Xi ⟨i+1,by omega⟩ ?_;exact⟨Dl U.length i aa0,⟨Zr,Zr,⟨(show AV.slice (.id 7 6) (((U.take i).map fun k=>BV U (l.getD k BL)).map Aj++[[vi (l.getD U[i] BL).kind,vs (l.getD U[i] BL).path,vi (l.getD U[i] BL).place,vi (l.getD U[i] BL).number,vi (EJ U (l.getD U[i] BL).left),vi (EJ U (l.getD U[i] BL).right)]])=.slice (.id 7 6) (((U.take (i+1)).map fun k=>BV U (l.getD k BL)).map Aj) by rw[ht,AB,hy];rfl),rfl⟩,Zr,Zr,Zr,Tv⟩,⟨⟨(show HO.tok 6 ((((U.take i).map fun k=>BV U (l.getD k BL)).map Aj).length+([[vi (l.getD U[i] BL).kind,vs (l.getD U[i] BL).path,vi (l.getD U[i] BL).place,vi (l.getD U[i] BL).number,vi (EJ U (l.getD U[i] BL).left),vi (EJ U (l.getD U[i] BL).right)]]:List (List AV)).length)=.tok 6 (i+1) by rw[Lm,GH];rfl),rfl⟩,Tv⟩,Fh,Tv⟩
  have h2:¬(((l.getD U[i] BL).kind:Int)=(3:Int)):=h2;refine cU [(0,sl Aj l),(6,.clo 53 [.cptr [sl A0 U]]),(7,.slice (.id 7 6) (((U.take i).map fun k=>BV U (l.getD k BL)).map Aj)),(10,.ref 10 0),(15,sl A0 U),(16,vi (U.map A0).length),(17,vi i)] [(7,.tok 6 i),(10,.cells (Aj (l.getD U[i] BL)))] Z7 Z2 (yN ?_);have b5:AZ 6 [(Aj (l.getD U[i] BL))]/\(((U.take i).map fun k=>BV U (l.getD k BL)).map Aj).length=i/\((((U.take i).map fun k=>BV U (l.getD k BL)).map Aj).length+([(Aj (l.getD U[i] BL))]:List (List AV)).length)*56<=140737488355328/\(((U.take i).map fun k=>BV U (l.getD k BL)).map Aj).length+([(Aj (l.getD U[i] BL))]:List (List AV)).length<=9223372036854775807:=⟨⟨rfl,trivial⟩,(by simp only[Lm,AC];omega),(by simp only[Lm,Av,AA,AC];omega),(by simp only[Lm,Av,AA,AC];omega)⟩;refine Yi b5 (Yi (Ii i aa0) ?_);have hy:(Aj (l.getD U[i] BL))=Aj (BV U (l.getD U[i] BL)):=by unfold BV;rw[Aw h2];try rfl
  have ht:(U.take (i+1)).map (fun k=>BV U (l.getD k BL))=(U.take i).map (fun k=>BV U (l.getD k BL))++[BV U (l.getD U[i] BL)]:=by rw[A6 n1,AB];rfl
  refine Xi ⟨i+1,by omega⟩ ?_;exact⟨Dl U.length i aa0,⟨Zr,Zr,⟨(show AV.slice (.id 7 6) (((U.take i).map fun k=>BV U (l.getD k BL)).map Aj++[(Aj (l.getD U[i] BL))])=.slice (.id 7 6) (((U.take (i+1)).map fun k=>BV U (l.getD k BL)).map Aj) by rw[ht,AB,hy];rfl),rfl⟩,Zr,Zr,Zr,Tv⟩,⟨⟨(show HO.tok 6 ((((U.take i).map fun k=>BV U (l.getD k BL)).map Aj).length+([(Aj (l.getD U[i] BL))]:List (List AV)).length)=.tok 6 (i+1) by rw[Lm,GH];rfl),rfl⟩,Tv⟩,Fh,Tv⟩
 have h1:¬((i:Int)<((U.map A0).length:Int)):=h1;have n1:¬i<U.length:=by have q:=h1;rw[Lm]at q;omega
 exact .of_eq (show sl Aj ((U.take i).map fun k=>BV U (l.getD k BL))=sl Aj (De l target) by unfold De;rw[<-hU,AK aa0])
structure lW(y:Nf):Prop where
 path:H8 y.path
 place:y.kind=1->Al y.place
 number:y.kind=0->-9223372036854775808<=y.number/\y.number<9223372036854775807
 refs:y.kind=3->(-9223372036854775808<=y.left/\y.left<9223372036854775807)/\(-9223372036854775808<=y.right/\y.right<9223372036854775807)
 kinds:y.kind=0\/y.kind=1\/y.kind=2\/y.kind=3
theorem OI(h0:-9223372036854775808<=n)(h1:n<=9223372036854775807):(Gm n++I4).size<=22:=by
 have:=FV h0 h1
 rw[AY];show _+1<=_;omega
theorem XD(p:ByteArray)(pl:Int):(Pk p pl++I4).size<=66:=by
 have:=RD p pl
 rw[AY];show _+1<=_;omega
theorem yO(y:Nf)(hn:lW y):PC 112 [.agg (Aj y)] (vs (Fe y)):=by
 have hkd:=hn.kinds;refine Ps Cu Tryz.func112 rfl (Nz rfl) (Yi (fun h1=>?_) (fun h1=>?_))
 .have h1:(y.kind:Int)=(0:Int):=h1;have hq1:=hn.number h1;refine Yi (by show Al ((y.number:Int)+(1:Int));unfold Al;omega) (Xi .pure (Xi _ (Yi (t6 (y.number+1) (by unfold Al;omega)) (Yi (G5 (AL (FV aa0 aa0) aa2) aa2) (Xi .pure (Xi _ (Yi (d8 [(⟨#[40,114,111,111,116]⟩:ByteArray),(Gm (y.number+1))++(⟨#[41]⟩:ByteArray)] aa1 (EH (B:=1048576) (Bf.2 ⟨aa2,Bf.2 ⟨(AL (OI aa0 aa0) aa2),Fq _⟩⟩) aa1)) ?_)))))));exact .of_eq (show vs (CP [(⟨#[40,114,111,111,116]⟩:ByteArray),(Gm (y.number+1))++(⟨#[41]⟩:ByteArray)])=vs (Fe y) by unfold Fe;rw[AE h1];try rfl)
 have h1:¬((y.kind:Int)=(0:Int)):=h1;refine Yi (fun h3=>?_) (fun h3=>?_)
 .have h3:(y.kind:Int)=(1:Int):=h3;have hq4:=hn.place h3;refine Xi _ (Yi (e75 y.path y.place hn.path.s hq4) (Yi (G5 (AL (RD _ _) aa2) aa2) (Xi _ (Yi (d8 [(⟨#[40,98,121]⟩:ByteArray),y.path,(Pk y.path y.place)++(⟨#[41]⟩:ByteArray)] aa1 (EH (B:=1048576) (Bf.2 ⟨aa2,Bf.2 ⟨(show y.path.size<=1048576 from hn.path),Bf.2 ⟨(AL (XD _ _) aa2),Fq _⟩⟩⟩) aa1)) ?_))));refine Yi aa3 ?_;exact .of_eq (show vs (CP [(⟨#[40,98,121]⟩:ByteArray),y.path,(Pk y.path y.place)++(⟨#[41]⟩:ByteArray)])=vs (Fe y) by unfold Fe;rw[Aw h1];rw[AE h3];try rfl)
 have h3:¬((y.kind:Int)=(1:Int)):=h3;refine Yi (fun h5=>?_) (fun h5=>?_)
 .have h5:(y.kind:Int)=(2:Int):=h5;exact .of_eq (show vs ⟨#[40,110,111,32,111,116,104,101,114,32,114,101,108,101,97,115,101,115,41]⟩=vs (Fe y) by unfold Fe;rw[Aw h1];rw[Aw h3];rw[AE h5];try rfl)
 have h5:¬((y.kind:Int)=(2:Int)):=h5;have hq2:=hn.refs aa0;refine Yi (by show Al ((y.left:Int)+(1:Int));unfold Al;omega) (Xi _ (Yi (t6 (y.left+1) (by unfold Al;omega)) (Yi (by show Al ((y.right:Int)+(1:Int));unfold Al;omega) (Xi _ (Yi (t6 (y.right+1) (by unfold Al;omega)) (Yi (G5 (AL (FV aa0 aa0) aa2) aa2) (Xi _ (Yi (d8 [(⟨#[40,102,114,111,109]⟩:ByteArray),(Gm (y.left+1)),(⟨#[97,110,100]⟩:ByteArray),(Gm (y.right+1))++(⟨#[41]⟩:ByteArray)] aa1 (EH (B:=1048576) (Bf.2 ⟨aa2,Bf.2 ⟨(AL (FV aa0 aa0) aa2),Bf.2 ⟨aa2,Bf.2 ⟨(AL (OI aa0 aa0) aa2),Fq _⟩⟩⟩⟩) aa1)) ?_))))))));refine Yi aa3 ?_;exact .of_eq (show vs (CP [(⟨#[40,102,114,111,109]⟩:ByteArray),(Gm (y.left+1)),(⟨#[97,110,100]⟩:ByteArray),(Gm (y.right+1))++(⟨#[41]⟩:ByteArray)])=vs (Fe y) by unfold Fe;rw[Aw h1];rw[Aw h3];rw[Aw h5];rfl)
structure Np(t:List Tm):Prop where
 len:t.length<=500000
 few:∀u∈t,BB u.set
 path:∀u∈t,H8 u.path
theorem Np.canon{l c:List Tm}(h:Np l)(e:AW l=some c):Np c where
 len:=AL (Oe e) h.len
 few:=fun t ht=>GG ((F0 e).canon t ht)
 path:=fun t ht=>by
  obtain⟨u,hu,q⟩:=KC e t ht;rw[q];exact h.path u hu
theorem fj{c:List Tm}(h:Np c):(Yr c).size<=90000000000000:=by
 have hl:=Wy c;have hc:=h.len;have h1:=GA (sep:=IJ) aa2 h.path (Ke c) aa0;have h2:=GA (sep:=VW) aa2 h.path (Kn c) aa0;have a1:=El IJ 140000000 (A7 c) (fun x hx=>by
  obtain⟨t,ht,rfl⟩:=Ke c x hx;exact Jm (h.path t ht))
 have a2:=El VW 140000000 (Br c) (fun x hx=>by
  obtain⟨t,ht,rfl⟩:=Kn c x hx;exact Jm (h.path t ht))
 have e1:IJ.size=5:=rfl;have e2:VW.size=4:=rfl;rw[e1]at a1;rw[e2]at a2;have e3:bU.size=18:=rfl;have e4:mB.size=14:=rfl;have e5:wA.size=19:=rfl;have e6:Q6.size=10:=rfl;have e7:VV.size=7:=rfl;have e8:bS.size=6:=rfl;have key:(Bk IJ (A7 c)).size+(Bk VW (Br c)).size<=70000002500000:=by omega
 clear a1 a2 h1 h2
 unfold Yr
 repeat' split
 all_goals (try simp only[AY])
 all_goals omega
theorem IP{l:List Tm}(h:Np l):(BD l).size<=90000000000000:=by
 unfold BD;cases e:AW l with
 |none=>decide
 |some c=>exact fj (h.canon e)
theorem O0{y:Nf}(h:lW y):(Fe y).size<=5000000:=by
 have hp:y.path.size<=1048576:=h.path;have e0:BE.size=1:=rfl;unfold Fe;split
 .rename_i k;have q:=h.number k
  have:=El BE 1048576 [ir,Gm (y.number+1)++I4] (Bf.2 ⟨by decide,Bf.2 ⟨AL (OI aa0 aa0) aa2,Fq _⟩⟩)
  rw[e0]at this;simp only[Av,AA]at this;omega
 .split
  .have:=El BE 1048576 [xk,y.path,Pk y.path y.place++I4] (Bf.2 ⟨by decide,Bf.2 ⟨hp,Bf.2 ⟨AL (XD _ _) aa2,Fq _⟩⟩⟩)
   rw[e0]at this;simp only[Av,AA]at this;omega
  .split
   .decide
   .rename_i k0 k1 k2;have q:=h.refs (by have:=h.kinds;omega)
    have:=El BE 1048576 [ip,Gm (y.left+1),io,Gm (y.right+1)++I4] (Bf.2 ⟨by decide,Bf.2 ⟨AL (FV aa0 aa0) aa2,Bf.2 ⟨by decide,Bf.2 ⟨AL (OI aa0 aa0) aa2,Fq _⟩⟩⟩⟩)
    rw[e0]at this;simp only[Av,AA]at this;omega
def I2(x:List Rl)(roots:List Rq)(l:List Nf):Prop:=∀p∈Fk x roots l,H8 p
theorem JE(hP:I2 x roots l)(h:(Ax x roots l).2=0):∀t∈(Ax x roots l).1,Np t:=fun t ht=>by
 obtain⟨h1,h2,h3,h4⟩:=DN h;have hu:=LC (l0:=l) l [] _ (fun _ h=>h) (fun _ h=>by cases h) h4 t ht;have hf:=hu.fewI (Jh h1 h2 h3)
 have:=hu.len
 have:=Jh h1 h2 h3
 exact⟨by omega,hf.2,fun u fg=>hP _ (hu.2 u fg)⟩
theorem d4{d:List (List Tm)}(hr:roots.length<=1073741824)(hl:l.length<=1073741824)(h:Bu x roots l []=some d)(hi:i<l.length)(hp:H8 (l.getD i BL).path):lW (l.getD i BL):=by
 have Qw:=Pt h hi;have Pf:=(IV h).2 i hi;have QY:d.length=l.length:=(IV h).1;refine⟨hp,fun k=>?_,fun k=>?_,fun k=>?_,Qw.2.2.2⟩
 .have:=Qw.2.1 k;unfold Al;omega
 .unfold AP at Pf;rw[AE k]at Pf;split at Pf
  .cases e:Di roots (l.getD i BL).number with
   |none=>rw[e]at Pf;cases Pf
   |some q=>have:=IQ e;omega
  .cases Pf
 .obtain⟨a,b,ha,hb,_⟩:=Mx Pf k;have h1:=IQ ha;have h2:=IQ hb;rw[AC]at h1 h2;omega
theorem di(hP:I2 x roots l)(hr:roots.length<=1073741824)(h:(Ax x roots l).2=0){t:Nat}(ht:t<l.length):∀y∈De l t,lW y:=by
 obtain⟨h1,h2,h3,h4⟩:=DN h;have hD:=JD h4 ht;have Cy:(De l t).length<=l.length:=by unfold De;rw[Lm];exact MM
 intro y hy;obtain⟨i,hi,e⟩:=Ev hy;have ey:(De l t).getD i BL=y:=by rw[Bq,Ge hi];exact e
 have hp:H8 y.path:=by
  unfold De at hy;obtain⟨k,hk,rfl⟩:=Ay.1 hy;have hk':=Pa k hk;have e1:(BV (Dv l t) (l.getD k BL)).path=(l.getD k BL).path:=by unfold BV;split<;>rfl
  rw[e1];refine hP _ ?_;unfold Fk;refine Bj _ (Bj _ (Bj _ (Ay.2 ⟨_,AO (Wl hk'),rfl⟩)))
 have:=d4 hr aa0 hD hi (by rw[ey];exact hp)
 rwa [ey]at this
end Go.Eng
namespace Go.Proofs.YtpgfieopnnkpfaaGreatDoor.joins
open Go Go.Eng Go.Proofs Go.ChangeShapes Go.WideShapes Go.ChangeAt Go.RowKit
theorem own:ownKnob Tryz.prog.godebug=none:=by kernel_rfl
def flatD:Nat->DataW Unit->List Value
 |0,_=>[]
 |n+1,.agg l=>l.flatMap (flatD n)
 |_+1,.lit (.int k i)=>[.int k i]
 |_+1,_=>[]
def layIn(d:DataW Unit):Obj->Obj
 |.cells _ t frozen=>.cells (flatD 4 d).toArray t frozen
 |o=>o
noncomputable def laidWorld(os:Os):World:=
 { World.holding Tryz.prog os ⟨#[],#[],[]⟩with heap:=(((((World.holding Tryz.prog os ⟨#[],#[],[]⟩).heap.modify 3 (layIn Rows.laid_internal_strconv_uint64pow10)).modify 4 (layIn Rows.laid_math_bits_deBruijn32tab)).modify 5 (layIn Rows.laid_math_bits_deBruijn64tab)).modify 6 (layIn Rows.laid_unicode_utf8_first)).modify 7 (layIn Rows.laid_unicode_utf8_acceptRanges) }
abbrev nilV:Value:=.slice none 0 0
theorem arr1{args:Array Value}{a:Value}(h:args.toList=[a]):args=#[a]:=by
 cases args;simp_all
theorem arr2{args:Array Value}{a b:Value}(h:args.toList=[a,b]):args=#[a,b]:=by
 cases args;simp_all
theorem arr3{args:Array Value}{a b c:Value}(h:args.toList=[a,b,c]):args=#[a,b,c]:=by
 cases args;simp_all
theorem arr4{args:Array Value}{a b c d:Value}(h:args.toList=[a,b,c,d]):args=#[a,b,c,d]:=by
 cases args;simp_all
theorem arr5{args:Array Value}{a b c d e:Value}(h:args.toList=[a,b,c,d,e]):args=#[a,b,c,d,e]:=by
 cases args;simp_all
theorem oU16{H:Type}{enc:TypeId×Value->H}{w:World}:Op enc w 51 (fun n:Int=>[.v (.int .u16 n)]) (fun n=>0<=n/\n<=65535):=(PQ Tryz.underlying51).to id (fun _ h=>⟨rfl,h⟩)
theorem oInt{H:Type}{enc:TypeId×Value->H}{w:World}:Op enc w 3 (fun n:Int=>[vi n]) Al:=(PQ Tryz.underlying3).to id (fun x h=>⟨rfl,by
  have h1:(-9223372036854775808:Int)<=x:=h.1
  have h2:x<=(9223372036854775807:Int):=h.2
  show -9223372036854775808<=x/\x<9223372036854775808
  omega⟩)
theorem short_of{x:List Rl}{roots:List Rq}{l:List Nf}(h:x.length<=NB/\∀r∈x,OkRl r)(k:OkRqs roots)(q:l.length<=NB/\∀i∈l,i.path.size<=NB):I2 x roots l:=fun p hp=>by
 unfold Fk at hp
 rcases Bz.1 hp with hp | hp
 .obtain⟨r,hr,rfl⟩:=Ay.1 hp
  exact(h.2 r hr).1
 .rcases Bz.1 hp with hp | hp
  .obtain⟨y,hy,rfl⟩:=Ay.1 hp
   obtain⟨g,hg,hyg⟩:=In.1 hy
   obtain⟨r,hr,rfl⟩:=Ay.1 hg
   exact((h.2 r hr).2.2 y hyg).1
  .rcases Bz.1 hp with hp | hp
   .obtain⟨y,hy,rfl⟩:=Ay.1 hp
    exact(k.2 y hy).1
   .obtain⟨y,hy,rfl⟩:=Ay.1 hp
    exact q.2 y hy
theorem looksOff:true=Tryz.pinned.checked.prog.looks []:=by kernel_rfl
theorem noStand:∀t∈([42,43,32,51,66,3,23]:List Nat),Tryz.pinned.checked.prog.wantsStandIn t=false:=by
 intro t ht
 simp only[AN,Eb,L7]at ht
 rcases ht with rfl | rfl | rfl | rfl | rfl | rfl | rfl<;>exact(show Tryz.prog.wantsStandIn _=false by kernel_rfl)
end Go.Proofs.YtpgfieopnnkpfaaGreatDoor.joins
namespace Go.Proofs.YtpgfieopnnkpfaaGreatDoor.joins
open Go Go.Eng Go.Proofs Go.ChangeShapes Go.WideShapes Go.ChangeAt Go.RowKit
abbrev OkAnP(a:An):Prop:=a.infs.length<=NB/\∀i∈a.infs,i.path.size<=NB
theorem oAnP{H:Type}{enc:TypeId×Value->H}{w:World}:Op enc w 66 Iz OkAnP:=
 (Dz bulk_ok Tryz.underlying66 (L:=4) aa3 (A2 rfl (n:=1) aa3 oB (A2 rfl (n:=1) aa3 oSls (A2 rfl (n:=1) aa3 oNfs
  (A2 rfl (n:=1) aa3 oSks Em))))).to
  (fun p=>(⟨p.1,p.2.1,p.2.2.1,p.2.2.2.1⟩:An)) (fun _ h=>⟨rfl,h.2.2.1⟩)
end Go.Proofs.YtpgfieopnnkpfaaGreatDoor.joins
namespace Go.Eng
open Go.Proofs
variable {Y:Gh->World->Prop}{P:Program}{i:Nat}(own:List Nf)(d:List (List Tm))(L:List ByteArray)(x:List Rl)(U:List Nat)(kept:List (List Tm))
theorem J7.pre{Y':Gh->World->Prop}{l:Nat}{args:List AV}{h0:Nat->HO}{Q:AV->(Nat->HO)->Prop}(h:J7 P Y l args h0 Q)(hp:∀g w,Y' g w->Y g w):J7 P Y' l args h0 Q:=
 fun g w vals q1 q2 q3 q4=>h g w vals q1 q2 q3 (hp g w q4)
abbrev vE:JT:=[(1000,1000),(1001,1001)]
abbrev gV(k:Nat):List (Nat×HO):=[(1000,.cells [.slice (.id 1001 1) ((L.take k).map Ag)]),(1001,.tok 1 ((L.take k).map Ag).length)]
noncomputable abbrev cxy(pl:Nm)(l:Nat)(Y:Gh->World->Prop):Cx:=⟨Tryz.prog,pa,pl,true,0,fun l' σ' g w=>l'=l->σ'=vE->Y g w⟩
abbrev Dg:List ByteArray:=KM SW own kept
theorem SX:(Dg own kept).length=own.length:=by unfold Dg KM;rw[Lm,Es]
theorem fx(h1:i<own.length)(h2:i<kept.length):(Dg own kept)[i]?=some (SW i kept[i] own[i]):=by
 unfold Dg KM;rw[BX,List.getElem?_range h1];simp only[Option.map_some];rw[Bq,Bq,Ge h1,Ge h2];rfl
theorem ku{s:ByteArray}(h:L[i]?=some s):L.take (i+1)=L.take i++[s]:=by rw[B9,h];rfl
theorem e58:PC 58 [sl Aj own,sl Ap kept] (.clo 111 [.cptr [sl Aj own],.cptr [sl Ap kept]]):=by
 refine Ps (pC [2,3] []) Tryz.func58 rfl (Nz rfl) ?_;exact .refl _
theorem km{n:Int}(h0:-9223372036854775808<=n)(h1:n<=9223372036854775807):(Gm n++RF).size<=22:=by
 have:=FV h0 h1
 rw[AY];show _+1<=_;omega
theorem yM(l:Nat)(own:List Nf)(kept:List (List Tm))(Cy:kept.length=own.length)(hn:own.length<=1073741824)(MX:∀y∈own,lW y)(cz:∀t∈kept,Np t)(hy:∀i s,i<own.length->(Dg own kept)[i]?=some s->J7 Tryz.prog Y l [vs s] (Ar (gV (Dg own kept) i) Af) fun r h'=>r=vb true/\h'=Ar (gV (Dg own kept) (i+1)) Af) :
  Xp Tryz.prog Y vE 111 [.v (.func (.yield l) #[] #[]),.cptr [sl Aj own],.cptr [sl Ap kept]] (Ar (gV (Dg own kept) 0) Af) fun _ h'=>h'=Ar (gV (Dg own kept) own.length) Af:=by
 refine j9 (l:=l) (cxy ⟨[],[],[],[],[],[],[],[],[(27,4)],[],[3,4]⟩ l Y) vE rfl B8 hm rfl Tryz.func111 aa3 rfl (Nz rfl) aa3 rfl rfl (Xi {i:Nat // i<=own.length} (Xi (fun q=>⟨[(0,.v (.func (.yield l) #[] #[])),(2,.cptr [sl Ap kept]),(6,sl Aj own),(7,vi (own.map Aj).length),(8,vi q.1)],[(1000,.cells [.slice (.id 1001 1) (((Dg own kept).take q.1).map Ag)]),(1001,.tok 1 (((Dg own kept).take q.1).map Ag).length)],Af⟩) (Xi (fun q=>own.length-q.1) (Yi (Xi ⟨0,Ao _⟩ ?_) ?_))))
 .exact⟨Z5,Z2,Fh,Cr aa3⟩
 intro⟨i,i1⟩;have i1:i<=own.length:=i1;refine Yi (fun h1=>?_) (fun h1=>?_)
 .have h1:(i:Int)<((own.map Aj).length:Int):=h1;have n1:i<own.length:=by have q:=h1;rw[Lm]at q;omega
  have g1:own[i]?=some own[i]:=Ge n1;have wR:i<kept.length:=by omega
  have gk:kept[i]?=some kept[i]:=Ge wR;have hoi:=MX own[i] (Ah n1);have wV:=cz kept[i] (Ah wR);have hLi:=fx own kept n1 wR;refine Xi (Aj own[i]) (Yi (Yi (Nn i) (AM g1)) (Yi rfl (yN (yN (cU [(0,.v (.func (.yield l) #[] #[])),(2,.cptr [sl Ap kept]),(4,vi i),(5,.ref 5 0),(6,sl Aj own),(7,vi (own.map Aj).length),(8,vi i)] [(5,.cells (Aj own[i])),(1000,.cells [.slice (.id 1001 1) (((Dg own kept).take i).map Ag)]),(1001,.tok 1 (((Dg own kept).take i).map Ag).length)] Z7 Z3 (Yi (Ii i aa0) (Xi _ (Yi (t6 (i+1) (by unfold Al;omega)) (Yi (G5 (AL (FV aa0 aa0) aa2) aa2) (Xi (Ap kept[i]) (Yi (Yi (Nn i) (AM gk)) (Yi rfl (Xi _ (Yi (e15 kept[i] wV.len wV.few wV.path) (yN (Xi _ (Yi (yO own[i] hoi) (Xi _ (Yi (show PC 44 [sl Ag [(Gm (i+1))++(⟨#[46]⟩:ByteArray),(BD kept[i]),(Fe own[i])]] (vs (SW i kept[i] own[i]))from d8 [(Gm (i+1))++(⟨#[46]⟩:ByteArray),(BD kept[i]),(Fe own[i])] aa1 (EH (B:=90000000000000) (Bf.2 ⟨AL (km aa0 aa0) aa2,Bf.2 ⟨IP wV,Bf.2 ⟨AL (O0 hoi) aa2,Fq _⟩⟩⟩) aa1)) ?_)))))))))))))))))));refine Yi ⟨rfl,rfl⟩ (Xi (.bool true) (Xi (((Dg own kept).take (i+1)).map Ag) (Xi (((Dg own kept).take (i+1)).map Ag).length (Yi (J7.pre (hy i (SW i kept[i] own[i]) n1 hLi) (fun g w q=>q rfl rfl)) (Yi aa3 (cU [(0,.v (.func (.yield l) #[] #[])),(2,.cptr [sl Ap kept]),(6,sl Aj own),(7,vi (own.map Aj).length),(8,vi i)] [(1000,.cells [.slice (.id 1001 1) (((Dg own kept).take (i+1)).map Ag)]),(1001,.tok 1 (((Dg own kept).take (i+1)).map Ag).length)] Z5 Z2 (Yi (Ii i aa0) (Xi ⟨i+1,by omega⟩ ?_))))))));exact⟨Dl own.length i aa0,Z5,Z2,Fh,Cr aa3⟩
 have h1:¬((i:Int)<((own.map Aj).length:Int)):=h1;have n1:¬i<own.length:=by have q:=h1;rw[Lm]at q;omega
 have hie:i=own.length:=by omega
 exact(show Ar (gV (Dg own kept) i) Af=Ar (gV (Dg own kept) own.length) Af by rw[hie])
theorem rY{dY:Cx}{N:Nat}{fn:Func}{Gz:AV}{b rest:Code}{st:St}(σF σ:JT)(H0 Hn:List (Nat×HO))(gf:Nat)(caps:List AV){pq s:Nat}{ps:Array Tmp}{GO body:Code}(hb:b=.block pq (.rangeFunc (.tmp s) ps GO body))(k1:(D3 σF&&DO st.h 0 0&&CI σF 0 0)=true)(k2:F8 σF st.h=Ar H0 Af)(k3:(HF σ&&I7 σ H0)=true)(k4:I7 σ Hn=true)(k5:ren (Cp σF) st.h (st.t s)=.clo gf caps)(k6:∀(l D:Nat) (f' : FuncId) (tm:Array Value),tm.size=N->Xp P (fun g w=>w.heap[l]?=some (.loop (H1 f' tm ps GO body D .ready))/\∀i,A5 g w (used (Ar H0 Af)) (ren (Cp σF) st.h (st.t i)) (tm.getD i undef)) σ gf
   (.v (.func (.yield l) #[] #[])::caps) (Ar H0 Af) fun _ h'=>h'=Ar Hn Af)(k7:Ee N rest=true)(kb:Od [] body=false)(k8:Pl dY rest (aj dY fn.results.toList fun r=>DC r Gz) ⟨fun i=>ren (Cp σF) st.h (st.t i),Ar Hn Af⟩):RfK dY P N fn Gz b rest st:=
 ⟨σF,σ,H0,Hn,pq,s,ps,GO,body,gf,caps,hb,k1,k2,k3,k4,k5,k6,k7,kb,k8⟩
theorem kw(a b:Nat):∀i,used (Ar (gV L a) Af) i->used (Ar (gV L b) Af) i:=by
 intro i h;unfold used at *
 by_cases e:i=1000
 .subst e;intro q;cases q
 .by_cases e' : i=1001
  .subst e';intro q;cases q
  .exfalso;apply h
   simp only[Ar,Ds e,Ds e',GE];rfl
abbrev WI(roots:List Rq)(l:List Nf)(target:Int):AV:=.tup [sl Ag (FH x roots l target).1,vi (FH x roots l target).2]
theorem WJ{x:List Rl}{roots:List Rq}{l:List Nf}{target e:Int}(h:FH x roots l target=([],e)):DC (.tup [nzA,vi e]) (WI x roots l target):=
 (show DC (.tup [nzA,vi e]) (.tup [.slice .none [],vi e])from DC.tup ⟨.nil,.refl _,trivial⟩).trans (.of_eq (show AV.tup [.slice .none [],vi e]=WI x roots l target by unfold WI;rw[h];rfl))
abbrev kp(i:Nat):List (List Tm):=(U.take i).map fun k=>d.getD k []
theorem oo(i:Nat)(h:i<U.length):kp d U (i+1)=kp d U i++[d.getD U[i] []]:=by
 unfold kp;rw[A6 h,AB];rfl
theorem Sr{d:List (List Tm)}(h:i<d.length):d[i]?=some (d.getD i []):=by
 rw[Bq,Ge h];rfl
theorem e24(ifs:List (List AV))(roots:List Rq)(l:List Nf)(target:Int)(hk:Ck x ifs roots)(hl:BB l)(ht:Al target)(hr:roots.length<=1073741824)(hP:I2 x roots l):PC 24 [Jx x ifs,sl Ad roots,sl Aj l,vi target] (WI x roots l target):=by
 have u7:=c12 x ifs roots l hk;have hl:l.length<=1073741824:=hl;have ZC:(l.map Aj).length=l.length:=Lm _;obtain⟨d,hd⟩:∃d,d=(Ax x roots l).1:=⟨_,rfl⟩;obtain⟨ee,he⟩:∃ee,ee=(Ax x roots l).2:=⟨_,rfl⟩;rw[<-hd,<-he]at u7;have nI:∀i∈Dv l target,i<l.length:=Pa;have uv:=MM (l:=l) (target:=target);have QX:=yP l target hl ht;obtain⟨U,hU⟩:∃U,U=Dv l target:=⟨_,rfl⟩;rw[<-hU]at nI uv QX;have Wn:=e21 l target hl ht;obtain⟨own,fb⟩:∃own,own=De l target:=⟨_,rfl⟩;have hwl:own.length=U.length:=by rw[fb];unfold De;rw[Lm,hU]
 rw[<-fb]at Wn;refine kW (ab ⟨[4],[(12,1)],[],[],[],[],[],[(53,(15,0,16,1))],[],[],[2,4,5,6,10,11,16]⟩) (Mt Cu) rfl B8 rfl B8 hm rfl rfl Tryz.func24 aa3 rfl (Nz rfl) aa3 7 (fun _ _=>Zr) (yN (Xi .pure (Xi _ (Yi u7 (cU [(2,sl Aj l),(3,vi (target:Int)),(10,sl Ap d),(11,vi ee)] [] Z4 Tv (Yi (fun h1=>?_) (fun h1=>?_)))))))
 .have h1:(ee:Int)≠(0:Int):=h1;exact WJ (by unfold FH;rw[AE (by rw[<-he];exact h1),<-he])
 have h1:(ee:Int)=(0:Int):=AQ h1;have l4:(Ax x roots l).2=0:=by rw[<-he];exact h1
 obtain⟨q1,q2,q3,q4⟩:=DN l4;have QY:d.length=l.length:=by rw[hd];exact(IV q4).1
 have uV:∀t∈d,Np t:=by rw[hd];exact JE hP l4
 refine cU [(2,sl Aj l),(3,vi (target:Int)),(10,sl Ap d)] [] Z3 Tv (Yi (fun h3=>?_) (fun h3=>?_))
 .have h3:((target:Int):Int)<(0:Int):=h3;refine cU [] [] Tv Tv ?_
  exact WJ (by unfold FH;rw[Aw (fun h=>h l4),AE (.inl h3)])
 have h3:¬(((target:Int):Int)<(0:Int)):=h3;refine Yi (fun h5=>?_) (fun h5=>?_)
 .have h5:((l.map Aj).length:Int)<=((target:Int):Int):=h5;refine cU [] [] Tv Tv ?_
  exact WJ (by unfold FH;rw[Aw (fun h=>h l4),AE (.inr (by have q:=h5;rw[ZC]at q;exact q))])
 have h5:¬(((l.map Aj).length:Int)<=((target:Int):Int)):=h5;refine cU [(2,sl Aj l),(3,vi (target:Int)),(10,sl Ap d)] [] Z3 Tv (Xi .pure (Xi _ (Yi QX (Xi {i:Nat // i<=U.length} (Xi (fun q=>⟨[(2,sl Aj l),(3,vi (target:Int)),(10,sl Ap d),(12,.slice (.id 12 1) ((kp d U q.1).map Ap)),(37,sl A0 U),(38,vi (U.map A0).length),(39,vi q.1)],[(12,.tok 1 q.1)],Af⟩) (Xi (fun q=>U.length-q.1) (Yi (Xi ⟨0,Ao _⟩ ?_) ?_)))))))
 .exact⟨Z7,Z1,Fh,Tv⟩
 intro⟨i,i1⟩;have i1:i<=U.length:=i1;have GH:(kp d U i).length=i:=by unfold kp;rw[Lm,AC];omega
 have vz:(U.take i).length=i:=by rw[AC];omega
 refine Yi (fun h7=>?_) (fun h7=>?_)
 .have h7:(i:Int)<((U.map A0).length:Int):=h7;have n7:i<U.length:=by have q:=h7;rw[Lm]at q;omega
  have g7:U[i]?=some U[i]:=Ge n7;have gy:d[U[i]]?=some (d.getD U[i] []):=Sr (by have:=nI _ (Ah n7);omega);refine Xi (A0 U[i]) (Yi (Yi (Nn i) (AM g7)) (Yi rfl (cU [(2,sl Aj l),(3,vi (target:Int)),(10,sl Ap d),(12,.slice (.id 12 1) ((kp d U i).map Ap)),(14,vi U[i]),(37,sl A0 U),(38,vi (U.map A0).length),(39,vi i)] [(12,.tok 1 i)] Z8 Z1 (Xi (Ap (d.getD U[i] [])) (Yi (Yi (show(0:Int)<=(U[i]:Nat) by omega) (AM gy)) (Yi rfl ?_))))));have b8:AZ 1 [[sl Ac (d.getD U[i] [])]]/\((kp d U i).map Ap).length=i/\(((kp d U i).map Ap).length+([[sl Ac (d.getD U[i] [])]]:List (List AV)).length)*24<=140737488355328/\((kp d U i).map Ap).length+([[sl Ac (d.getD U[i] [])]]:List (List AV)).length<=9223372036854775807:=⟨⟨rfl,trivial⟩,(by first | (simp;done) | (rw[Lm];assumption)),(by simp only[Lm,Av,AA];omega),(by simp only[Lm,Av,AA];omega)⟩
  refine Yi b8 (cU [(2,sl Aj l),(3,vi (target:Int)),(10,sl Ap d),(12,.slice (.id 12 1) (((kp d U i).map Ap)++[[sl Ac (d.getD U[i] [])]])),(37,sl A0 U),(38,vi (U.map A0).length),(39,vi i)] [(12,.tok 1 (((kp d U i).map Ap).length+([[sl Ac (d.getD U[i] [])]]:List (List AV)).length))] Z7 Z1 (Yi (Ii i aa0) (Xi ⟨i+1,by omega⟩ ?_)));exact⟨Dl U.length i aa0,⟨Zr,Zr,Zr,⟨(show AV.slice (.id 12 1) ((kp d U i).map Ap++[[sl Ac (d.getD U[i] [])]])=.slice (.id 12 1) ((kp d U (i+1)).map Ap) by rw[oo d U i n7,AB];rfl),rfl⟩,Zr,Zr,Zr,Tv⟩,⟨⟨(show HO.tok 1 (((kp d U i).map Ap).length+([[sl Ac (d.getD U[i] [])]]:List (List AV)).length)=.tok 1 (i+1) by rw[Lm,GH];rfl),rfl⟩,Tv⟩,Fh,Tv⟩
 have h7:¬((i:Int)<((U.map A0).length:Int)):=h7;have n7:¬i<U.length:=by have q:=h7;rw[Lm]at q;omega
 refine Xi .pure (Xi _ (Yi Wn (Xi .pure (Xi _ (Yi (e58 own (kp d U i)) ?_)))));have ma:¬(target<0\/(l.length:Int)<=target):=by have q:=h5;rw[ZC]at q;omega
 obtain⟨t,pO⟩:∃t:Nat,target=t:=⟨target.toNat,by omega⟩;have MX:∀y∈own,lW y:=by rw[fb,pO];exact di hP hr l4 aa0
 have hkq:kp d U i=kp d U U.length:=by rw[show i=U.length by omega]
 obtain⟨kept,HP⟩:∃kept,kept=kp d U U.length:=⟨_,rfl⟩;have pF:kept.length=own.length:=by rw[HP,hwl];unfold kp;rw[Lm,AC];omega
 have hkt:∀t∈kept,Np t:=by
  rw[HP];intro t ZE;obtain⟨k,hk',rfl⟩:=Ay.1 ZE;exact uV _ (AO (Sr (by have:=nI k (CV hk');omega)))
 have hLn:(Dg own kept).length<=65536:=by rw[SX];omega
 refine rY [(15,1000),(16,1001)] vE (gV (Dg own kept) 0) (gV (Dg own kept) own.length) 111 [.cptr [sl Aj own],.cptr [sl Ap kept]] rfl rfl rfl rfl rfl (show AV.clo 111 [.cptr [sl Aj own],.cptr [sl Ap (kp d U i)]]=.clo 111 [.cptr [sl Aj own],.cptr [sl Ap kept]] by rw[hkq,HP]) (fun l9 D9 f9 tm9 SD=>yM l9 own kept pF aa0 MX hkt (fun i9 s9 hi9 hs9=>lV (σ:=vE) (Mt Cu) rfl B8 hm rfl rfl rfl SD aa3 aa3 aa3 (kw _ _ _) ?_)) aa3 aa3 ?_
 .have b9:AZ 1 [[vs s9]]/\(((Dg own kept).take i9).map Ag).length=(((Dg own kept).take i9).map Ag).length/\((((Dg own kept).take i9).map Ag).length+([[vs s9]]:List (List AV)).length)*16<=140737488355328/\(((Dg own kept).take i9).map Ag).length+([[vs s9]]:List (List AV)).length<=9223372036854775807:=
   ⟨⟨rfl,trivial⟩,rfl,by rw[Lm,AC,AS];omega,by rw[Lm,AC,AS];omega⟩
  refine Yi b9 (yN ?_);have e9:=ku (Dg own kept) hs9;exact Yi rfl (show Ar [(1000,.cells [.slice (.id 1001 1) (((Dg own kept).take i9).map Ag++[[vs s9]])]),(1001,.tok 1 ((((Dg own kept).take i9).map Ag).length+1))] Af=Ar (gV (Dg own kept) (i9+1)) Af by unfold gV;rw[e9,AB,As];rfl)
 have hLe:(Dg own kept).take own.length=Dg own kept:=AK (by rw[SX];omega);exact .of_eq (show AV.tup [.slice .none (((Dg own kept).take own.length).map Ag),vi 0]=WI x roots l target by
  rw[hLe];unfold WI FH;rw[Aw (fun h=>h l4),Aw ma,<-hU,<-fb,<-hd,HP];unfold kp;rw[AK aa0])
abbrev rlN(a b:Int):List AV:=[vs pu,vi a,vi b,vi 0,vO,vs mt,vs mt,vs mt,vb false]
abbrev exC:List AV:=[.slice .none [Ak ⟨qD,⟨1,0,0⟩,[⟨pu,[(2000,1000000)]⟩],mt,mt,mt,false⟩,rlN 1 0,rlN 1 1],vO]
theorem qE:DC (.agg exC) (Jx Oq []):=
 have h (a b:Int):No (rlN a b) (Ak ⟨pu,⟨a,b,0⟩,[],mt,mt,mt,false⟩):=⟨.refl _,.refl _,.refl _,.refl _,.nil,.refl _,.refl _,.refl _,.refl _,trivial⟩
 DC.agg ⟨DC.slice ⟨⟨.refl _,.refl _,.refl _,.refl _,.refl _,.refl _,.refl _,.refl _,.refl _,trivial⟩,h 1 0,h 1 1,trivial⟩,.nil,trivial⟩
theorem iZ:I2 Oq Gb IA:=by
 have h:∀p∈Fk Oq Gb IA,p.size<=100:=by decide +kernel
 intro p hp
 have:=h p hp
 show p.size<=1048576;omega
theorem e11  : PC 11 [] (vb true):=by
 have ha:=VU;unfold bP at ha;simp only[Au,Bg]at ha;obtain⟨⟨⟨⟨⟨⟨⟨b1,b2⟩,b3⟩,b4⟩,b5⟩,b6⟩,b7⟩,b8⟩:=ha;have Wp:=e24 Oq [] Gb IA 6 ub aa2 ⟨by decide,by decide⟩ aa2 iZ;have Wp:=Wp.args (args':=[.agg exC,sl Ad Gb,sl Aj IA,vi 6]) ⟨qE,.refl _,.refl _,.refl _,trivial⟩;have QX:=yP IA 5 aa2 ⟨by decide,by decide⟩;have Wn:=e21 IA 2 aa2 ⟨by decide,by decide⟩;rw[b7]at QX;have NZ:=m0 [3,4,5] [3,4,5] aa2;rw[A4 rfl]at NZ;unfold WI at Wp;rw[b1]at Wp;generalize (FH Oq Gb IA 6).1=L at Wp b2 b3 b4 b5 b6;generalize De IA 2=M at Wn b8;have hg (k:Nat) (s:ByteArray) (h:L[k]?=some s):(L.map Ag)[k]?=some (Ag s):=by rw[BX,h];rfl
 have qV:=hg 2 _ b3;have zM:=hg 3 _ b4;have hg5:=hg 5 _ b5;have hg6:=hg 6 _ b6;have hLl:((L.map Ag).length:Int)=7:=by rw[Lm,b2];rfl
 have hMl:((M.map Aj).length:Int)=3:=by rw[Lm,b8];rfl
 refine Ps (pC [] [2,3,4,5,6,7]) Tryz.func11 rfl (Nz rfl) (yN (cU [(1,.ref 1 0)] [(1,.cells [vi 1,vi 0,vi 0])] Z1 Z1 (cU [(1,.ref 1 0),(2,.slice (.id 12 2) [[vs ⟨#[98,47,118,49]⟩,.slice .none [[vi 2000,vi 1000000]]]])] [(1,.cells [vi 1,vi 0,vi 0]),(12,.tok 2 1)] Z2 Z2 (yN (yN (yN (cU [(3,.ref 3 0)] [(3,.cells [.slice (.id 20 9) [[vs ⟨#[97,47,118,49]⟩,vi 1,vi 0,vi 0,.slice .none [[vs ⟨#[98,47,118,49]⟩,.slice .none [[vi 2000,vi 1000000]]]],vs ⟨#[]⟩,vs ⟨#[]⟩,vs ⟨#[]⟩,vb false],[vs ⟨#[98,47,118,49]⟩,vi 1,vi 0,vi 0,nzA,vs ⟨#[]⟩,vs ⟨#[]⟩,vs ⟨#[]⟩,vb false],[vs ⟨#[98,47,118,49]⟩,vi 1,vi 1,vi 0,nzA,vs ⟨#[]⟩,vs ⟨#[]⟩,vs ⟨#[]⟩,vb false]],nzA]),(20,.tok 9 3)] Z1 Z2 (cU [(3,.ref 3 0),(4,.slice (.id 25 2) [[vs ⟨#[97,47,118,49]⟩,.slice .none [[vi 0,vi 1000000]]]])] [(3,.cells [.slice (.id 20 9) [[vs ⟨#[97,47,118,49]⟩,vi 1,vi 0,vi 0,.slice .none [[vs ⟨#[98,47,118,49]⟩,.slice .none [[vi 2000,vi 1000000]]]],vs ⟨#[]⟩,vs ⟨#[]⟩,vs ⟨#[]⟩,vb false],[vs ⟨#[98,47,118,49]⟩,vi 1,vi 0,vi 0,nzA,vs ⟨#[]⟩,vs ⟨#[]⟩,vs ⟨#[]⟩,vb false],[vs ⟨#[98,47,118,49]⟩,vi 1,vi 1,vi 0,nzA,vs ⟨#[]⟩,vs ⟨#[]⟩,vs ⟨#[]⟩,vb false]],nzA]),(20,.tok 9 3),(25,.tok 2 1)] Z2 Z3 (cU [(3,.ref 3 0),(4,.slice (.id 25 2) [[vs ⟨#[97,47,118,49]⟩,.slice .none [[vi 0,vi 1000000]]]]),(5,.slice (.id 33 6) [[vi 0,vs ⟨#[]⟩,vi 0,vi 0,vi 0,vi 0],[vi 2,vs ⟨#[97,47,118,49]⟩,vi 0,vi 0,vi 0,vi 0],[vi 3,vs ⟨#[97,47,118,49]⟩,vi 0,vi 0,vi 0,vi 1],[vi 1,vs ⟨#[97,47,118,49]⟩,vi 0,vi 0,vi 0,vi 0],[vi 2,vs ⟨#[98,47,118,49]⟩,vi 0,vi 0,vi 0,vi 0],[vi 3,vs ⟨#[98,47,118,49]⟩,vi 0,vi 0,vi 3,vi 4],[vi 3,vs ⟨#[97,47,118,49]⟩,vi 0,vi 0,vi 2,vi 5]])] [(3,.cells [.slice (.id 20 9) [[vs ⟨#[97,47,118,49]⟩,vi 1,vi 0,vi 0,.slice .none [[vs ⟨#[98,47,118,49]⟩,.slice .none [[vi 2000,vi 1000000]]]],vs ⟨#[]⟩,vs ⟨#[]⟩,vs ⟨#[]⟩,vb false],[vs ⟨#[98,47,118,49]⟩,vi 1,vi 0,vi 0,nzA,vs ⟨#[]⟩,vs ⟨#[]⟩,vs ⟨#[]⟩,vb false],[vs ⟨#[98,47,118,49]⟩,vi 1,vi 1,vi 0,nzA,vs ⟨#[]⟩,vs ⟨#[]⟩,vs ⟨#[]⟩,vb false]],nzA]),(20,.tok 9 3),(25,.tok 2 1),(33,.tok 6 7)] Z3 Z4 (yN (Xi .pure (Xi _ (Yi Wp (cU [(5,.slice (.id 33 6) [[vi 0,vs ⟨#[]⟩,vi 0,vi 0,vi 0,vi 0],[vi 2,vs ⟨#[97,47,118,49]⟩,vi 0,vi 0,vi 0,vi 0],[vi 3,vs ⟨#[97,47,118,49]⟩,vi 0,vi 0,vi 0,vi 1],[vi 1,vs ⟨#[97,47,118,49]⟩,vi 0,vi 0,vi 0,vi 0],[vi 2,vs ⟨#[98,47,118,49]⟩,vi 0,vi 0,vi 0,vi 0],[vi 3,vs ⟨#[98,47,118,49]⟩,vi 0,vi 0,vi 3,vi 4],[vi 3,vs ⟨#[97,47,118,49]⟩,vi 0,vi 0,vi 2,vi 5]]),(6,sl Ag L),(7,vi 0)] [(33,.tok 6 7)] Z3 Z1 (Yi (fun _=>?_) (fun h=>absurd aa2 h))))))))))))))));refine Yi (fun h1=>?_) (fun h1=>?_)
 .have h1:((L.map Ag).length:Int)=(7:Int):=h1;refine Xi (Ag nh) (Yi ⟨by decide,qV⟩ (Yi rfl ?_));refine Yi (fun h2=>?_) (fun h2=>?_)
  .have h2:(nh:ByteArray)=⟨#[51,46,32,97,47,118,49,32,49,46,48,46,48,32,105,115,32,110,101,101,100,101,100,32,40,102,114,111,109,32,49,32,97,110,100,32,50,41]⟩:=h2;refine Xi (Ag nl) (Yi ⟨by decide,zM⟩ (Yi rfl ?_));refine Yi (fun h3=>?_) (fun h3=>?_)
   .have h3:(nl:ByteArray)=⟨#[52,46,32,97,47,118,49,32,49,46,48,46,48,32,110,101,101,100,115,32,98,47,118,49,32,49,46,50,46,48,46,46,32,40,98,121,32,97,47,118,49,32,49,46,48,46,48,41]⟩:=h3;refine Xi (Ag np) (Yi ⟨by decide,hg5⟩ (Yi rfl ?_));refine Yi (fun h4=>?_) (fun h4=>?_)
    .have h4:(np:ByteArray)=⟨#[54,46,32,97,47,118,49,32,49,46,48,46,48,32,105,115,32,105,109,112,111,115,115,105,98,108,101,32,40,102,114,111,109,32,52,32,97,110,100,32,53,41]⟩:=h4;refine Xi (Ag nq) (Yi ⟨by decide,hg6⟩ (Yi rfl ?_));refine Yi (fun h5=>?_) (fun h5=>?_)
     .have h5:(nq:ByteArray)=⟨#[55,46,32,116,104,105,115,32,105,115,32,105,109,112,111,115,115,105,98,108,101,32,40,102,114,111,109,32,51,32,97,110,100,32,54,41]⟩:=h5;refine Xi .pure (Xi _ (Yi QX (Xi .pure (Xi _ (Yi NZ (Xi .pure (Xi _ (Yi Wn (Yi (fun h6=>?_) (fun h6=>?_))))))))))
      .have h6:((M.map Aj).length:Int)=(3:Int):=h6;exact .refl _
      have h6:¬(((M.map Aj).length:Int)=(3:Int)):=h6;exact absurd hMl h6
     have h5:¬(nq:ByteArray)=⟨#[55,46,32,116,104,105,115,32,105,115,32,105,109,112,111,115,115,105,98,108,101,32,40,102,114,111,109,32,51,32,97,110,100,32,54,41]⟩:=h5;exact absurd rfl h5
    have h4:¬(np:ByteArray)=⟨#[54,46,32,97,47,118,49,32,49,46,48,46,48,32,105,115,32,105,109,112,111,115,115,105,98,108,101,32,40,102,114,111,109,32,52,32,97,110,100,32,53,41]⟩:=h4;exact absurd rfl h4
   have h3:¬(nl:ByteArray)=⟨#[52,46,32,97,47,118,49,32,49,46,48,46,48,32,110,101,101,100,115,32,98,47,118,49,32,49,46,50,46,48,46,46,32,40,98,121,32,97,47,118,49,32,49,46,48,46,48,41]⟩:=h3;exact absurd rfl h3
  have h2:¬(nh:ByteArray)=⟨#[51,46,32,97,47,118,49,32,49,46,48,46,48,32,105,115,32,110,101,101,100,101,100,32,40,102,114,111,109,32,49,32,97,110,100,32,50,41]⟩:=h2;exact absurd rfl h2
 have h1:¬(((L.map Ag).length:Int)=(7:Int)):=h1;exact absurd hLl h1
end Go.Eng
