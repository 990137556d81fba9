/- Lemmas 26. -/
import Derived.Test.YteaiieomnhbmgaaGreatDoorAA25
set_option maxHeartbeats 4000000
namespace Go.Eng
open Go.Proofs Go.Proofs.Tryz
variable {s:List Sl}{o:List Mv}{i:Nat}{caps:List AV}{fF k:Nat}{a b:Int}{y:Sl}(x:List Rl)(l:List Sl)(lim:Int)(ifs:C0)(m:List Sl)
def oM(s:List Sl):AV:=if J0 x s=0 then .tup [.cmap BW (Ch x s),vi 0]else .tup [.v (.map none),vi (J0 x s)]
theorem sy(h:∀j (hj:j<s.length),0<j->j<i->Dq (s[j-1]' ch).path s[j].path=true)(hi:s.length<=i):CD s=true:=
 (JF s).2 fun j hj h0=>h j hj h0 ch
theorem sA(hi:i<s.length)(h0:0<i)(h:Dq (s[i-1]' ch).path s[i].path=false):¬CD s=true:=fun e=>by
 have q:=(JF s).1 e i hi h0;rw[h]at q;cases q
theorem ZA{x:List Rl}(h:∀j (hj:j<s.length),j<i->(By x s[j]).isSome=true)(hi:s.length<=i):s.all (fun y=>(By x y).isSome)=true:=by
 rw[AS];intro y hy;obtain⟨j,hj,rfl⟩:=DS.1 hy;exact h j hj ch
theorem fu{x:List Rl}(hi:i<s.length)(h:By x s[i]=none):¬s.all (fun y=>(By x y).isSome)=true:=fun e=>by
 have q:=AS.1 e _ (Ai hi);rw[h]at q;cases q
theorem AcA(s:List Sl)(hx:∀r∈x,CX r)(hl:BD s):PC 126 [.agg (Ic x ifs),sl Ab s] (oM x s):=by
 have hl:s.length<=1073741824:=hl;refine Ps ⟨[2],[],[],[],[33],[],[],[],[],[],[5,7,13]⟩ func126 rfl (Nz rfl) (yN (C1 (C2 (zg VD x ifs hx) (Yi (fun h1=>?_) (fun h1=>?_)))))
 .have h1:((AL x):Int)≠(0:Int):=h1;exact BC.of_eq (show AV.tup [.v (.map none),vi 1]=oM x s by rw[oM,J0,AA h1,AA Wk])
 have h1:((AL x):Int)=(0:Int):=Aq h1;refine Xi {q:Nat // 1<=q/\(q<=s.length\/q=1)/\∀j (hj:j<s.length),0<j->j<q->Dq (s[j-1]' ch).path s[j].path=true} (Xi (fun q=>⟨[(1,sl Ab s),(2,.ref 2 0),(6,vi q.1)],[(2,.ro (Ic x ifs))],Ae⟩) (Xi (fun q=>s.length+1-q.1) (Yi (Xi ⟨1,Ao _,.inr rfl,fun j hj h0 h1=>absurd h0 ch⟩ ?_) ?_)))
 .exact⟨Z3,Z1,Fh,Tv⟩
 intro⟨i,i1,i2,i3⟩;have i1:1<=i:=i1;have i2:i<=s.length\/i=1:=i2;have i3:∀j (hj:j<s.length),0<j->j<i->Dq (s[j-1]' ch).path s[j].path=true:=i3;refine Yi (fun h3=>?_) (fun h3=>?_)
 .have h3:(i:Int)<((s.map Ab).length:Int):=h3;have n3:=Dh h3;refine Yi (by show Az ((i:Int)-(1:Int));unfold Az;omega) (Xi (Ab (s[i-1]' ch)) (Yi (Yi (show(0:Int)<=(i:Int)-1 by omega) (by rw[show((i:Int)-1).toNat=i-1 by omega];exact El (Ge ch))) (Yi rfl ?_)));refine Xi (Ab s[i]) (Yi (DC n3) (Yi rfl (Yi (fun h4=>?_) (fun h4=>?_))))
  .have h4:Dq (s[i-1]' ch).path s[i].path=false:=(DZ _ _).trans h4;refine Yi aa1 (cU [] [] Tv Tv ?_)
   exact BC.of_eq (show AV.tup [.v (.map none),vi 1]=oM x s by rw[oM,J0,Ax h1,AA (sA n3 ch h4),AA Wk])
  have h4:Dq (s[i-1]' ch).path s[i].path=true:=(DZ _ _).trans (by simpa using h4);refine Yi aa1 (cU [(1,sl Ab s),(2,.ref 2 0),(6,vi i)] [(2,.ro (Ic x ifs))] Z3 Z1 (Yi (Ii i ch) (Xi ⟨i+1,by omega,.inl ch,fun j hj h0 h1=>by rcases Db j i with h2 | h2;exact i3 j hj h0 h2;have e:j=i:=ch;subst e;exact h4⟩ ?_)));exact⟨by show s.length+1-(i+1)<s.length+1-i;omega,Z3,Z1,Fh,Tv⟩
 have h3:¬((i:Int)<((s.map Ab).length:Int)):=h3;have n3:=BB h3;have aA:CD s=true:=sy i3 (AE (BB h3));refine Xi {q:Nat // q<=s.length/\∀j (hj:j<s.length),j<q->(By x s[j]).isSome=true} (Xi (fun q=>⟨[(2,.ref 2 0),(7,.mref 33),(34,sl Ab s),(35,vi (s.map Ab).length),(36,vi q.1)],[(2,.ro (Ic x ifs)),(33,.map BW (Ch x (s.take q.1)))],Ae⟩) (Xi (fun q=>s.length-q.1) (Yi (Xi ⟨0,Aj _,fun j hj h1=>absurd h1 ch⟩ ?_) ?_)))
 .exact⟨Z5,Z2,Fh,Tv⟩
 intro⟨k,k1,k2⟩;have k1:k<=s.length:=k1;have k2:∀j (hj:j<s.length),j<k->(By x s[j]).isSome=true:=k2;refine Yi (fun h7=>?_) (fun h7=>?_)
 .have h7:(k:Int)<((s.map Ab).length:Int):=h7;have n7:=Dh h7;refine Xi (Ab s[k]) (Yi (DC n7) (Yi rfl (yN (yN (yN (yN (A1 (WY (By x ⟨s[k].path,s[k].ver⟩)) (fun h8=>?_) (fun h8=>?_))))))))
  .refine Be h8 (fun r h8=>?_);have hc8:=c53 x ifs s[k].path s[k].ver (c84 x ifs hx) hx;rw[h8]at hc8;refine C1 (C2 hc8 (yN (cU [(2,.ref 2 0),(7,.mref 33),(9,.ref 9 0),(10,.ref 10 0),(11,vb true),(34,sl Ab s),(35,vi (s.map Ab).length),(36,vi k)] [(2,.ro (Ic x ifs)),(9,.cells (Ab s[k])),(10,.cells (Au r)),(33,.map BW (Ch x (s.take k)))] Z8 Z4 (yN (Yi (Ii k ch) (Xi ⟨k+1,n7,fun j hj h1=>by rcases Db j k with h2 | h2;exact k2 j hj h2;have e:j=k:=ch;subst e;rw[show By x s[j]=some r from h8];rfl⟩ ?_))))));exact⟨Dl s.length k ch,Z5,⟨Zr,⟨(show HO.map BW (EV (Ch x (s.take k)) (.string s[k].path) (.agg (Au r)))=.map BW (Ch x (s.take (k+1)))from Aa (HO.map BW) (by rw[<-kP (Jl aA) n7,D5,show By x s[k]=some r from h8];rfl)),rfl⟩,Tv⟩,Fh,Tv⟩
  have hc8:=c53 x ifs s[k].path s[k].ver (c84 x ifs hx) hx;rw[h8]at hc8;refine C1 (C2 hc8 (yN (cU [(2,.ref 2 0),(7,.mref 33),(9,.ref 9 0),(10,.ref 10 0),(11,vb false),(34,sl Ab s),(35,vi (s.map Ab).length),(36,vi k)] [(2,.ro (Ic x ifs)),(9,.cells (Ab s[k])),(10,.cells [vs ⟨#[]⟩,vi 0,vi 0,vi 0,nzA,vs ⟨#[]⟩,vs ⟨#[]⟩,vs ⟨#[]⟩,vb false]),(33,.map BW (Ch x (s.take k)))] Z8 Z4 ?_)))
  exact BC.of_eq (show AV.tup [.v (.map none),vi 6]=oM x s by rw[oM,J0,Ax h1,Ax aA,AA (fu n7 h8),AA Wk])
 have h7:¬((k:Int)<((s.map Ab).length:Int)):=h7;have n7:=BB h7;have ee:s.take k=s:=As (AE (BB h7));exact BC.of_eq (show AV.tup [.cmap BW (Ch x (s.take k)),vi 0]=oM x s by rw[ee,oM,J0,Ax h1,Ax aA,Ax (ZA k2 (AE (BB h7))),Ax rfl])
theorem Aho(hs:Cc caps)(l:List (Rq))(p:Rq->Bool)(hF:∀x∈l,PC fF ([.agg (AI x)]++caps) (vb (p x)))(hl:l.length<9223372036854775807) :
  PC 180 [sl AI l,.clo fF caps] (vi (I7 p l 0)):=by
 refine Ps CQ func180 rfl (Nz rfl) (Xi {i:Nat // i<=l.length/\∀j (hj:j<l.length),j<i->p l[j]=false} (Xi (fun i=>⟨[(0,sl AI l),(1,.clo fF caps),(7,vi (l.map AI).length),(8,vi i.1)],[],Ae⟩) (Xi (fun i=>l.length-i.1) (Yi (Xi ⟨0,by simp⟩ ?_) ?_))))
 .exact⟨⟨Zr,⟨rfl,hs.ids _⟩,Zr,Zr,Tv⟩,Tv,Fh,Tv⟩
 .intro⟨i,h1,h2⟩;refine Yi ?_ ?_
  .intro h;have h:i<l.length:=by simpa using h
   have hg:l[i]?=some l[i]:=Ge h;refine Xi (AI l[i]) (Yi (Yi (Nn i) (by simp[hg])) (Yi rfl (yN ?_)));have BQ:∀h,PC fF ([.agg (AI l[i])]++caps.map (str0 h)) (vb (p l[i])):=fun h=>by rw[hs.map];exact hF l[i] (Ai _)
   cases hp:p l[i]with
   |true=>
    rw[hp]at BQ;refine Xi .pure (Xi (vb true) (Yi (BQ _) ?_));rw[Hl h (fun j hj G8=>h2 j hj G8) hp,Ev];exact .refl _
   |false=>
    rw[hp]at BQ;refine Xi .pure (Xi (vb false) (Yi (BQ _) (Yi (Ii i ch) (Xi ⟨i+1,by omega,fun j hj G8=>?_⟩ ?_))))
    .by_cases e:j=i
     .subst e;exact hp
     .exact h2 j hj ch
    .exact⟨Dl l.length i ch,⟨Zr,⟨rfl,hs.ids _⟩,Zr,Zr,Tv⟩,Tv,Fh,Tv⟩
  .intro h;have h:¬i<l.length:=by simpa using h
   rw[F8 fun j hj=>h2 j hj ch];exact .refl _
theorem z127(hs:Cc caps)(l:List (Rq))(p:Rq->Bool)(hF:∀x∈l,PC fF ([.agg (AI x)]++caps) (vb (p x)))(hl:BD l) :
  PC 127 [sl AI l,.clo fF caps] (vb (l.any p)):=by
 refine Ps CQ func127 rfl (Nz rfl) ?_;have hi:=Aho hs l p hF (by unfold BD at hl;omega);have BQ:∀h,PC 180 [sl AI l,.clo fF (caps.map (str0 h))] (vi (I7 p l 0)):=fun h=>by rw[hs.map];exact hi
 refine C1 (C2 (BQ _) ?_);have ha:=Hg (p:=p) l 0 (Bs 0);refine Yi ?_ ?_
 .intro h;rw[<-ha,AB h];exact .refl _
 .intro h;rw[<-ha,Aw h];exact .refl _
theorem z131(hs:Cc caps)(l:List (CS))(p:CS->Bool)(hF:∀x∈l,PC fF ([vs x]++caps) (vb (p x)))(hl:l.length<9223372036854775807) :
  PC 131 [sl Af l,.clo fF caps] (vi (I7 p l 0)):=by
 refine Ps CQ func131 rfl (Nz rfl) (Xi {i:Nat // i<=l.length/\∀j (hj:j<l.length),j<i->p l[j]=false} (Xi (fun i=>⟨[(0,sl Af l),(1,.clo fF caps),(7,vi (l.map Af).length),(8,vi i.1)],[],Ae⟩) (Xi (fun i=>l.length-i.1) (Yi (Xi ⟨0,by simp⟩ ?_) ?_))))
 .exact⟨⟨Zr,⟨rfl,hs.ids _⟩,Zr,Zr,Tv⟩,Tv,Fh,Tv⟩
 .intro⟨i,h1,h2⟩;refine Yi ?_ ?_
  .intro h;have h:i<l.length:=by simpa using h
   have hg:l[i]?=some l[i]:=Ge h;refine Xi (Af l[i]) (Yi (Yi (Nn i) (by simp[hg])) (Yi rfl ?_));have BQ:∀h,PC fF ([vs l[i]]++caps.map (str0 h)) (vb (p l[i])):=fun h=>by rw[hs.map];exact hF l[i] (Ai _)
   cases hp:p l[i]with
   |true=>
    rw[hp]at BQ;refine Xi .pure (Xi (vb true) (Yi (BQ _) ?_));rw[Hl h (fun j hj G8=>h2 j hj G8) hp,Ev];exact .refl _
   |false=>
    rw[hp]at BQ;refine Xi .pure (Xi (vb false) (Yi (BQ _) (Yi (Ii i ch) (Xi ⟨i+1,by omega,fun j hj G8=>?_⟩ ?_))))
    .by_cases e:j=i
     .subst e;exact hp
     .exact h2 j hj ch
    .exact⟨Dl l.length i ch,⟨Zr,⟨rfl,hs.ids _⟩,Zr,Zr,Tv⟩,Tv,Fh,Tv⟩
  .intro h;have h:¬i<l.length:=by simpa using h
   rw[F8 fun j hj=>h2 j hj ch];exact .refl _
theorem z74(hs:Cc caps)(l:List (CS))(p:CS->Bool)(hF:∀x∈l,PC fF ([vs x]++caps) (vb (p x)))(hl:BD l) :
  PC 74 [sl Af l,.clo fF caps] (vb (l.any p)):=by
 refine Ps CQ func74 rfl (Nz rfl) ?_;have hi:=z131 hs l p hF (by unfold BD at hl;omega);have BQ:∀h,PC 131 [sl Af l,.clo fF (caps.map (str0 h))] (vi (I7 p l 0)):=fun h=>by rw[hs.map];exact hi
 refine C1 (C2 (BQ _) ?_);have ha:=Hg (p:=p) l 0 (Bs 0);refine Yi ?_ ?_
 .intro h;rw[<-ha,AB h];exact .refl _
 .intro h;rw[<-ha,Aw h];exact .refl _
theorem kb{x:List Rl}{l:List Sl}{kv:Value×AV}{Me : List (Value×AV)}(h:(l.map (Xj x)).Perm (kv::Me)):∃t r,kv=Xj x t/\Me=r.map (Xj x)/\l.Perm (t::r):=by
 obtain⟨ps,h1,h2⟩:=Kl h l rfl;cases ps with
 |nil=>cases h2
 |cons t r=>
  rw[Bq,JW]at h2;exact⟨t,r,h2.1.symm,h2.2.symm,h1.symm⟩
def I3(s:List Sl):AV:=if Dp x s=0 then .tup [.cmap BW (Ch x s),vi 0]else .tup [.v (.map none),vi (Dp x s)]
def ja(s:List Sl)(y:Sl):Bool:=(D5 x y).reqs.all (Mf x s)
theorem fy{α:Type}(p:α->Bool)(l:List α):l.any (fun q=>!p q)=!l.all p:=by
 induction l with
 |nil=>rfl
 |cons a l ih=>rw[DW,List.all_cons,ih,Bool.not_and]
theorem ZM{x:List Rl}{d:List Sl}(h:d.Perm s)(k:∀y∈d,ja x s y=true):TN x s=true:=AS.2 fun y hy=>k y (h.mem_iff.2 hy)
theorem df{x:List Rl}{d r:List Sl}(h:(d++y::r).Perm s)(k:ja x s y=false):¬TN x s=true:=fun e=>by
 have q:=AS.1 e y (h.mem_iff.1 (Bh.2 (.inr (Ah ..))));rw[show(D5 x y).reqs.all (Mf x s)=false from k]at q;cases q
theorem Sb{x:List Rl}(h:J0 x s=0):AL x=0:=by
 unfold J0 at h;split at h
 .assumption
 .cases h
theorem YO{x:List Rl}(h:J0 x s=0)(hy:y∈s):D5 x y∈x:=by
 unfold J0 at h;split at h
 .split at h
  .split at h
   .rename_i h0 _ h1;have q:=AS.1 h1 y hy;unfold D5;cases e:By x y with
    |none=>rw[e]at q;cases q
    |some r=>
     unfold By at e;rw[AA ch]at e;exact AX e
   .cases h
  .cases h
 .cases h
theorem ud(s:List Sl)(hx:∀r∈x,CX r)(hl:BD s)(h0:¬J0 x s=0):PC 72 [.agg (Ic x ifs),sl Ab s] (I3 x s):=by
 refine Ps (pC [2,6] []) func72 rfl (Nz rfl) (yN (C1 (C2 (by have q:=AcA x ifs s hx hl;rw[oM,AA h0]at q;exact q) ?_)));refine yN (Yi (fun h1=>?_) (fun h1=>?_))
 .exact BC.of_eq (show AV.tup [.v (.map none),vi (J0 x s)]=I3 x s by rw[I3,Dp,AA h0,AA h0])
 have h1:((J0 x s):Int)=(0:Int):=Aq h1;exact absurd h1 h0
theorem ue(s:List Sl)(hx:∀r∈x,CX r)(hl:BD s)(h0:J0 x s=0)(aA:CD s=true):PC 72 [.agg (Ic x ifs),sl Ab s] (I3 x s):=by
 refine Ps (pC [2,6] []) func72 rfl (Nz rfl) (yN (C1 (C2 (by have q:=AcA x ifs s hx hl;rw[oM,Ax h0]at q;exact q) ?_)));refine yN (Yi (fun h=>absurd h Wk) (fun _=>?_));refine Xi {q:List Sl×List Sl×Option (Value×AV) // (q.1++q.2.1).Perm s/\∀y∈q.1,ja x s y=true} (Xi (fun q=>⟨[(6,.ref 6 0),(20,.ref 20 0)],[(6,.ro [.cmap BW (Ch x s)]),(20,.iter (Ch x s) (q.1.2.1.map (Xj x)) q.1.2.2)],Ae⟩) (Xi (fun q=>q.1.2.1.length) (Yi (Xi ⟨([],s,none),.refl _,fun _ h=>by cases h⟩ ?_) ?_)))
 .exact⟨Z2,Z2,Fh,Tv⟩
 intro⟨⟨dn,rem,Ep⟩,r1,r2⟩;refine Yi ?_ ?_
 .intro hr;have hr:rem=[]:=Eg.1 hr;rw[hr,Bg]at r1;exact BC.of_eq (show AV.tup [.cmap BW (Ch x s),vi 0]=I3 x s by rw[I3,Dp,Ax h0,Ax (ZM r1 r2),Ax rfl])
 intro kv Me hp;refine Be (kb hp) (fun y hp=>Be hp (fun r hp=>?_));have e1:=hp.1;have e2:=hp.2.1;subst e1;subst e2;have hp:=hp.2.2;have hy:y∈s:=r1.mem_iff.1 (Bh.2 (.inr (hp.mem_iff.2 (Ah ..))));refine yN (A1 (Bt (!ja x s y)) (fun h2=>?_) (fun h2=>?_))
 .refine C1 (C2 (cb h2 (show PC 127 [sl AI (D5 x y).reqs,.clo 128 [.cptr [.cmap BW (Ch x s)]]] (vb (!ja x s y))from by have q:=z127 (fF:=128) (caps:=[.cptr [.cmap BW (Ch x s)]]) (Cc.ptr _) (D5 x y).reqs (fun q=>!Mf x s q) (fun q hq=>iq x s q (Jl aA) ((hx _ (YO h0 hy)).2 q hq).1) (Av ((Lz (Sb h0)).2 _ (YO h0 hy)) Wk);rw[fy]at q;exact q)) ?_);exact BC.of_eq (show AV.tup [.v (.map none),vi 17]=I3 x s by rw[I3,Dp,Ax h0,AA (df (y:=y) (d:=dn) (r:=r) ((List.Perm.append_left _ hp.symm).trans r1) (by simpa using h2)),AA Wk])
 refine C1 (C2 (cb h2 (show PC 127 [sl AI (D5 x y).reqs,.clo 128 [.cptr [.cmap BW (Ch x s)]]] (vb (!ja x s y))from by have q:=z127 (fF:=128) (caps:=[.cptr [.cmap BW (Ch x s)]]) (Cc.ptr _) (D5 x y).reqs (fun q=>!Mf x s q) (fun q hq=>iq x s q (Jl aA) ((hx _ (YO h0 hy)).2 q hq).1) (Av ((Lz (Sb h0)).2 _ (YO h0 hy)) Wk);rw[fy]at q;exact q)) ?_);refine Xi ⟨(dn++[y],r,some (Xj x y)),by rw[BT];exact(List.Perm.append_left _ hp.symm).trans r1,fun z hz=>by rcases Bh.1 hz with h | h;exact r2 z h;rw[AQ.1 h];exact(by simpa using h2)⟩ ?_;exact⟨by show r.length<rem.length;rw[hp.length_eq];exact Nat.lt_succ_self _,Z2,Z2,Fh,Tv⟩
theorem Kw{x:List Rl}(h:J0 x s=0):CD s=true:=by
 unfold J0 at h;split at h
 .split at h
  .assumption
  .cases h
 .cases h
theorem OF(s:List Sl)(hx:∀r∈x,CX r)(hl:BD s):PC 72 [HZ x ifs,sl Ab s] (I3 x s):=by
 by_cases h:J0 x s=0
 .exact ue x ifs s hx hl h (Kw h)
 .exact ud x ifs s hx hl h
theorem AcW{x:List Rl}(h:qT x [])(ifs:C0):PC 26 [HZ x ifs,nzA] (vb (FY x 16)):=by
 have q:=(h.c11 ifs).args (args':=[HZ x ifs,nzA]) ⟨.refl _,.nil,trivial⟩;rw[show(FY x 16&&Gs [])=FY x 16 by rw[show Gs []=true by decide,Bool.and_true]]at q;exact q
theorem eT{x:List Rl}(h:FY x 16=true):x.length<=16:=by
 unfold FY at h;simp only[At,Bj]at h;omega
theorem Yb{x:List Rl}(roots:List Rq)(hx:x.length<=16):BD (Ff x roots):=by
 by_cases h:Ky x roots=0
 .have:=(Qh h).2.1
  show _<=1073741824;omega
 .unfold Ff;rw[AA h];exact Aj _
theorem rmA{l m:List Sl}(h:o++rm (l.drop i) (m.drop k)=rm l m)(hi:i<l.length)(c:m.drop k=[]\/∃hk:k<m.length,Dq l[i].path m[k].path=true) :
  (o++jX l[i].path (place l[i].ver) (-1))++rm (l.drop (i+1)) (m.drop k)=rm l m:=by
 rw[<-h,BT]
 congr 1
 rw[AD hi];rcases c with c | ⟨hk,c⟩
 .rw[c,rm]
 .rw[AD hk,rm];rw[AA (fun e=>by rw[e,Cm]at c;cases c),Ax c]
theorem rmB{l m:List Sl}(h:o++rm (l.drop i) (m.drop k)=rm l m)(hk:k<m.length)(c:l.drop i=[]\/∃hi:i<l.length,Dq m[k].path l[i].path=true) :
  (o++jX m[k].path (-1) (place m[k].ver))++rm (l.drop i) (m.drop (k+1))=rm l m:=by
 rw[<-h,BT]
 congr 1
 rw[AD hk];rcases c with c | ⟨hi,c⟩
 .rw[c,rm]
 .rw[AD hi,rm];rw[AA (fun e=>by rw[e,Cm]at c;cases c),AA (by rw[Jn c];decide)]
theorem rmC{l m:List Sl}(h:o++rm (l.drop i) (m.drop k)=rm l m)(hi:i<l.length)(hk:k<m.length)(e:l[i].path=m[k].path) :
  (o++jX l[i].path (place l[i].ver) (place m[k].ver))++rm (l.drop (i+1)) (m.drop (k+1))=rm l m:=by
 rw[<-h,BT]
 congr 1
 rw[AD hk,AD hi,rm,Ax e]
theorem bo{p:CS}(h:a≠b):o++jX p a b=o++[⟨p,a,b⟩]:=by rw[jX,Ax h]
theorem WV{p:CS}(h:a=b):o++jX p a b=o:=by rw[jX,AA (fun q=>q h),Bg]
theorem AcY(hl:FU l):PC 218 [sl Ab l] (vb true):=by
 have hfl:l.length<=1073741824:=hl.few;refine Ps CQ func218 rfl (Nz rfl) (Xi {q:Nat // q<=l.length} (Xi (fun q=>⟨[(0,sl Ab l),(3,vi q.1)],[],Ae⟩) (Xi (fun q=>l.length-q.1) (Yi (Xi ⟨0,Aj _⟩ ?_) ?_))))
 .exact⟨Z2,Tv,Fh,Tv⟩
 intro⟨i,i1⟩;refine Yi (fun h1=>?_) (fun h1=>?_)
 .have h1:(i:Int)<((l.map Ab).length:Int):=h1;have n1:=Dh h1;refine Xi (Ab l[i]) (Yi (DC n1) (Yi rfl (yN (C1 (C2 (cb (hl.val _ (Ai n1)) (Aa5 l[i].ver)) (Yi (Ii i ch) (Xi ⟨i+1,n1⟩ ?_)))))));exact⟨Dl l.length i ch,Z2,Tv,Fh,Tv⟩
 refine C1 (C2 (cb (dG hl.inc) (c80 l hl.few)) ?_);exact .refl _
theorem Jo{a b:CS}(Ef:¬a=b)(h:Dq b a=false):Dq a b=true:=by
 cases e:Dq a b with
 |true=>rfl
 |false=>exact absurd (Hd e h) Ef
theorem t6{v w:Ver}(h1:v.a=w.a)(h2:v.b=w.b)(h3:v.c=w.c):v=w:=by
 cases v;cases w;simp only at h1 h2 h3;subst h1;subst h2;subst h3;rfl
theorem Ahm(hl:FU l)(aC:FU m):PC 156 [sl Ab l,sl Ab m] (.tup [sl CJ (rm l m),vi 0]):=by
 have hfl:l.length<=1073741824:=hl.few;have hfm:m.length<=1073741824:=aC.few;refine Ps (pC [] [14,16,18]) func156 rfl (Nz rfl) (C1 (C2 (AcY l hl) (C1 (C2 (AcY m aC) (Xi {q:Nat×Nat×List Mv // q.1<=l.length/\q.2.1<=m.length/\q.2.2.length<=q.1+q.2.1/\q.2.2++rm (l.drop q.1) (m.drop q.2.1)=rm l m} (Xi (fun q=>⟨[(0,sl Ab l),(1,sl Ab m),(6,.slice (.id 19 3) (q.1.2.2.map CJ)),(7,vi q.1.1),(8,vi q.1.2.1)],[(19,.tok 3 q.1.2.2.length)],Ae⟩) (Xi (fun q=>l.length+m.length-(q.1.1+q.1.2.1)) (Yi (Xi ⟨(0,0,[]),Aj _,Aj _,Aj _,rfl⟩ ?_) ?_))))))))
 .exact⟨Z5,Z1,Fh,Tv⟩
 intro⟨⟨i,k,o⟩,nI,hi2,hi3,Qq⟩;have hi2:k<=m.length:=hi2;have hi3:o.length<=i+k:=hi3;have Qq:o++rm (l.drop i) (m.drop k)=rm l m:=Qq;refine Yi (fun h1=>?_) (fun h1=>?_)
 .have h1:(i:Int)<((l.map Ab).length:Int):=h1;have n1:=Dh h1;refine yN (Yi (fun h2=>?_) (fun h2=>?_))
  .have h2:(k:Int)=((m.map Ab).length:Int):=h2;have nk:m.drop k=[]:=AN (by have q:=h2;rw[Lm]at q;omega);refine Yi aa1 (Xi (Ab l[i]) (Yi (DC n1) (Yi rfl (yN (Yi (fun _=>?_) (fun hf=>absurd h1 hf))))));refine Xi (Ab l[i]) (Yi (DC n1) (Yi rfl (Yi (fun h3=>?_) (fun h3=>?_))))
   .have h3:(l[i].path:CS)=l[i].path:=h3;refine Yi aa1 (Xi (Ab l[i]) (Yi (DC n1) (Yi rfl (yN (C1 (C2 (wz l[i].ver (hl.val _ (Ai n1))) (yN (Yi (fun h4=>?_) (fun h4=>?_)))))))))
    .have h4:(k:Int)<((m.map Ab).length:Int):=h4;have n4:=Dh h4;exact absurd h4 (by have q:=h2;omega)
    have h4:¬((k:Int)<((m.map Ab).length:Int)):=h4;have n4:=BB h4;refine Yi aa1 (cU [(0,sl Ab l),(1,sl Ab m),(6,.slice (.id 19 3) (o.map CJ)),(7,vi i),(8,vi k),(9,.ref 9 0),(10,vb false)] [(9,.cells [vs l[i].path,vi (place l[i].ver),vi (-1)]),(19,.tok 3 o.length)] Z7 Z2 (Yi (Ii i ch) (Yi (fun hf=>absurd hf h4) (fun _=>?_))));refine Yi aa1 (cU [(0,sl Ab l),(1,sl Ab m),(6,.slice (.id 19 3) (o.map CJ)),(7,vi (i+1)),(8,vi k),(9,.ref 9 0),(10,vb false)] [(9,.cells [vs l[i].path,vi (place l[i].ver),vi (-1)]),(19,.tok 3 o.length)] Z7 Z2 (Yi (fun h5=>?_) (fun h5=>?_)))
    .have h5:((place l[i].ver):Int)≠((-1):Int):=h5;refine yN (Yi (Zi rfl ch Wk) ?_);have eO:=rmA Qq n1 (.inl nk);rw[bo h5]at eO;refine Xi ⟨(i+1,k,(o++[(⟨l[i].path,(place l[i].ver),-1⟩:Mv)])),by show i+1<=l.length;omega,by show k<=m.length;omega,by show(o++[(⟨l[i].path,(place l[i].ver),-1⟩:Mv)]).length<=i+1+(k);rw[Ac];show o.length+1<=_;omega,eO⟩ ?_;exact⟨by show l.length+m.length-((i+1)+k)<l.length+m.length-(i+k);omega,⟨Zr,Zr,⟨(show AV.slice (.id 19 3) (o.map CJ++[[vs l[i].path,vi (place l[i].ver),vi (-1)]])=.slice (.id 19 3) ((o++[(⟨l[i].path,(place l[i].ver),-1⟩:Mv)]).map CJ) by rw[Ar];rfl),rfl⟩,Zr,Zr,Tv⟩,⟨⟨zw,rfl⟩,Tv⟩,Fh,Tv⟩
    have h5:((place l[i].ver):Int)=((-1):Int):=Aq h5;have eO:=rmA Qq n1 (.inl nk);rw[WV h5]at eO;refine Xi ⟨(i+1,k,o),by show i+1<=l.length;omega,by show k<=m.length;omega,by show o.length<=i+1+(k);omega,eO⟩ ?_;exact⟨by show l.length+m.length-((i+1)+k)<l.length+m.length-(i+k);omega,Z5,Z1,Fh,Tv⟩
   have h3:¬(l[i].path:CS)=l[i].path:=h3;exact absurd rfl h3
  have h2:¬((k:Int)=((m.map Ab).length:Int)):=h2;have nk:k<m.length:=by have q:=h2;rw[Lm]at q;omega
  refine Yi (fun _=>?_) (fun hf=>absurd h1 hf);refine Xi (Ab l[i]) (Yi (DC n1) (Yi rfl (Xi (Ab m[k]) (Yi (DC nk) (Yi rfl (Yi (fun h9=>?_) (fun h9=>?_)))))))
  .have h9:Dq m[k].path l[i].path=false:=(DZ _ _).trans h9;refine Yi aa1 (Xi (Ab l[i]) (Yi (DC n1) (Yi rfl (yN (Yi (fun _=>?_) (fun hf=>absurd h1 hf))))));refine Xi (Ab l[i]) (Yi (DC n1) (Yi rfl (Yi (fun Is=>?_) (fun Is=>?_))))
   .have Is:(l[i].path:CS)=l[i].path:=Is;refine Yi aa1 (Xi (Ab l[i]) (Yi (DC n1) (Yi rfl (yN (C1 (C2 (wz l[i].ver (hl.val _ (Ai n1))) (yN (Yi (fun IM=>?_) (fun IM=>?_)))))))))
    .have IM:(k:Int)<((m.map Ab).length:Int):=IM;have n11:=Dh IM;refine Xi (Ab l[i]) (Yi (DC n1) (Yi rfl (yN (Xi (Ab m[k]) (Yi (DC n11) (Yi rfl (yN (Yi (fun Vu=>?_) (fun Vu=>?_)))))))))
     .have Vu:(l[i].path:CS)=m[k].path/\(l[i].ver.a:Int)=m[k].ver.a/\(l[i].ver.b:Int)=m[k].ver.b/\(l[i].ver.c:Int)=m[k].ver.c/\True:=Vu;refine Yi aa1 (cU [(0,sl Ab l),(1,sl Ab m),(6,.slice (.id 19 3) (o.map CJ)),(7,vi i),(8,vi k),(9,.ref 9 0),(10,vb true)] [(9,.cells [vs l[i].path,vi (place l[i].ver),vi (-1)]),(19,.tok 3 o.length)] Z7 Z2 (Yi (Ii i ch) (Yi (fun _=>?_) (fun hf=>absurd IM hf))));refine Xi (Ab m[k]) (Yi (DC n11) (Yi rfl (Yi (fun J6=>?_) (fun J6=>?_))))
      .have J6:(m[k].path:CS)=l[i].path:=J6;refine Yi aa1 (cU [(0,sl Ab l),(1,sl Ab m),(6,.slice (.id 19 3) (o.map CJ)),(7,vi (i+1)),(8,vi k),(9,.ref 9 0),(10,vb true)] [(9,.cells [vs l[i].path,vi (place l[i].ver),vi (-1)]),(19,.tok 3 o.length)] Z7 Z2 (Xi (Ab m[k]) (Yi (DC n11) (Yi rfl (yN (C1 (C2 (wz m[k].ver (aC.val _ (Ai nk))) (yN (Yi (Ii k ch) (cU [(0,sl Ab l),(1,sl Ab m),(6,.slice (.id 19 3) (o.map CJ)),(7,vi (i+1)),(8,vi (k+1)),(9,.ref 9 0),(10,vb true)] [(9,.cells [vs l[i].path,vi (place l[i].ver),vi (place m[k].ver)]),(19,.tok 3 o.length)] Z7 Z2 ?_))))))))))
       have eP:(place l[i].ver)=(place m[k].ver):=Aa place (show l[i].ver=m[k].ver from t6 Vu.2.1 Vu.2.2.1 Vu.2.2.2.1);have eO:=rmC Qq n1 nk (Vu.1);rw[WV eP]at eO;refine Xi ⟨(i+1,k+1,o),by show i+1<=l.length;omega,by show k+1<=m.length;omega,by show o.length<=i+1+(k+1);omega,eO⟩ ?_;exact⟨by show l.length+m.length-((i+1)+(k+1))<l.length+m.length-(i+k);omega,Z5,Z1,Fh,Tv⟩
      have J6:¬(m[k].path:CS)=l[i].path:=J6;exact absurd Vu.1.symm J6
     have Vu:¬((l[i].path:CS)=m[k].path/\(l[i].ver.a:Int)=m[k].ver.a/\(l[i].ver.b:Int)=m[k].ver.b/\(l[i].ver.c:Int)=m[k].ver.c/\True):=Vu;refine Yi aa1 (cU [(0,sl Ab l),(1,sl Ab m),(6,.slice (.id 19 3) (o.map CJ)),(7,vi i),(8,vi k),(9,.ref 9 0),(10,vb false)] [(9,.cells [vs l[i].path,vi (place l[i].ver),vi (-1)]),(19,.tok 3 o.length)] Z7 Z2 (Yi (Ii i ch) (Yi (fun _=>?_) (fun hf=>absurd IM hf))));refine Xi (Ab m[k]) (Yi (DC n11) (Yi rfl (Yi (fun Vv=>?_) (fun Vv=>?_))))
     .have Vv:(m[k].path:CS)=l[i].path:=Vv;refine Yi aa1 (cU [(0,sl Ab l),(1,sl Ab m),(6,.slice (.id 19 3) (o.map CJ)),(7,vi (i+1)),(8,vi k),(9,.ref 9 0),(10,vb false)] [(9,.cells [vs l[i].path,vi (place l[i].ver),vi (-1)]),(19,.tok 3 o.length)] Z7 Z2 (Xi (Ab m[k]) (Yi (DC n11) (Yi rfl (yN (C1 (C2 (wz m[k].ver (aC.val _ (Ai nk))) (yN (Yi (Ii k ch) (cU [(0,sl Ab l),(1,sl Ab m),(6,.slice (.id 19 3) (o.map CJ)),(7,vi (i+1)),(8,vi (k+1)),(9,.ref 9 0),(10,vb false)] [(9,.cells [vs l[i].path,vi (place l[i].ver),vi (place m[k].ver)]),(19,.tok 3 o.length)] Z7 Z2 (Yi (fun Ei=>?_) (fun Ei=>?_))))))))))))
      .have Ei:((place l[i].ver):Int)≠((place m[k].ver):Int):=Ei;refine yN (Yi (Zi rfl ch Wk) ?_);have eO:=rmC Qq n1 nk (Vv.symm);rw[bo Ei]at eO;refine Xi ⟨(i+1,k+1,(o++[(⟨l[i].path,(place l[i].ver),(place m[k].ver)⟩:Mv)])),by show i+1<=l.length;omega,by show k+1<=m.length;omega,by show(o++[(⟨l[i].path,(place l[i].ver),(place m[k].ver)⟩:Mv)]).length<=i+1+(k+1);rw[Ac];show o.length+1<=_;omega,eO⟩ ?_;exact⟨by show l.length+m.length-((i+1)+(k+1))<l.length+m.length-(i+k);omega,⟨Zr,Zr,⟨(show AV.slice (.id 19 3) (o.map CJ++[[vs l[i].path,vi (place l[i].ver),vi (place m[k].ver)]])=.slice (.id 19 3) ((o++[(⟨l[i].path,(place l[i].ver),(place m[k].ver)⟩:Mv)]).map CJ) by rw[Ar];rfl),rfl⟩,Zr,Zr,Tv⟩,⟨⟨zw,rfl⟩,Tv⟩,Fh,Tv⟩
      have Ei:((place l[i].ver):Int)=((place m[k].ver):Int):=Aq Ei;have eO:=rmC Qq n1 nk (Vv.symm);rw[WV Ei]at eO;refine Xi ⟨(i+1,k+1,o),by show i+1<=l.length;omega,by show k+1<=m.length;omega,by show o.length<=i+1+(k+1);omega,eO⟩ ?_;exact⟨by show l.length+m.length-((i+1)+(k+1))<l.length+m.length-(i+k);omega,Z5,Z1,Fh,Tv⟩
     have Vv:¬(m[k].path:CS)=l[i].path:=Vv;refine Yi aa1 (cU [(0,sl Ab l),(1,sl Ab m),(6,.slice (.id 19 3) (o.map CJ)),(7,vi (i+1)),(8,vi k),(9,.ref 9 0),(10,vb false)] [(9,.cells [vs l[i].path,vi (place l[i].ver),vi (-1)]),(19,.tok 3 o.length)] Z7 Z2 (Yi (fun np=>?_) (fun np=>?_)))
     .have np:((place l[i].ver):Int)≠((-1):Int):=np;refine yN (Yi (Zi rfl ch Wk) ?_);have eO:=rmA Qq n1 (.inr ⟨nk,Jo (fun e=>Vv e.symm) h9⟩);rw[bo np]at eO;refine Xi ⟨(i+1,k,(o++[(⟨l[i].path,(place l[i].ver),-1⟩:Mv)])),by show i+1<=l.length;omega,by show k<=m.length;omega,by show(o++[(⟨l[i].path,(place l[i].ver),-1⟩:Mv)]).length<=i+1+(k);rw[Ac];show o.length+1<=_;omega,eO⟩ ?_;exact⟨by show l.length+m.length-((i+1)+k)<l.length+m.length-(i+k);omega,⟨Zr,Zr,⟨(show AV.slice (.id 19 3) (o.map CJ++[[vs l[i].path,vi (place l[i].ver),vi (-1)]])=.slice (.id 19 3) ((o++[(⟨l[i].path,(place l[i].ver),-1⟩:Mv)]).map CJ) by rw[Ar];rfl),rfl⟩,Zr,Zr,Tv⟩,⟨⟨zw,rfl⟩,Tv⟩,Fh,Tv⟩
     have np:((place l[i].ver):Int)=((-1):Int):=Aq np;have eO:=rmA Qq n1 (.inr ⟨nk,Jo (fun e=>Vv e.symm) h9⟩);rw[WV np]at eO;refine Xi ⟨(i+1,k,o),by show i+1<=l.length;omega,by show k<=m.length;omega,by show o.length<=i+1+(k);omega,eO⟩ ?_;exact⟨by show l.length+m.length-((i+1)+k)<l.length+m.length-(i+k);omega,Z5,Z1,Fh,Tv⟩
    have IM:¬((k:Int)<((m.map Ab).length:Int)):=IM;have n11:=BB IM;exact absurd nk n11
   have Is:¬(l[i].path:CS)=l[i].path:=Is;exact absurd rfl Is
  have h9:Dq m[k].path l[i].path=true:=(DZ _ _).trans (by simpa using h9);refine Yi aa1 (Xi (Ab m[k]) (Yi (DC nk) (Yi rfl (yN (Yi (fun _=>?_) (fun hf=>absurd h1 hf))))));refine Xi (Ab l[i]) (Yi (DC n1) (Yi rfl (Yi (fun zl=>?_) (fun zl=>?_))))
  .have zl:(l[i].path:CS)=m[k].path:=zl;exact absurd h9 (by rw[zl,Cm];decide)
  have zl:¬(l[i].path:CS)=m[k].path:=zl;refine Yi aa1 (Yi (fun Zj=>?_) (fun Zj=>?_))
  .have Zj:(k:Int)<((m.map Ab).length:Int):=Zj;have n25:=Dh Zj;refine Xi (Ab m[k]) (Yi (DC n25) (Yi rfl (Yi (fun cu=>?_) (fun cu=>?_))))
   .have cu:(m[k].path:CS)=m[k].path:=cu;refine Yi aa1 (cU [(0,sl Ab l),(1,sl Ab m),(6,.slice (.id 19 3) (o.map CJ)),(7,vi i),(8,vi k),(9,.ref 9 0),(10,vb false)] [(9,.cells [vs m[k].path,vi (-1),vi (-1)]),(19,.tok 3 o.length)] Z7 Z2 (Xi (Ab m[k]) (Yi (DC n25) (Yi rfl (yN (C1 (C2 (wz m[k].ver (aC.val _ (Ai nk))) (yN (Yi (Ii k ch) (cU [(0,sl Ab l),(1,sl Ab m),(6,.slice (.id 19 3) (o.map CJ)),(7,vi i),(8,vi (k+1)),(9,.ref 9 0),(10,vb false)] [(9,.cells [vs m[k].path,vi (-1),vi (place m[k].ver)]),(19,.tok 3 o.length)] Z7 Z2 (Yi (fun Ud=>?_) (fun Ud=>?_))))))))))))
    .have Ud:((-1):Int)≠((place m[k].ver):Int):=Ud;refine yN (Yi (Zi rfl ch Wk) ?_);have eO:=rmB Qq nk (.inr ⟨n1,h9⟩);rw[bo Ud]at eO;refine Xi ⟨(i,k+1,(o++[(⟨m[k].path,-1,(place m[k].ver)⟩:Mv)])),by show i<=l.length;omega,by show k+1<=m.length;omega,by show(o++[(⟨m[k].path,-1,(place m[k].ver)⟩:Mv)]).length<=i+(k+1);rw[Ac];show o.length+1<=_;omega,eO⟩ ?_;exact⟨by show l.length+m.length-(i+(k+1))<l.length+m.length-(i+k);omega,⟨Zr,Zr,⟨(show AV.slice (.id 19 3) (o.map CJ++[[vs m[k].path,vi (-1),vi (place m[k].ver)]])=.slice (.id 19 3) ((o++[(⟨m[k].path,-1,(place m[k].ver)⟩:Mv)]).map CJ) by rw[Ar];rfl),rfl⟩,Zr,Zr,Tv⟩,⟨⟨zw,rfl⟩,Tv⟩,Fh,Tv⟩
    have Ud:((-1):Int)=((place m[k].ver):Int):=Aq Ud;have eO:=rmB Qq nk (.inr ⟨n1,h9⟩);rw[WV Ud]at eO;refine Xi ⟨(i,k+1,o),by show i<=l.length;omega,by show k+1<=m.length;omega,by show o.length<=i+(k+1);omega,eO⟩ ?_;exact⟨by show l.length+m.length-(i+(k+1))<l.length+m.length-(i+k);omega,Z5,Z1,Fh,Tv⟩
   have cu:¬(m[k].path:CS)=m[k].path:=cu;exact absurd rfl cu
  have Zj:¬((k:Int)<((m.map Ab).length:Int)):=Zj;have n25:=BB Zj;exact absurd nk n25
 have h1:¬((i:Int)<((l.map Ab).length:Int)):=h1;have n1:=BB h1;refine Yi (fun jw=>?_) (fun jw=>?_)
 .have jw:(k:Int)<((m.map Ab).length:Int):=jw;have n31:=Dh jw;refine yN (Yi (fun zn=>?_) (fun zn=>?_))
  .have zn:(k:Int)=((m.map Ab).length:Int):=zn;exact absurd zn (by have q:=jw;omega)
  have zn:¬((k:Int)=((m.map Ab).length:Int)):=zn;refine Yi (fun hf=>absurd hf h1) (fun _=>?_);refine Yi aa1 (Xi (Ab m[k]) (Yi (DC n31) (Yi rfl (yN (Yi (fun hf=>absurd hf h1) (fun _=>?_))))));refine Yi aa1 (Yi (fun _=>?_) (fun hf=>absurd jw hf));refine Xi (Ab m[k]) (Yi (DC n31) (Yi rfl (Yi (fun cw=>?_) (fun cw=>?_))))
  .have cw:(m[k].path:CS)=m[k].path:=cw;refine Yi aa1 (cU [(0,sl Ab l),(1,sl Ab m),(6,.slice (.id 19 3) (o.map CJ)),(7,vi i),(8,vi k),(9,.ref 9 0),(10,vb false)] [(9,.cells [vs m[k].path,vi (-1),vi (-1)]),(19,.tok 3 o.length)] Z7 Z2 (Xi (Ab m[k]) (Yi (DC n31) (Yi rfl (yN (C1 (C2 (wz m[k].ver (aC.val _ (Ai n31))) (yN (Yi (Ii k ch) (cU [(0,sl Ab l),(1,sl Ab m),(6,.slice (.id 19 3) (o.map CJ)),(7,vi i),(8,vi (k+1)),(9,.ref 9 0),(10,vb false)] [(9,.cells [vs m[k].path,vi (-1),vi (place m[k].ver)]),(19,.tok 3 o.length)] Z7 Z2 (Yi (fun dw=>?_) (fun dw=>?_))))))))))))
   .have dw:((-1):Int)≠((place m[k].ver):Int):=dw;refine yN (Yi (Zi rfl ch Wk) ?_);have eO:=rmB Qq n31 (.inl (AN (by have q:=h1;rw[Lm]at q;omega)));rw[bo dw]at eO;refine Xi ⟨(i,k+1,(o++[(⟨m[k].path,-1,(place m[k].ver)⟩:Mv)])),by show i<=l.length;omega,by show k+1<=m.length;omega,by show(o++[(⟨m[k].path,-1,(place m[k].ver)⟩:Mv)]).length<=i+(k+1);rw[Ac];show o.length+1<=_;omega,eO⟩ ?_;exact⟨by show l.length+m.length-(i+(k+1))<l.length+m.length-(i+k);omega,⟨Zr,Zr,⟨(show AV.slice (.id 19 3) (o.map CJ++[[vs m[k].path,vi (-1),vi (place m[k].ver)]])=.slice (.id 19 3) ((o++[(⟨m[k].path,-1,(place m[k].ver)⟩:Mv)]).map CJ) by rw[Ar];rfl),rfl⟩,Zr,Zr,Tv⟩,⟨⟨zw,rfl⟩,Tv⟩,Fh,Tv⟩
   have dw:((-1):Int)=((place m[k].ver):Int):=Aq dw;have eO:=rmB Qq n31 (.inl (AN (by have q:=h1;rw[Lm]at q;omega)));rw[WV dw]at eO;refine Xi ⟨(i,k+1,o),by show i<=l.length;omega,by show k+1<=m.length;omega,by show o.length<=i+(k+1);omega,eO⟩ ?_;exact⟨by show l.length+m.length-(i+(k+1))<l.length+m.length-(i+k);omega,Z5,Z1,Fh,Tv⟩
  have cw:¬(m[k].path:CS)=m[k].path:=cw;exact absurd rfl cw
 have jw:¬((k:Int)<((m.map Ab).length:Int)):=jw;have n31:=BB jw;have e1:o=rm l m:=by rw[<-Qq,AN (by have q:=h1;rw[Lm]at q;omega),AN (by have q:=jw;rw[Lm]at q;omega),rm,Bg]
 exact .of_eq (Aa (fun z=>AV.tup [sl CJ z,vi 0]) e1)
theorem AcU  : PC 220 [nzA,vi 0,vi 0] (.tup []):=by
 refine Ps CQ func220 rfl (Nz rfl) (Yi (Ii 0 ch) (Xi {q:Nat // q=0} (Xi (fun q=>⟨[(0,nzA),(1,vi 0),(2,vi 0),(6,vi (0+1))],[],Ae⟩) (Xi (fun q=>q.1) (Yi (Xi ⟨0,rfl⟩ ?_) ?_)))))
 .exact⟨Z4,Tv,Fh,Tv⟩
 intro⟨i,i1⟩;refine Yi (fun h1=>?_) (fun h1=>?_)
 .exact absurd h1 Wk
 exact .refl _
theorem AcT:PC 160 [nzA,vi 0,vi 0,vi lim] (.tup []):=by
 refine Ps CQ func160 rfl (Nz rfl) (Xi {q:Nat // q=0} (Xi (fun q=>⟨[(0,nzA),(1,vi 0),(2,vi 0),(3,vi lim),(8,vb true),(9,vb true)],[],Ae⟩) (Xi (fun q=>q.1) (Yi (Xi ⟨0,rfl⟩ ?_) ?_))))
 .exact⟨Z6,Tv,Fh,Tv⟩
 intro⟨i,i1⟩;refine Yi (by show Az ((0:Int)-(0:Int));unfold Az;omega) (Yi (fun h1=>?_) (fun h1=>?_))
 .refine C1 (C2 AcU ?_);exact .refl _
 exact absurd Wk h1
theorem AcV(hb:PC 161 [.v (.int .u64 (IntKind.u64.wrap (0:Int)))] (vi lim)):PC 99 [nzA] (.tup []):=by
 refine Ps CQ func99 rfl (Nz rfl) (C1 (C2 hb (C1 (C2 (AcT lim) ?_))));exact .refl _
theorem Ahl  : PC 183 [nzA] nzA:=by
 refine Ps CQ func183 rfl (Nz rfl) (Yi (fun _=>?_) (fun h=>absurd Wk h));exact .refl _
theorem Xh:FU []:=⟨show 0<=1073741824 by decide,B2 _,List.Pairwise.nil⟩
theorem Ahk(hs:PC 99 [nzA] (.tup [])):PC 130 [sl Ab ([]:List Sl),sl Ab ([]:List Sl)] (.tup [nzA,vi 0]):=by
 refine Ps ⟨[],[],[],[(34,[12000,12500])],[],[],[],[],[],[],[1,2,3,4,5,6,8,9,10,11,12,13,14,16,17,18,19,20,21]⟩ func130 rfl (Nz rfl) (cU [(0,sl Ab ([]:List Sl)),(1,sl Ab ([]:List Sl))] [] Z2 Tv (Xi (.gen [] 1) (Yi rfl (AU.to2 (te [] Xh) ?_))));refine cU [(0,sl Ab ([]:List Sl)),(1,sl Ab ([]:List Sl)),(6,.mref 12000),(7,vb true)] [(12000,.map BW (H3 []))] Z4 Z1 (Xi (.gen [] 1) (Yi rfl (AU.to2 (te [] Xh) ?_)));refine cU [(0,sl Ab ([]:List Sl)),(1,sl Ab ([]:List Sl)),(6,.mref 12000),(7,vb true),(8,.mref 12500),(9,vb true)] [(12000,.map BW (H3 [])),(12500,.map BW (H3 []))] Z6 Z2 (cU [(0,sl Ab ([]:List Sl)),(1,sl Ab ([]:List Sl)),(6,.mref 12000),(8,.mref 12500)] [(12000,.map BW (H3 [])),(12500,.map BW (H3 []))] Z4 Z2 (cU [(0,sl Ab ([]:List Sl)),(1,sl Ab ([]:List Sl)),(6,.mref 12000),(8,.mref 12500),(10,nzA)] [(12000,.map BW (H3 [])),(12500,.map BW (H3 []))] Z5 Z2 (Xi (.gen [] 1) (Yi rfl (AU.to2 (wx ([]:List Sl) (show 0<=1073741824 by decide)) ?_)))));have b2:Bi 4 (([]:List Sl).map Ab)/\(([]:List Sl).map Ab).length=(([]:List Sl).map Ab).length/\((([]:List Sl).map Ab).length+(([]:List Sl).map Ab).length)*40<=140737488355328/\(([]:List Sl).map Ab).length+(([]:List Sl).map Ab).length<=9223372036854775807:=⟨(BV (enc:=Ab) (n:=4) (fun _=>rfl) ([]:List Sl)),rfl,(by simp only[Lm,AC];omega),(by simp only[Lm,AC];omega)⟩;refine Yi b2 (Xi {q:Nat // q=0} (Xi (fun q=>⟨[(6,.mref 12000),(8,.mref 12500),(10,nzA),(37,.slice (.id 13500 4) ((([]:List Sl).map Ab)++(([]:List Sl).map Ab))),(38,vi (((([]:List Sl).map Ab)++(([]:List Sl).map Ab)):C0).length),(39,vi q.1)],[(12000,.rom BW (H3 [])),(12500,.rom BW (H3 [])),(13500,.tok 4 ((([]:List Sl).map Ab).length+(([]:List Sl).map Ab).length))],Ae⟩) (Xi (fun q=>q.1) (Yi (Xi ⟨0,rfl⟩ ?_) ?_))))
 .exact⟨Z6,Z3,Fh,Tv⟩
 intro⟨i,i1⟩;refine Yi (fun h3=>?_) (fun h3=>?_)
 .exact absurd h3 (by show ¬((i:Int)<0);omega)
 refine cU [(6,.mref 12000),(8,.mref 12500),(10,nzA)] [(12000,.rom BW (H3 [])),(12500,.rom BW (H3 []))] Z3 Z2 (C1 (C2 hs (cU [(6,.mref 12000),(8,.mref 12500),(10,nzA)] [(12000,.rom BW (H3 [])),(12500,.rom BW (H3 []))] Z3 Z2 (cU [(6,.mref 12000),(8,.mref 12500),(10,nzA),(13,.v (.func (.func 182) #[] #[]))] [(12000,.rom BW (H3 [])),(12500,.rom BW (H3 []))] Z4 Z2 (cU [(6,.mref 12000),(8,.mref 12500),(10,nzA),(13,.v (.func (.func 182) #[] #[])),(14,nzA)] [(12000,.rom BW (H3 [])),(12500,.rom BW (H3 []))] Z5 Z2 (C1 (C2 Ahl (Xi {q:Nat // q=0} (Xi (fun q=>⟨[(6,.mref 12000),(8,.mref 12500),(13,.v (.func (.func 182) #[] #[])),(14,nzA),(52,nzA),(53,vi 0),(54,vi q.1)],[(12000,.rom BW (H3 [])),(12500,.rom BW (H3 []))],Ae⟩) (Xi (fun q=>q.1) (Yi (Xi ⟨0,rfl⟩ ?_) ?_)))))))))))
 .exact⟨Z7,Z2,Fh,Tv⟩
 intro⟨i,i1⟩;refine Yi (fun h4=>?_) (fun h4=>?_)
 .exact absurd h4 (by show ¬((i:Int)<0);omega)
 refine cU [(14,nzA)] [] Z1 Tv ?_
 exact .refl _
theorem Qj(p:List CS):∃t:List CS,t.Perm p/\(t.map Ks).Pairwise fun a b=>a<=b:=by
 have e:∀q:CS,Sr (Ks q)=q:=fun q=>by cases q;simp
 have e2:∀q:List UInt8,Ks (Sr q)=q:=fun q=>by simp
 refine⟨((p.map Ks).mergeSort fun a b=>decide (a<=b)).map Sr,?_,?_⟩
 .have h:=(NG (p.map Ks) fun a b=>decide (a<=b)).map Sr
  rwa [Bw,show(Sr ∘ Ks)=id from funext e,Hp]at h
 .rw[Bw,show(Ks ∘ Sr)=id from funext e2,Hp];have h:=Tf (le:=fun a b:List UInt8=>decide (a<=b)) (fun a b c h1 h2=>AB (List.le_trans (AT h1) (AT h2))) (fun a b=>by rcases List.le_total a b with h | h<;>simp[h]) (p.map Ks)
  exact h.imp fun h=>AT h
theorem mF(t:List CS):(B8 t).length<=t.length:=by
 have h:=Mq (t.map Ks);rw[Lm]at h;unfold B8;rw[Lm];exact h
theorem YS(h:FU l)(k:FU m):(rm l m).length<=l.length+m.length:=by
 obtain⟨t,ht,hs⟩:=Qj ((l++m).map (·.path));rw[<-bm h k ht hs];refine Av (List.length_filterMap_le ..) (Av (mF t) ?_);rw[ht.length_eq,Lm,Ac];exact Ao _
theorem Aga(hl:FU l)(aC:FU m)(h1:l.length<=16)(h2:m.length<=16):PC 130 [sl Ab l,sl Ab m] (.tup [sl CJ (rm l m),vi 0]):=by
 obtain⟨t,ht,hs⟩:=Qj ((l++m).map (·.path))
 by_cases e:l++m=[]
 .obtain⟨rfl,rfl⟩:=List.append_eq_nil_iff.1 e;obtain⟨lim,_,hb⟩:=md 0 (Aj _);have q:=Ahk (AcV lim hb);rw[show rm [] []=[] by rw[rm]];exact AU.mono q fun r h' ⟨e1,e2⟩=>⟨.tup [sl CJ [],vi 0],by rw[e1];exact .tup ⟨.nil,.refl _,trivial⟩,rfl,e2⟩
 .rw[<-bm hl aC ht hs];exact o75 l m t hl aC ch e ht hs
theorem D8{x:List Rl}(h:J0 x s=0)(hl:BD s):FU s:=by
 refine⟨hl,fun y hy=>?_,Jl (Kw h)⟩;have q:(By x y).isSome=true:=by
  have q:=h;unfold J0 at q;rw[Ax (Sb h),Ax (Kw h)]at q;split at q
  .rename_i h1;exact AS.1 h1 y hy
  .cases q
 cases e:By x y with
 |none=>rw[e]at q;cases q
 |some r=>
  unfold By at e;rw[AA (fun c=>c (Sb h))]at e;have e1:Fa r=y:=AT (DA (p:=fun r=>decide (Fa r=y)) e);rw[<-e1];exact((B7 (Sb h)).1 r (AX e)).val
theorem M4{x:List Rl}(h:Dp x s=0):J0 x s=0:=by
 unfold Dp at h;split at h
 .assumption
 .exact h
def D2:List CS:=(rm l m).map (·.path)
def upC:List AV:=[.cmap BW (Ch x l),.cmap BW (Ch x m),sl Ab l,sl Ab m,sl Af (D2 l m)]
def Ix:Int:=if Dp x l=0 then Dp x m else Dp x l
def fc:AV:=if Ix x l m=0 then .tup [.cptr (upC x l m),vi 0]else .tup [.v (.pointer none),vi (Ix x l m)]
theorem ua(s:List Sl)(hx:∀r∈x,CX r)(hl:BD s)(h0:Dp x s=0):PC 34 [.agg (Ic x ifs),sl Ab s] (vi (Dp x s)):=by
 refine Ps (pC [2] []) func34 rfl (Nz rfl) (yN (C1 (C2 (by have q:=OF x ifs s hx hl;rw[I3,Ax h0]at q;exact q) ?_)));exact BC.of_eq (Aa vi h0.symm)
theorem t8(s:List Sl)(hx:∀r∈x,CX r)(hl:BD s)(h0:¬Dp x s=0):PC 34 [.agg (Ic x ifs),sl Ab s] (vi (Dp x s)):=by
 refine Ps (pC [2] []) func34 rfl (Nz rfl) (yN (C1 (C2 (by have q:=OF x ifs s hx hl;rw[I3,AA h0]at q;exact q) ?_)));exact .refl _
theorem yt(s:List Sl)(hx:∀r∈x,CX r)(hl:BD s):PC 34 [HZ x ifs,sl Ab s] (vi (Dp x s)):=by
 by_cases h:Dp x s=0
 .exact ua x ifs s hx hl h
 .exact t8 x ifs s hx hl h
theorem AcD(l m:List Sl)(hx:∀r∈x,CX r)(hl:BD l)(_hm_:BD m)(c1:¬Dp x l=0):PC 73 [.agg (Ic x ifs),sl Ab l,sl Ab m] (fc x l m):=by
 refine Ps (pC [3] []) func73 rfl (Nz rfl) (yN (C1 (C2 (by have q:=OF x ifs l hx hl;rw[I3,AA c1]at q;exact q) ?_)));refine Yi (fun h1=>?_) (fun h1=>?_)
 .have h1:((Dp x l):Int)≠(0:Int):=h1;exact BC.of_eq (show AV.tup [.v (.pointer none),vi (Dp x l)]=fc x l m by rw[fc,Ix,AA c1,AA c1])
 have h1:((Dp x l):Int)=(0:Int):=Aq h1;exact absurd h1 c1
theorem AcE(l m:List Sl)(hx:∀r∈x,CX r)(hl:BD l)(Kg:BD m)(c1:Dp x l=0)(c2:¬Dp x m=0):PC 73 [.agg (Ic x ifs),sl Ab l,sl Ab m] (fc x l m):=by
 refine Ps (pC [3] []) func73 rfl (Nz rfl) (yN (C1 (C2 (by have q:=OF x ifs l hx hl;rw[I3,Ax c1]at q;exact q) ?_)));refine Yi (fun h=>absurd h Wk) (fun _=>?_);refine yN (C1 (C2 (by have q:=OF x ifs m hx Kg;rw[I3,AA c2]at q;exact q) ?_));refine Yi (fun h1=>?_) (fun h1=>?_)
 .have h1:((Dp x m):Int)≠(0:Int):=h1;exact BC.of_eq (show AV.tup [.v (.pointer none),vi (Dp x m)]=fc x l m by rw[fc,Ix,Ax c1,AA c2])
 have h1:((Dp x m):Int)=(0:Int):=Aq h1;exact absurd h1 c2
theorem AcF(l m:List Sl)(hx:∀r∈x,CX r)(hl:BD l)(Kg:BD m)(Ei:l.length<=16)(Dd:m.length<=16)(c1:Dp x l=0)(c2:Dp x m=0):PC 73 [.agg (Ic x ifs),sl Ab l,sl Ab m] (fc x l m):=by
 have hrm:(rm l m).length<=1000:=by have q:=YS l m (D8 (M4 c1) hl) (D8 (M4 c2) Kg);omega
 refine Ps ⟨[3],[],[],[],[39],[],[],[(47,(39,4,90,1))],[],[],[3,4,7,9,13]⟩ func73 rfl (Nz rfl) (yN (C1 (C2 (by have q:=OF x ifs l hx hl;rw[I3,Ax c1]at q;exact q) ?_)));refine Yi (fun h=>absurd h Wk) (fun _=>?_);refine cU [(1,sl Ab l),(2,sl Ab m),(3,.ref 3 0),(8,.cmap BW (Ch x l))] [(3,.ro (Ic x ifs))] Z4 Z1 (yN (C1 (C2 (by have q:=OF x ifs m hx Kg;rw[I3,Ax c2]at q;exact q) ?_)));refine Yi (fun h=>absurd h Wk) (fun _=>?_);refine cU [(1,sl Ab l),(2,sl Ab m),(8,.cmap BW (Ch x l)),(10,.cmap BW (Ch x m))] [] Z4 Tv (C1 (C2 (Aga l m (D8 (M4 c1) hl) (D8 (M4 c2) Kg) Ei Dd) (cU [(11,.ref 39 0),(12,sl CJ (rm l m))] [(39,.cells [.cmap BW (Ch x l),.cmap BW (Ch x m),sl Ab l,sl Ab m,nzA])] Z2 Z1 (Xi {q:Nat // q<=(rm l m).length} (Xi (fun q=>⟨[(11,.ref 39 0),(46,sl CJ (rm l m)),(47,vi ((rm l m).map CJ).length),(48,vi q.1)],[(39,.cells [.cmap BW (Ch x l),.cmap BW (Ch x m),sl Ab l,sl Ab m,.slice (.id 90 1) ((((rm l m).take q.1).map (·.path)).map Af)]),(90,.tok 1 ((((rm l m).take q.1).map (·.path)).map Af).length)],Ae⟩) (Xi (fun q=>(rm l m).length-q.1) (Yi (Xi ⟨0,Aj _⟩ ?_) ?_)))))))
 .exact⟨Z4,Z2,Fh,Tv⟩
 intro⟨i,i1⟩;have i1:i<=(rm l m).length:=i1;refine Yi (fun h1=>?_) (fun h1=>?_)
 .have h1:(i:Int)<(((rm l m).map CJ).length:Int):=h1;have n1:=Dh h1;have hq:((rm l m).take i).length<=1000:=by rw[AF];omega
  refine Xi (CJ ((rm l m)[i])) (Yi (DC n1) (Yi rfl (yN (yN ?_))));have b2:Bi 1 [[vs ((rm l m)[i]).path]]/\((((rm l m).take i).map (·.path)).map Af).length=((((rm l m).take i).map (·.path)).map Af).length/\(((((rm l m).take i).map (·.path)).map Af).length+([[vs ((rm l m)[i]).path]]:C0).length)*16<=140737488355328/\((((rm l m).take i).map (·.path)).map Af).length+([[vs ((rm l m)[i]).path]]:C0).length<=9223372036854775807:=⟨⟨rfl,trivial⟩,rfl,(by simp only[Lm,Ap,AC];omega),(by simp only[Lm,Ap,AC];omega)⟩;refine Yi b2 (yN (Yi aa1 (cU [(11,.ref 39 0),(46,sl CJ (rm l m)),(47,vi ((rm l m).map CJ).length),(48,vi i)] [(39,.cells [.cmap BW (Ch x l),.cmap BW (Ch x m),sl Ab l,sl Ab m,.slice (.id 90 1) (((((rm l m).take i).map (·.path)).map Af)++[[vs ((rm l m)[i]).path]])]),(90,.tok 1 (((((rm l m).take i).map (·.path)).map Af).length+([[vs ((rm l m)[i]).path]]:C0).length))] Z4 Z2 (Yi (Ii i ch) ?_))));have ew:((((rm l m).take i).map (·.path)).map Af++[[vs (rm l m)[i].path]])=(((rm l m).take (i+1)).map (·.path)).map Af:=by rw[DV n1,Ar,Ar];rfl
  refine Xi ⟨i+1,n1⟩ ?_;exact⟨by show(rm l m).length-(i+1)<(rm l m).length-i;omega,Z4,⟨⟨(Aa (fun z=>HO.cells [.cmap BW (Ch x l),.cmap BW (Ch x m),sl Ab l,sl Ab m,.slice (.id 90 1) z]) ew),rfl⟩,⟨(show HO.tok 1 (((((rm l m).take i).map (·.path)).map Af).length+([[vs ((rm l m)[i]).path]]:C0).length)=.tok 1 ((((rm l m).take (i+1)).map (·.path)).map Af).length from Aa (HO.tok 1) (Ac.symm.trans (Aa List.length ew))),rfl⟩,Tv⟩,Fh,Tv⟩
 have h1:¬((i:Int)<(((rm l m).map CJ).length:Int)):=h1;have n1:=BB h1;have ee:(rm l m).take i=rm l m:=As (AE (BB h1));exact BC.of_eq (show AV.tup [.cptr [.cmap BW (Ch x l),.cmap BW (Ch x m),sl Ab l,sl Ab m,sl Af (((rm l m).take i).map (·.path))],vi 0]=fc x l m by rw[ee,fc,show Ix x l m=0 by rw[Ix,Ax c1];exact c2,Ax rfl];rfl)
theorem qr(l m:List Sl)(hx:∀r∈x,CX r)(hl:BD l)(Kg:BD m)(Ei:l.length<=16)(Dd:m.length<=16):PC 73 [HZ x ifs,sl Ab l,sl Ab m] (fc x l m):=by
 by_cases c1:Dp x l=0
 .by_cases c2:Dp x m=0
  .exact AcF x ifs l m hx hl Kg Ei Dd c1 c2
  .exact AcE x ifs l m hx hl Kg c1 c2
 .exact AcD x ifs l m hx hl Kg c1
end Go.Eng
namespace Go.Proofs
open Go.Shelf Go.RowKit Go.Lib Go.Sort Go.Eng
def cfBt(x y:SlA):Int:=if Op.bytesLess x.1.toList y.1.toList=true then -1 else 1
theorem Tryz.closure134:CmpSlG cfBt 134:=fun x y W=>by
 obtain⟨a,⟨b,hb⟩,⟨c,hc⟩,⟨d,hd⟩⟩:=x;obtain⟨a',⟨b',uO⟩,⟨c',hc'⟩,⟨d',zu⟩⟩:=y;unfold cfBt;dsimp only;cases hl:Op.bytesLess a.toList a'.toList with
 |true=>
  go_enter Tryz.func134,Tryz.ntmps134
  go_wp2
  all_goals (try simp only[hl]at *)
  all_goals (try go_wp2)
  all_goals (try go_ret)
  all_goals (try exact⟨rfl,0,_,by rw[alloc_eq_grow,alloc_eq_grow,grow_grow];rfl⟩)
 |false=>
  go_enter Tryz.func134,Tryz.ntmps134
  go_wp2
  all_goals (try simp only[hl]at *)
  all_goals (try go_wp2)
  all_goals (try go_ret)
  all_goals (try exact⟨rfl,0,_,by rw[alloc_eq_grow,alloc_eq_grow,grow_grow];rfl⟩)
end Go.Proofs
