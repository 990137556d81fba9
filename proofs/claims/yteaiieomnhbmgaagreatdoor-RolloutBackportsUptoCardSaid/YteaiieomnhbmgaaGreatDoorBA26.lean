/- Lemmas 26. -/
import Derived.Test.YteaiieomnhbmgaaGreatDoorBA25
set_option maxHeartbeats 8000000
namespace Go.Eng
open Go.Proofs Go.Proofs.Tryz
variable {p:CS}{i:Nat}{caps:List AV}{L M:List (List Cd)}{fF:Nat}{α:Type}(x:List Rl)(ifs:C0)(roots:List Rq)(f:Rl->List (List Cd))(s:List Sl)(n:Nat)(l:List Sl)(F:List (List Sl))(q:Rq)(y:Sl)(m k:Nat)(dec:List Cd)
def zeR:Rl:=⟨⟨#[]⟩,⟨0,0,0⟩,[],⟨#[]⟩,⟨#[]⟩,⟨#[]⟩,false⟩
def GB:Rl:=(BQ x y).getD zeR
abbrev XI:Value×AV:=(Value.string y.path,AV.agg (Ah (GB x y)))
abbrev Co:List (Value×AV):=s.map (XI x)
def N4:Int:=if AC x=0 then if EK s=true then if s.all (fun y=>(BQ x y).isSome)=true then 0 else 6 else 1 else 1
def Qj:Bool:=match Bg s q.path with
 |some y=>has q.set (plc (GB x y).ver)
 |none=>false
def dx:Bool:=s.all fun y=>(GB x y).reqs.all (Qj x s)
def E0:Int:=if N4 x s=0 then if dx x s=true then 0 else 17 else N4 x s
theorem Js{s:List Sl}(h:EK s=true):s.Pairwise Xp:=by
 rw[JP]at h;rw[Bo];intro i j hi hj aO;show Dz s[i].path s[j].path=true
 induction j with
 |zero=>omega
 |succ j ih=>
  have q:=h (j+1) hj ch
  by_cases e:i=j
  .subst e;exact q
  .exact Ds (ih ch ch) q
theorem tx{x:List Rl}{s:List Sl}(h:s.Pairwise Xp)(hi:i<s.length):∀b,(Value.string s[i].path,b)∉Co x (s.take i):=fun b hb=>by
 obtain⟨t,ht,e⟩:=Ax.1 hb;obtain⟨j,hj,rfl⟩:=Cw.1 ht;rw[List.getElem_take]at e;rw[AD]at hj;have q:=(Bo.1 h) j i ch hi ch;have e2:s[j].path=s[i].path:=by injection e with e1;injection e1
 rw[Xp,e2,Dk]at q;cases q
theorem kW{x:List Rl}{s:List Sl}(h:s.Pairwise Xp)(hi:i<s.length):EM (Co x (s.take i)) (.string s[i].path) (.agg (Ah (GB x s[i])))=Co x (s.take (i+1)):=by
 rw[Ir (tx h hi),DU hi];unfold Co;rw[AF];rfl
theorem XJ{x:List Rl}{s:List Sl}(h:s.Pairwise Xp){y:Sl}(hy:Bg s p=some y):(Value.string p,AV.agg (Ah (GB x y)))∈Co x s/\∀b,(Value.string p,b)∈Co x s->b=AV.agg (Ah (GB x y)):=by
 have h1:=DV hy;have e1:y.path=p:=AW h1;refine⟨Ax.2 ⟨y,BA hy,by rw[<-e1]⟩,fun b hb=>?_⟩;obtain⟨t,ht,e⟩:=Ax.1 hb;have e2:t.path=p:=by injection e with e1;injection e1
 have e3:AV.agg (Ah (GB x t))=b:=by injection e
 have e4:Bg s p=some t:=by unfold Bg;rw[<-e2];exact JM (QX ocP h) ht
 rw[hy]at e4;rw[<-e3,DW e4]
theorem kX{x:List Rl}{s:List Sl}(h:Bg s p=none):∀b,(Value.string p,b)∉Co x s:=fun b hb=>by
 obtain⟨t,ht,e⟩:=Ax.1 hb;have e2:t.path=p:=by injection e with e1;injection e1
 exact absurd (At e2) (List.find?_eq_none.1 h t ht)
theorem yr(hs:s.Pairwise Xp)(hy:Bg s q.path=some y)(hq:BJ q.set):PC 129 [.cmap B4 (Co x s),.agg (As q)] (vb (has q.set (plc (GB x y).ver))):=by
 refine Ps (pC [3] []) func129 rfl (Nz rfl) (Yi (fun a ha=>?_) (fun OX=>absurd (XJ hs hy).1 (OX _)));have ea:=(XJ hs hy).2 a ha;subst ea;refine yN (yN (C1 (C2 (yA (GB x y).ver) (AN (Bt (has q.set (plc (GB x y).ver))) (fun h1=>?_) (fun h1=>?_)))))
 .have h1:(has q.set (plc (GB x y).ver))=true:=h1;refine C1 (C2 (cb h1 (mg q.set (plc (GB x y).ver) hq)) ?_);exact BM.of_eq (Aa vb h1.symm)
 have h1:(has q.set (plc (GB x y).ver))=false:=h1;refine C1 (C2 (cb h1 (mg q.set (plc (GB x y).ver) hq)) ?_);exact BM.of_eq (Aa vb h1.symm)
theorem yq(hy:Bg s q.path=none)(_hq:BJ q.set):PC 129 [.cmap B4 (Co x s),.agg (As q)] (vb false):=by
 refine Ps (pC [3] []) func129 rfl (Nz rfl) (Yi (fun a ha=>absurd ha (kX hy a)) (fun _=>?_));refine yN (yN (C1 (C2 (yA ⟨0,0,0⟩) ?_)));exact .refl _
theorem vu(hs:s.Pairwise Xp)(hq:BJ q.set):PC 129 [.cmap B4 (Co x s),.agg (As q)] (vb (Qj x s q)):=by
 cases e:Bg s q.path with
 |some y=>rw[Qj,e];exact yr x s q y hs e hq
 |none=>rw[Qj,e];exact yq x s q e hq
theorem iE(hs:s.Pairwise Xp)(hq:BJ q.set):PC 128 [.agg (As q),.cptr [.cmap B4 (Co x s)]] (vb (!Qj x s q)):=by
 refine Ps C3 func128 rfl (Nz rfl) (yN (AN (Bt (Qj x s q)) (fun h1=>?_) (fun h1=>?_)))
 .have h1:(Qj x s q)=true:=h1;refine C1 (C2 (cb h1 (vu x s q hs hq)) ?_);exact BM.of_eq (Aa vb (show false=!Qj x s q by rw[h1];rfl))
 have h1:(Qj x s q)=false:=h1;refine C1 (C2 (cb h1 (vu x s q hs hq)) ?_);exact BM.of_eq (Aa vb (show true=!Qj x s q by rw[h1];rfl))
def oK:AV:=if N4 x s=0 then .tup [.cmap B4 (Co x s),vi 0]else .tup [.v (.map none),vi (N4 x s)]
theorem sj{s:List Sl}(h:∀j (hj:j<s.length),0<j->j<i->Dz (s[j-1]' ch).path s[j].path=true)(hi:s.length<=i):EK s=true:=
 (JP s).2 fun j hj h0=>h j hj h0 ch
theorem sm{s:List Sl}(hi:i<s.length)(h0:0<i)(h:Dz (s[i-1]' ch).path s[i].path=false):¬EK s=true:=fun e=>by
 have q:=(JP s).1 e i hi h0;rw[h]at q;cases q
theorem lN{x:List Rl}{s:List Sl}(h:∀j (hj:j<s.length),j<i->(BQ x s[j]).isSome=true)(hi:s.length<=i):s.all (fun y=>(BQ x y).isSome)=true:=by
 rw[A3];intro y hy;obtain⟨j,hj,rfl⟩:=Cw.1 hy;exact h j hj ch
theorem qU{x:List Rl}{s:List Sl}(hi:i<s.length)(h:BQ x s[i]=none):¬s.all (fun y=>(BQ x y).isSome)=true:=fun e=>by
 have q:=A3.1 e _ (Ae hi);rw[h]at q;cases q
theorem Ac4(hx:∀r∈x,CT r)(hl:BJ s):PC 126 [.agg (Ic x ifs),sl Ab s] (oK x s):=by
 have hl:s.length<=1073741824:=hl;refine Ps ⟨[2],[],[],[],[33],[],[],[],[],[],[5,7,13]⟩ func126 rfl (Nz rfl) (yN (C1 (C2 (yG VY x ifs hx) (Yi (fun h1=>?_) (fun h1=>?_)))))
 .have h1:((AC x):Int)≠(0:Int):=h1;exact BM.of_eq (show AV.tup [.v (.map none),vi 1]=oK x s by rw[oK,N4,Az h1,Az Cl])
 have h1:((AC x):Int)=(0:Int):=Aq h1;refine Xi {q:Nat // 1<=q/\(q<=s.length\/q=1)/\∀j (hj:j<s.length),0<j->j<q->Dz (s[j-1]' ch).path s[j].path=true} (Xi (fun q=>⟨[(1,sl Ab s),(2,.ref 2 0),(6,vi q.1)],[(2,.ro (Ic x ifs))],Ac⟩) (Xi (fun q=>s.length+1-q.1) (Yi (Xi ⟨1,Ap _,.inr rfl,fun j hj h0 h1=>absurd h0 ch⟩ ?_) ?_)))
 .exact⟨Z3,Z1,Fh,Tv⟩
 intro⟨i,i1,i2,i3⟩;have i1:1<=i:=i1;have i2:i<=s.length\/i=1:=i2;have i3:∀j (hj:j<s.length),0<j->j<i->Dz (s[j-1]' ch).path s[j].path=true:=i3;refine Yi (fun h3=>?_) (fun h3=>?_)
 .have h3:(i:Int)<((s.map Ab).length:Int):=h3;have n3:=DK h3;refine Yi (by show Av ((i:Int)-(1:Int));unfold Av;omega) (Xi (Ab (s[i-1]' ch)) (Yi (Yi (show(0:Int)<=(i:Int)-1 by omega) (by rw[show((i:Int)-1).toNat=i-1 by omega];exact Ed (Ge ch))) (Yi rfl ?_)));refine Xi (Ab s[i]) (Yi (FJ n3) (Yi rfl (Yi (fun h4=>?_) (fun h4=>?_))))
  .have h4:Dz (s[i-1]' ch).path s[i].path=false:=(Ec _ _).trans h4;refine Yi Wk (cU [] [] Tv Tv ?_)
   exact BM.of_eq (show AV.tup [.v (.map none),vi 1]=oK x s by rw[oK,N4,Ay h1,Az (sm n3 ch h4),Az Cl])
  have h4:Dz (s[i-1]' ch).path s[i].path=true:=(Ec _ _).trans (by simpa using h4);refine Yi Wk (cU [(1,sl Ab s),(2,.ref 2 0),(6,vi i)] [(2,.ro (Ic x ifs))] Z3 Z1 (Yi (Ii i ch) (Xi ⟨i+1,by omega,.inl ch,fun j hj h0 h1=>by rcases B2 j i with h2 | h2;exact i3 j hj h0 h2;have e:j=i:=ch;subst e;exact h4⟩ ?_)));exact⟨by show s.length+1-(i+1)<s.length+1-i;omega,Z3,Z1,Fh,Tv⟩
 have h3:¬((i:Int)<((s.map Ab).length:Int)):=h3;have n3:=B5 h3;have jK:EK s=true:=sj i3 (AO (B5 h3));refine Xi {q:Nat // q<=s.length/\∀j (hj:j<s.length),j<q->(BQ x s[j]).isSome=true} (Xi (fun q=>⟨[(2,.ref 2 0),(7,.mref 33),(34,sl Ab s),(35,vi (s.map Ab).length),(36,vi q.1)],[(2,.ro (Ic x ifs)),(33,.map B4 (Co x (s.take q.1)))],Ac⟩) (Xi (fun q=>s.length-q.1) (Yi (Xi ⟨0,Al _,fun j hj h1=>absurd h1 ch⟩ ?_) ?_)))
 .exact⟨Z5,Z2,Fh,Tv⟩
 intro⟨k,k1,k2⟩;have k1:k<=s.length:=k1;have k2:∀j (hj:j<s.length),j<k->(BQ x s[j]).isSome=true:=k2;refine Yi (fun h7=>?_) (fun h7=>?_)
 .have h7:(k:Int)<((s.map Ab).length:Int):=h7;have n7:=DK h7;refine Xi (Ab s[k]) (Yi (FJ n7) (Yi rfl (yN (yN (yN (yN (AN (Xy (BQ x ⟨s[k].path,s[k].ver⟩)) (fun h8=>?_) (fun h8=>?_))))))))
  .refine AX h8 (fun r h8=>?_);have hc8:=c53 x ifs s[k].path s[k].ver (c84 x ifs hx) hx;rw[h8]at hc8;refine C1 (C2 hc8 (yN (cU [(2,.ref 2 0),(7,.mref 33),(9,.ref 9 0),(10,.ref 10 0),(11,vb true),(34,sl Ab s),(35,vi (s.map Ab).length),(36,vi k)] [(2,.ro (Ic x ifs)),(9,.cells (Ab s[k])),(10,.cells (Ah r)),(33,.map B4 (Co x (s.take k)))] Z8 Z4 (yN (Yi (Ii k ch) (Xi ⟨k+1,n7,fun j hj h1=>by rcases B2 j k with h2 | h2;exact k2 j hj h2;have e:j=k:=ch;subst e;rw[show BQ x s[j]=some r from h8];rfl⟩ ?_))))));exact⟨Dl s.length k ch,Z5,⟨Zr,⟨(show HO.map B4 (EM (Co x (s.take k)) (.string s[k].path) (.agg (Ah r)))=.map B4 (Co x (s.take (k+1)))from Aa (HO.map B4) (by rw[<-kW (Js jK) n7,GB,show BQ x s[k]=some r from h8];rfl)),rfl⟩,Tv⟩,Fh,Tv⟩
  have hc8:=c53 x ifs s[k].path s[k].ver (c84 x ifs hx) hx;rw[h8]at hc8;refine C1 (C2 hc8 (yN (cU [(2,.ref 2 0),(7,.mref 33),(9,.ref 9 0),(10,.ref 10 0),(11,vb false),(34,sl Ab s),(35,vi (s.map Ab).length),(36,vi k)] [(2,.ro (Ic x ifs)),(9,.cells (Ab s[k])),(10,.cells [vs ⟨#[]⟩,vi 0,vi 0,vi 0,BE,vs ⟨#[]⟩,vs ⟨#[]⟩,vs ⟨#[]⟩,vb false]),(33,.map B4 (Co x (s.take k)))] Z8 Z4 ?_)))
  exact BM.of_eq (show AV.tup [.v (.map none),vi 6]=oK x s by rw[oK,N4,Ay h1,Ay jK,Az (qU n7 h8),Az Cl])
 have h7:¬((k:Int)<((s.map Ab).length:Int)):=h7;have n7:=B5 h7;have ee:s.take k=s:=Au (AO (B5 h7));exact BM.of_eq (show AV.tup [.cmap B4 (Co x (s.take k)),vi 0]=oK x s by rw[ee,oK,N4,Ay h1,Ay jK,Ay (lN k2 (AO (B5 h7))),Ay rfl])
theorem Ahh(hs:Ch caps)(l:List (Rq))(p:Rq->Bool)(hF:∀x∈l,PC fF ([.agg (As x)]++caps) (vb (p x)))(hl:l.length<9223372036854775807) :
  PC 180 [sl As l,.clo fF caps] (vi (Je p l 0)):=by
 refine Ps C3 func180 rfl (Nz rfl) (Xi {i:Nat // i<=l.length/\∀j (hj:j<l.length),j<i->p l[j]=false} (Xi (fun i=>⟨[(0,sl As l),(1,.clo fF caps),(7,vi (l.map As).length),(8,vi i.1)],[],Ac⟩) (Xi (fun i=>l.length-i.1) (Yi (Xi ⟨0,by simp⟩ ?_) ?_))))
 .exact⟨⟨Zr,⟨rfl,hs.ids _⟩,Zr,Zr,Tv⟩,Tv,Fh,Tv⟩
 .intro⟨i,h1,h2⟩;refine Yi ?_ ?_
  .intro h;have h:i<l.length:=by simpa using h
   have hg:l[i]?=some l[i]:=Ge h;refine Xi (As l[i]) (Yi (Yi (Nn i) (by simp[hg])) (Yi rfl (yN ?_)));have BV:∀h,PC fF ([.agg (As l[i])]++caps.map (str0 h)) (vb (p l[i])):=fun h=>by rw[hs.map];exact hF l[i] (Ae _)
   cases hp:p l[i]with
   |true=>
    rw[hp]at BV;refine Xi .pure (Xi (vb true) (Yi (BV _) ?_));rw[Hh h (fun j hj FI=>h2 j hj FI) hp,Em];exact .refl _
   |false=>
    rw[hp]at BV;refine Xi .pure (Xi (vb false) (Yi (BV _) (Yi (Ii i ch) (Xi ⟨i+1,by omega,fun j hj FI=>?_⟩ ?_))))
    .by_cases e:j=i
     .subst e;exact hp
     .exact h2 j hj ch
    .exact⟨Dl l.length i ch,⟨Zr,⟨rfl,hs.ids _⟩,Zr,Zr,Tv⟩,Tv,Fh,Tv⟩
  .intro h;have h:¬i<l.length:=by simpa using h
   rw[F3 fun j hj=>h2 j hj ch];exact .refl _
theorem z127(hs:Ch caps)(l:List (Rq))(p:Rq->Bool)(hF:∀x∈l,PC fF ([.agg (As x)]++caps) (vb (p x)))(hl:BJ l) :
  PC 127 [sl As l,.clo fF caps] (vb (l.any p)):=by
 refine Ps C3 func127 rfl (Nz rfl) ?_;have hi:=Ahh hs l p hF (by unfold BJ at hl;omega);have BV:∀h,PC 180 [sl As l,.clo fF (caps.map (str0 h))] (vi (Je p l 0)):=fun h=>by rw[hs.map];exact hi
 refine C1 (C2 (BV _) ?_);have ha:=Hc (p:=p) l 0 (Bv 0);refine Yi ?_ ?_
 .intro h;rw[<-ha,At h];exact .refl _
 .intro h;rw[<-ha,Aj h];exact .refl _
theorem z131(hs:Ch caps)(l:List (CS))(p:CS->Bool)(hF:∀x∈l,PC fF ([vs x]++caps) (vb (p x)))(hl:l.length<9223372036854775807) :
  PC 131 [sl Ar l,.clo fF caps] (vi (Je p l 0)):=by
 refine Ps C3 func131 rfl (Nz rfl) (Xi {i:Nat // i<=l.length/\∀j (hj:j<l.length),j<i->p l[j]=false} (Xi (fun i=>⟨[(0,sl Ar l),(1,.clo fF caps),(7,vi (l.map Ar).length),(8,vi i.1)],[],Ac⟩) (Xi (fun i=>l.length-i.1) (Yi (Xi ⟨0,by simp⟩ ?_) ?_))))
 .exact⟨⟨Zr,⟨rfl,hs.ids _⟩,Zr,Zr,Tv⟩,Tv,Fh,Tv⟩
 .intro⟨i,h1,h2⟩;refine Yi ?_ ?_
  .intro h;have h:i<l.length:=by simpa using h
   have hg:l[i]?=some l[i]:=Ge h;refine Xi (Ar l[i]) (Yi (Yi (Nn i) (by simp[hg])) (Yi rfl ?_));have BV:∀h,PC fF ([vs l[i]]++caps.map (str0 h)) (vb (p l[i])):=fun h=>by rw[hs.map];exact hF l[i] (Ae _)
   cases hp:p l[i]with
   |true=>
    rw[hp]at BV;refine Xi .pure (Xi (vb true) (Yi (BV _) ?_));rw[Hh h (fun j hj FI=>h2 j hj FI) hp,Em];exact .refl _
   |false=>
    rw[hp]at BV;refine Xi .pure (Xi (vb false) (Yi (BV _) (Yi (Ii i ch) (Xi ⟨i+1,by omega,fun j hj FI=>?_⟩ ?_))))
    .by_cases e:j=i
     .subst e;exact hp
     .exact h2 j hj ch
    .exact⟨Dl l.length i ch,⟨Zr,⟨rfl,hs.ids _⟩,Zr,Zr,Tv⟩,Tv,Fh,Tv⟩
  .intro h;have h:¬i<l.length:=by simpa using h
   rw[F3 fun j hj=>h2 j hj ch];exact .refl _
theorem z74(hs:Ch caps)(l:List (CS))(p:CS->Bool)(hF:∀x∈l,PC fF ([vs x]++caps) (vb (p x)))(hl:BJ l) :
  PC 74 [sl Ar l,.clo fF caps] (vb (l.any p)):=by
 refine Ps C3 func74 rfl (Nz rfl) ?_;have hi:=z131 hs l p hF (by unfold BJ at hl;omega);have BV:∀h,PC 131 [sl Ar l,.clo fF (caps.map (str0 h))] (vi (Je p l 0)):=fun h=>by rw[hs.map];exact hi
 refine C1 (C2 (BV _) ?_);have ha:=Hc (p:=p) l 0 (Bv 0);refine Yi ?_ ?_
 .intro h;rw[<-ha,At h];exact .refl _
 .intro h;rw[<-ha,Aj h];exact .refl _
theorem km{x:List Rl}{l:List Sl}{kv:Value×AV}{Mq : List (Value×AV)}(h:(l.map (XI x)).Perm (kv::Mq)):∃t r,kv=XI x t/\Mq=r.map (XI x)/\l.Perm (t::r):=by
 obtain⟨ps,h1,h2⟩:=KC h l rfl;cases ps with
 |nil=>cases h2
 |cons t r=>
  rw[BB,Kc]at h2;exact⟨t,r,h2.1.symm,h2.2.symm,h1.symm⟩
def Ja:AV:=if E0 x s=0 then .tup [.cmap B4 (Co x s),vi 0]else .tup [.v (.map none),vi (E0 x s)]
def jo:Bool:=(GB x y).reqs.all (Qj x s)
theorem fQ(p:α->Bool)(l:List α):l.any (fun q=>!p q)=!l.all p:=by
 induction l with
 |nil=>rfl
 |cons a l ih=>rw[Eh,List.all_cons,ih,Bool.not_and]
theorem ac{x:List Rl}{s d:List Sl}(h:d.Perm s)(k:∀y∈d,jo x s y=true):dx x s=true:=A3.2 fun y hy=>k y (h.mem_iff.2 hy)
theorem dy{x:List Rl}{s d r:List Sl}{y:Sl}(h:(d++y::r).Perm s)(k:jo x s y=false):¬dx x s=true:=fun e=>by
 have q:=A3.1 e y (h.mem_iff.1 (Bh.2 (.inr (Af ..))));rw[show(GB x y).reqs.all (Qj x s)=false from k]at q;cases q
theorem Xv{x:List Rl}{s:List Sl}(h:N4 x s=0):AC x=0:=by
 unfold N4 at h;split at h
 .assumption
 .cases h
theorem Ze{x:List Rl}{s:List Sl}(h:N4 x s=0){y:Sl}(hy:y∈s):GB x y∈x:=by
 unfold N4 at h;split at h
 .split at h
  .split at h
   .rename_i h0 _ h1;have q:=A3.1 h1 y hy;unfold GB;cases e:BQ x y with
    |none=>rw[e]at q;cases q
    |some r=>
     unfold BQ at e;rw[Az ch]at e;exact BA e
   .cases h
  .cases h
 .cases h
theorem tW(hx:∀r∈x,CT r)(hl:BJ s)(h0:¬N4 x s=0):PC 72 [.agg (Ic x ifs),sl Ab s] (Ja x s):=by
 refine Ps (pC [2,6] []) func72 rfl (Nz rfl) (yN (C1 (C2 (by have q:=Ac4 x ifs s hx hl;rw[oK,Az h0]at q;exact q) ?_)));refine yN (Yi (fun h1=>?_) (fun h1=>?_))
 .exact BM.of_eq (show AV.tup [.v (.map none),vi (N4 x s)]=Ja x s by rw[Ja,E0,Az h0,Az h0])
 have h1:((N4 x s):Int)=(0:Int):=Aq h1;exact absurd h1 h0
theorem tX(hx:∀r∈x,CT r)(hl:BJ s)(h0:N4 x s=0)(jK:EK s=true):PC 72 [.agg (Ic x ifs),sl Ab s] (Ja x s):=by
 refine Ps (pC [2,6] []) func72 rfl (Nz rfl) (yN (C1 (C2 (by have q:=Ac4 x ifs s hx hl;rw[oK,Ay h0]at q;exact q) ?_)));refine yN (Yi (fun h=>absurd h Cl) (fun _=>?_));refine Xi {q:List Sl×List Sl×Option (Value×AV) // (q.1++q.2.1).Perm s/\∀y∈q.1,jo x s y=true} (Xi (fun q=>⟨[(6,.ref 6 0),(20,.ref 20 0)],[(6,.ro [.cmap B4 (Co x s)]),(20,.iter (Co x s) (q.1.2.1.map (XI x)) q.1.2.2)],Ac⟩) (Xi (fun q=>q.1.2.1.length) (Yi (Xi ⟨([],s,none),.refl _,fun _ h=>by cases h⟩ ?_) ?_)))
 .exact⟨Z2,Z2,Fh,Tv⟩
 intro⟨⟨dn,rem,Ei⟩,r1,r2⟩;refine Yi ?_ ?_
 .intro hr;have hr:rem=[]:=D6.1 hr;rw[hr,BG]at r1;exact BM.of_eq (show AV.tup [.cmap B4 (Co x s),vi 0]=Ja x s by rw[Ja,E0,Ay h0,Ay (ac r1 r2),Ay rfl])
 intro kv Mq hp;refine AX (km hp) (fun y hp=>AX hp (fun r hp=>?_));have e1:=hp.1;have e2:=hp.2.1;subst e1;subst e2;have hp:=hp.2.2;have hy:y∈s:=r1.mem_iff.1 (Bh.2 (.inr (hp.mem_iff.2 (Af ..))));refine yN (AN (Bt (!jo x s y)) (fun h2=>?_) (fun h2=>?_))
 .refine C1 (C2 (cb h2 (show PC 127 [sl As (GB x y).reqs,.clo 128 [.cptr [.cmap B4 (Co x s)]]] (vb (!jo x s y))from by have q:=z127 (fF:=128) (caps:=[.cptr [.cmap B4 (Co x s)]]) (Ch.ptr _) (GB x y).reqs (fun q=>!Qj x s q) (fun q hq=>iE x s q (Js jK) ((hx _ (Ze h0 hy)).2 q hq).1) (AH ((JS (Xv h0)).2 _ (Ze h0 hy)) Cl);rw[fQ]at q;exact q)) ?_);exact BM.of_eq (show AV.tup [.v (.map none),vi 17]=Ja x s by rw[Ja,E0,Ay h0,Az (dy (y:=y) (d:=dn) (r:=r) ((List.Perm.append_left _ hp.symm).trans r1) (by simpa using h2)),Az Cl])
 refine C1 (C2 (cb h2 (show PC 127 [sl As (GB x y).reqs,.clo 128 [.cptr [.cmap B4 (Co x s)]]] (vb (!jo x s y))from by have q:=z127 (fF:=128) (caps:=[.cptr [.cmap B4 (Co x s)]]) (Ch.ptr _) (GB x y).reqs (fun q=>!Qj x s q) (fun q hq=>iE x s q (Js jK) ((hx _ (Ze h0 hy)).2 q hq).1) (AH ((JS (Xv h0)).2 _ (Ze h0 hy)) Cl);rw[fQ]at q;exact q)) ?_);refine Xi ⟨(dn++[y],r,some (XI x y)),by rw[ER];exact(List.Perm.append_left _ hp.symm).trans r1,fun z hz=>by rcases Bh.1 hz with h | h;exact r2 z h;rw[AK.1 h];exact(by simpa using h2)⟩ ?_;exact⟨by show r.length<rem.length;rw[hp.length_eq];exact Nat.lt_succ_self _,Z2,Z2,Fh,Tv⟩
theorem MZ{x:List Rl}{s:List Sl}(h:N4 x s=0):EK s=true:=by
 unfold N4 at h;split at h
 .split at h
  .assumption
  .cases h
 .cases h
theorem OV(hx:∀r∈x,CT r)(hl:BJ s):PC 72 [Fr x ifs,sl Ab s] (Ja x s):=by
 by_cases h:N4 x s=0
 .exact tX x ifs s hx hl h (MZ h)
 .exact tW x ifs s hx hl h
theorem Ahf{x:List Rl}(h:um x [])(ifs:C0):PC 26 [Fr x ifs,BE] (vb (Gg x 16)):=by
 have q:=(h.c11 ifs).args (args':=[Fr x ifs,BE]) ⟨.refl _,.nil,trivial⟩;rw[show(Gg x 16&&Et [])=Gg x 16 by rw[show Et []=true by decide,Bool.and_true]]at q;exact q
theorem fu{x:List Rl}(h:Gg x 16=true):x.length<=16:=by
 unfold Gg at h;simp only[Am,Bd]at h;omega
def yb(y:Bool)(p:Sl->Bool)(r:Rl):Bool:=if p (OY r)=true then y else r.yanked
theorem NK{y:Bool}{p:Sl->Bool}{x:List Rl}(h:i<x.length):yk y p (x.take (i+1))=yk y p (x.take i)++[{ x[i]with yanked:=yb y p x[i] }]:=by
 unfold yk yb;rw[DU h,AF,List.map_singleton]
 congr 2
 split<;>rfl
theorem YA{x:List Rl}(hx:x.length<=16):BJ (Cf x roots):=by
 by_cases h:DD x roots=0
 .have:=(Lp h).2.1
  show _<=1073741824;omega
 .unfold Cf;rw[Az h];exact Al _
abbrev FB:List AV:=[sl Ab l]
abbrev lfS(l:List (List Cd)):List (List Sl):=l.map fun d=>CP (Aw d)
abbrev lvC(N:List Nd)(c:Cd):List (List Cd):=if bS dec N c then Cn x roots n (dec++[c])else []
theorem d5{x:List Rl}{roots:List Rq}{n:Nat}{dec:List Cd}(h:(D4 roots dec).2=[]):Cn x roots (n+1) dec=[dec]:=by grind [Cn]
def GH(m:Int):Int:=if Cp x roots=false\/m<0\/1024<m then 1 else 0
def HL(m:Int):List (List Sl):=if GH x roots m=0 then(lfS (Cn x roots (x.length+1) [])).take m.toNat else []
section
variable {x:List Rl}{roots:List Rq}
def Tw(x:List Rl)(roots:List Rq):Prop:=∃s,uo x roots s
theorem Wm(hv:Cp x roots=true)(hx:x.length<=17):H7 x roots=0:=by
 unfold H7;rw[Ay hv,Ju hx];rfl
theorem Sy(hv:Cp x roots=true)(hx:x.length<=17):Iv x roots=SD x roots:=by
 unfold Iv;rw[Ay ⟨hv,Ju hx⟩]
theorem RY(hv:Cp x roots=true)(hx:x.length<=17):(Iv x roots).found=true↔Tw x roots:=by
 obtain⟨h0,h1⟩:=H9 hv;have hR:=Iw h0 h1;have hf:=Ju (roots:=roots) hx;rw[Sy hv hx];unfold SD;generalize DZ x roots=o at *
 constructor
 .intro h
  by_cases Uz:o.found=true
  .obtain⟨_,t,sl,y2,y3,y4,y5⟩:=hR.yes Uz;have hm:o.dec∈Cn x roots (x.length+1) []:=RK y5;exact⟨_,(Hv (.nil x) (.nil roots) _ hm).sol h0⟩
  .rw[Az Uz]at h;cases h
 .rintro⟨s,hs⟩
  by_cases Uz:o.found=true
  .rw[Ay Uz]
  .have Uz:o.found=false:=by simpa using Uz
   obtain⟨n4,n5⟩:=(hR.no Uz).2.2 hf;have r6:Ef o.ss o.res=[]:=by
    cases h:Ef o.ss o.res with
    |nil=>rfl
    |cons u l=>
     rw[h]at n5
     have:=(Kr.1 n5).2 u (Af ..)
     cases this
   have aR:Ef o.ss o.res∈o.ss.drv:=AB (EF n4)
   have:=HP hs (fun _ h=>by cases h) hR.der.der _ aR
   rw[r6]at this;cases this
theorem kV(hv:Cp x roots=true)(hx:x.length<=17):(DD x roots=0↔Tw x roots)/\(DD x roots=17↔¬Tw x roots):=by
 unfold DD;rw[Wm hv hx,Az (fun h=>h rfl),<-RY hv hx]
 by_cases h:(Iv x roots).found=true
 .rw[Ay h];simp[h]
 .rw[Az h];simp[h]
end
theorem Na:∀cs∈s.map Ab,cs.length=4:=fun cs h=>by
 grind
abbrev N9:C0:=((s.map Ab).take (((s.map Ab).length:Nat):Int).toNat).drop ((k:Nat):Int).toNat
abbrev dM:C0:=((s.map Ab).take ((k:Nat):Int).toNat).drop ((0:Int)).toNat
theorem py:N9 s k=(s.drop k).map Ab:=by
 grind [List.take_of_length_le,List.map_drop]
theorem rW:dM s k=(s.take k).map Ab:=by
 grind [List.map_take]
theorem ut(x:Sl)(k:Nat)(h:s.length<=1073741824):Bi 4 (N9 s k)/\[Ab x].length=1/\([Ab x].length+(N9 s k).length)*40<=140737488355328/\[Ab x].length+(N9 s k).length<=9223372036854775807:=by
 grind [GI]
theorem uu(x:Sl)(k:Nat)(hk:k<=s.length)(h:s.length<=1073741824):Bi 4 ([Ab x]++N9 s k)/\(dM s k).length=((k:Nat):Int).toNat-((0:Int)).toNat/\((dM s k).length+([Ab x]++N9 s k).length)*40<=140737488355328/\(dM s k).length+([Ab x]++N9 s k).length<=9223372036854775807:=by
 grind [GI,Na]
theorem uV(x:Sl)(k:Nat):dM s k++([Ab x]++N9 s k)=(s.take k++([x]++s.drop k)).map Ab:=by
 grind [py,rW]
theorem bi{s:List Sl}{x:Sl}{k:Nat}(hs:Tx s)(hn:∀y∈s,y.path≠x.path)(h1:∀j (hj:j<s.length),k<=j->Dz x.path s[j].path=true)(h2:k=0\/∃h:k-1<s.length,Dz x.path s[k-1].path=false)(hk:k<=s.length) :
  Tx (s.take k++([x]++s.drop k)):=by
 have dR : s.Pairwise fun a b=>Dz a.path b.path=true:=hs;have ht:∀y∈s.take k,Dz y.path x.path=true:=fun y hy=>by
  grind [List.mem_iff_getElem,GJ,Ds,List.pairwise_iff_getElem]
 have hd:∀y∈s.drop k,Dz x.path y.path=true:=fun y hy=>by
  obtain⟨j,hj,rfl⟩:=Cw.1 hy;simp_all
 show(s.take k++([x]++s.drop k)).Pairwise _;rw[List.pairwise_append];refine⟨dR.sublist (List.take_sublist _ _),?_,fun a ha b hb=>?_⟩
 all_goals grind [Ds]
theorem dT(x:Sl)(k:Nat):(s.take k++([x]++s.drop k)).Perm (x::s):=by
 grind [List.take_append_drop]
def MD(r:Rl)(l:List Sl):Bool:=r.reqs.any fun q=>l.any fun y=>decide (y.path=q.path)&&!has q.set (place y.ver)
theorem u7{l s:List Sl}(hn:(l.map (·.path)).Nodup)(hp:s.Perm (l.take i))(hi:i<l.length):∀y∈s,y.path≠l[i].path:=fun y hy e=>by
 grind [List.mem_iff_getElem,List.pairwise_iff_getElem]
theorem s74(hl:BJ l)(hn:(l.map (·.path)).Nodup):PC 295 [sl Ab l] (sl Ab (CP l)):=by
 refine Ps (pT [] [(3,0)] []) func295 rfl (Nz rfl) (Xi {q:Nat×List Sl // q.1<=l.length/\q.2.Perm (l.take q.1)/\Tx q.2} (Xi (fun q=>⟨[(0,sl Ab l),(3,sl Ab q.1.2),(4,vi q.1.1)],[],Ac⟩) (Xi (fun q=>l.length-q.1.1) (Yi (Xi ⟨(0,[]),Al _,.refl _,.nil⟩ ?_) ?_))))
 .exact⟨Z3,Tv,Fh,Tv⟩
 intro⟨⟨i,s⟩,i1,i2,i3⟩;have i2:s.Perm (l.take i):=i2;have Ou:s.length<=l.length:=by grind [List.length_take,List.Perm.length_eq]
 refine Yi (fun h1=>?_) (fun h1=>?_)
 .have h1:(i:Int)<((l.map Ab).length:Int):=h1;have n1:=DK h1;refine Xi {q:Nat // q<=s.length/\∀j (hj:j<s.length),q<=j->Dz l[i].path s[j].path=true} (Xi (fun q=>⟨[(0,sl Ab l),(3,sl Ab s),(4,vi i),(5,vi q.1)],[],Ac⟩) (Xi (fun q=>q.1) (Yi (Xi ⟨s.length,Ap _,fun j hj FI=>by omega⟩ ?_) ?_)))
  .exact⟨⟨Zr,Zr,Zr,⟨(show vi ((s.map Ab).length:Int)=vi (s.length:Int) by simp_all),rfl⟩,Tv⟩,Tv,Fh,Tv⟩
  intro⟨k,k1,k2⟩;refine Yi (fun h2=>?_) (fun h2=>?_)
  .have h2:(0:Int)<(k:Int):=h2;refine Yi (by grind [Av]) ?_;have wQ:k-1<s.length:=by omega
   refine Xi (Ab (s[k-1])) (Yi (Yi (show(0:Int)<=(k:Int)-1 by omega) (by simp_all)) (Yi rfl ?_));refine Xi (Ab l[i]) (Yi (FJ n1) (Yi rfl (Yi (fun h3=>?_) (fun h3=>?_))))
   .have h3:Dz l[i].path (s[k-1]).path=true:=(Ec _ _).trans h3;refine Yi Wk (Yi (by grind [Av]) ?_);refine Xi ⟨k-1,by omega,fun j hj FI=>by
      grind⟩ ?_
    exact⟨by grind,⟨Zr,Zr,Zr,⟨(show vi ((k:Int)-1)=vi ((k-1:Nat):Int)from Aa vi ch),rfl⟩,Tv⟩,Tv,Fh,Tv⟩
   have h3:Dz l[i].path (s[k-1]).path=false:=(Ec _ _).trans (Bb.2 h3);have Qx:k=0\/∃h:k-1<s.length,Dz l[i].path s[k-1].path=false:=.inr ⟨wQ,h3⟩;refine Yi Wk (Yi (show(0:Int)<=0/\(0:Int)<=k/\(k:Int)=k/\(k:Int)<=((s.map Ab).length:Nat) by simp_all) (Yi (Na s) (Xi (Ab l[i]) (Yi (FJ n1) (Yi rfl (yN (Yi (show(0:Int)<=k/\(k:Int)<=((s.map Ab).length:Nat)/\(((s.map Ab).length:Nat):Int)<=((s.map Ab).length:Nat) by simp_all) (Yi (Na s) ?_))))))));refine Yi (ut s l[i] k ch) (Yi (uu s l[i] k k1 ch) (Yi Wk (Yi (by grind [Av]) ?_)));have sc:l.take (i+1)=l.take i++[l[i]]:=By n1;have uP:∀y∈s,y.path≠l[i].path:=u7 hn i2 n1;refine Xi ⟨(i+1,s.take k++([l[i]]++s.drop k)),n1,by grind [dT],bi i3 uP k2 Qx k1⟩ ?_;exact⟨Dl l.length i ch,⟨Zr,⟨(show AV.slice .none (dM s k++([Ab l[i]]++N9 s k))=sl Ab (s.take k++([l[i]]++s.drop k))from Aa (AV.slice .none) (uV s l[i] k)),rfl⟩,Zr,Tv⟩,Tv,Fh,Tv⟩
  have h2:¬((0:Int)<(k:Int)):=h2;have Qx:k=0\/∃h:k-1<s.length,Dz l[i].path s[k-1].path=false:=.inl ch;refine Yi Wk (Yi (show(0:Int)<=0/\(0:Int)<=k/\(k:Int)=k/\(k:Int)<=((s.map Ab).length:Nat) by omega) (Yi (Na s) (Xi (Ab l[i]) (Yi (FJ n1) (Yi rfl (yN (Yi (show(0:Int)<=k/\(k:Int)<=((s.map Ab).length:Nat)/\(((s.map Ab).length:Nat):Int)<=((s.map Ab).length:Nat) by omega) (Yi (Na s) ?_))))))));refine Yi (ut s l[i] k ch) (Yi (uu s l[i] k k1 ch) (Yi Wk (Yi (by grind [Av]) ?_)));have sc:l.take (i+1)=l.take i++[l[i]]:=By n1;have uP:∀y∈s,y.path≠l[i].path:=u7 hn i2 n1;refine Xi ⟨(i+1,s.take k++([l[i]]++s.drop k)),n1,by grind,bi i3 uP k2 Qx k1⟩ ?_;exact⟨Dl l.length i ch,⟨Zr,⟨(show AV.slice .none (dM s k++([Ab l[i]]++N9 s k))=sl Ab (s.take k++([l[i]]++s.drop k))from Aa (AV.slice .none) (uV s l[i] k)),rfl⟩,Zr,Tv⟩,Tv,Fh,Tv⟩
 have h1:¬((i:Int)<((l.map Ab).length:Int)):=h1;have n1:=B5 h1;have hi:l.take i=l:=Au ch;exact .of_eq (Aa (fun z=>sl Ab z) (ID i3 (JE hn) fun y=>by grind [FE]))
def Xs:Bool:=decide (y.path=q.path)&&!has q.set (place y.ver)
def u5:Bool:=l.any (Xs q)
theorem sy{l:List Sl}{l0:List Sl}{y:Sl}(h:l=l0++[y]):(0:Int)<=((l.map Ab).length:Int)-1/\(l.map Ab)[(((l.map Ab).length:Int)-1).toNat]?=some (Ab y):=by
 simp_all
theorem s77(l0:List Sl)(y:Sl)(r:Rl)(hx:∀r∈x,CT r)(Wc:BJ x)(hl:l.length<=100000)(hly:l=l0++[y])(hr:BQ x ⟨y.path,y.ver⟩=some r)(hv:∀y∈l,Be y.ver=true)(hq:∀q∈r.reqs,BJ q.set)(hrl:r.reqs.length<=100000) :
  PC 297 [Fr x ifs,sl Ab l] (vb (MD r l)):=by
 have hml:(l.map Ab).length=l.length:=Lm _;have zX:=c83 x ifs y.path y.ver hx Wc;rw[hr]at zX;refine Ps (pC [2] []) func297 rfl (Nz rfl) (Yi (by grind [Av]) (Xi (Ab y) (Yi (sy hly) (Yi rfl (yN (yN (yN (yN (C1 (C2 zX (yN (Xi {q:Nat // q<=r.reqs.length/\∀j (hj:j<r.reqs.length),j<q->u5 l r.reqs[j]=false} (Xi (fun q=>⟨[(1,sl Ab l),(6,.ref 6 0),(8,vi q.1)],[(6,.cells (Ah r))],Ac⟩) (Xi (fun q=>r.reqs.length-q.1) (Yi (Xi ⟨0,Al _,fun _ _ h=>absurd h (DB _)⟩ ?_) ?_)))))))))))))))
 .exact⟨Z3,Z1,Fh,Tv⟩
 intro⟨i,i1,i2⟩;refine Yi (fun h1=>?_) (fun h1=>?_)
 .have h1:(i:Int)<((r.reqs.map As).length:Int):=h1;have n1:=DK h1;refine Xi {q:Nat // q<=l.length/\∀j (hj:j<l.length),j<q->Xs r.reqs[i] l[j]=false} (Xi (fun q=>⟨[(1,sl Ab l),(6,.ref 6 0),(8,vi i),(9,vi q.1)],[(6,.cells (Ah r))],Ac⟩) (Xi (fun q=>l.length-q.1) (Yi (Xi ⟨0,Al _,fun _ _ h=>absurd h (DB _)⟩ ?_) ?_)))
  .exact⟨Z4,Z1,Fh,Tv⟩
  intro⟨k,k1,k2⟩;refine Yi (fun h2=>?_) (fun h2=>?_)
  .have h2:(k:Int)<((l.map Ab).length:Int):=h2;have n2:=DK h2;refine Xi (Ab l[k]) (Yi (FJ n2) (Yi rfl (Xi (As r.reqs[i]) (Yi (FJ n1) (Yi rfl (Yi (fun h3=>?_) (fun h3=>?_)))))))
   .refine Xi (As r.reqs[i]) (Yi (FJ n1) (Yi rfl (Xi (Ab l[k]) (Yi (FJ n2) (Yi rfl (yN (C2 (c95 l[k].ver (hv _ (Ae n2))) (AN (Bt (has r.reqs[i].set (place l[k].ver))) (fun h4=>?_) (fun h4=>?_)))))))))
    .refine C2 (cb h4 (VX r.reqs[i].set (place l[k].ver) (hq _ (Ae n1)))) (Yi Wk (Yi (by grind [Av]) ?_));have hmk:Xs r.reqs[i] l[k]=false:=by grind [Xs]
     refine Xi ⟨k+1,n2,fun j hj FI=>if e:j<k then k2 j hj e else by
       grind⟩ ?_
     exact⟨by grind,Z4,Z1,Fh,Tv⟩
    refine C2 (cb h4 (VX r.reqs[i].set (place l[k].ver) (hq _ (Ae n1)))) (Yi Wk ?_);exact .of_eq (Aa vb (show true=MD r l from(BC.2 ⟨r.reqs[i],Ae n1,BC.2 ⟨l[k],Ae n2,by simp_all⟩⟩).symm))
   refine Yi Wk (Yi (by grind [Av]) ?_);have hmk:Xs r.reqs[i] l[k]=false:=by grind [Xs]
   refine Xi ⟨k+1,n2,fun j hj FI=>if e:j<k then k2 j hj e else by
     grind⟩ ?_
   exact⟨by grind,Z4,Z1,Fh,Tv⟩
  have h2:¬((k:Int)<((l.map Ab).length:Int)):=h2;have n2:=B5 h2;refine Yi (by grind [Av]) ?_;refine Xi ⟨i+1,n1,fun j hj FI=>if e:j<i then i2 j hj e else by
    have e:j=i:=by omega
    subst e;exact Gn.2 fun y hy=>by
     grind [List.mem_iff_getElem]⟩ ?_
  exact⟨Dl r.reqs.length i ch,Z3,Z1,Fh,Tv⟩
 have h1:¬((i:Int)<((r.reqs.map As).length:Int)):=h1;have n1:=B5 h1;have hcf:MD r l=false:=Gn.2 fun q hq=>by
  obtain⟨m,hm,rfl⟩:=Cw.1 hq;show ¬u5 l r.reqs[m]=true
  grind
 exact .of_eq (Aa vb hcf.symm)
def tk(L:List (List Cd))(m:Nat):List (List Sl):=F++(lfS L).take (m-F.length)
theorem pW:tk F [] m=F:=by grind [tk]
theorem fE{F:List (List Sl)}{m:Nat}(h:(tk F L m).length<m):tk F (L++M) m=tk (tk F L m) M m:=by
 grind [tk,List.take_append]
theorem iz{F:List (List Sl)}{m:Nat}(h:m<=(tk F L m).length)(hF:F.length<=m):tk F (L++M) m=tk F L m:=by
 grind [tk]
def Mm(N:List Nd)(p:CS)(r:Rl):List (List Cd):=if r.path=p/\r.yanked=false then lvC x roots n dec N ⟨plc r.ver,r⟩else []
def Zs(x:List Rl)(i:Nat):List (List Cd):=((x.take i).map f).flatten
theorem cy(x:List Rl):Zs f x 0=[]:=rfl
theorem Qt{f:Rl->List (List Cd)}{x:List Rl}(h:i<x.length):Zs f x (i+1)=Zs f x i++f x[i]:=by
 grind [Zs,List.take_succ_eq_append_getElem]
theorem I5{f:Rl->List (List Cd)}{x:List Rl}(h:i<x.length)(hf:f x[i]=[]):Zs f x (i+1)=Zs f x i:=by grind [Qt]
theorem XT(x:List Rl)(i:Nat):Zs f x x.length=Zs f x i++((x.drop i).map f).flatten:=by
 grind [Zs,List.take_append_drop]
theorem dk(p:CS)(g:Cd->List α):((Bx x p).map g).flatten=(x.map fun r=>if r.path=p/\r.yanked=false then g ⟨plc r.ver,r⟩else []).flatten:=by
 induction x<;>grind [Bx]
theorem d6{x:List Rl}{roots:List Rq}{n:Nat}{dec:List Cd}{n0:Nd}{l:List Nd}(h:(D4 roots dec).2=n0::l) :
  Cn x roots (n+1) dec=Zs (Mm x roots n dec (n0::l) (D4 roots dec).1) x x.length:=by
 unfold Cn Zs;rw[h,CA];exact dk x _ _
section
variable {x:List Rl}{roots:List Rq}{dec:List Cd}
theorem bG(hx:AC x=0)(hd:De x dec):EA x roots (Aw dec)=Fs roots dec:=by
 unfold EA Fs
 congr 2
 rw[Br];refine BZ fun c hc=>?_;have h:=Jx hx (hd.cand c hc).1
 grind [It,EL]
theorem Py{N:List Nd}(hN:X3 roots dec p N)(k:Int):MJ (Fs roots dec) p k=false↔∀n∈N,has n.rq.set k=true:=by
 unfold MJ;rw[Gn,<-Lg]
 grind [X3.mem]
theorem TV(hx:AC x=0){c:Cd}(hd:De x (dec++[c])):MD c.rel (Aw (dec++[c]))=(CY dec c).isSome:=by
 have nI:∀d∈dec++[c],d.place=place d.rel.ver:=fun d h=>by
  have h1:=hd.cand d h;rw[h1.2.2,((B3 hx).1 _ h1.1).plc]
 have hm:∀n:Nd,UY (dec++[c]) n=(Aw (dec++[c])).any fun y=>decide (y.path=n.rq.path)&&!has n.rq.set (place y.ver):=fun n=>by
  grind [UY,List.any_map]
 unfold CY;rw[List.isSome_find?];unfold MD Qf;have key:∀(l:List Rq) (i:Nat),((LQ (fun q i=>(⟨q,c.rel.path,c.place,i⟩:Nd)) i l).any (UY (dec++[c])))=l.any fun q=>(Aw (dec++[c])).any fun y=>decide (y.path=q.path)&&!has q.set (place y.ver):=fun l=>by
  induction l<;>grind [LQ]
 grind
end
def BT:Prop:=∀(F:List (List Sl)) (m:Nat),F.length<m->m<=1024 ->
 AP Tryz.prog 243 [Fr x ifs,sl As roots,sl Ab (Aw dec),.slice (.id 1000 1) (F.map FB),vi (m:Nat)] (Ai [(1000,.tok 1 F.length)] Ac) fun r h'=>
  r=.slice (.id 1000 1) ((tk F (Cn x roots n dec) m).map FB)/\h'=Ai [(1000,.tok 1 (tk F (Cn x roots n dec) m).length)] Ac
def RN(o:List (List Sl))(r:AV)(h' : Nat->HO):Prop:=match o with
 | []=>r=BE/\h'=Ai [] Ac
 |y::ys=>r=.slice (.id 2000 1) ((y::ys).map FB)/\h'=Ai [(2000,.tok 1 (y::ys).length)] Ac
def BN:Prop:=∀(m:Nat),0<m->m<=1024 ->
 AP Tryz.prog 243 [Fr x ifs,sl As roots,sl Ab (Aw dec),BE,vi (m:Nat)] (Ai [] Ac) (RN (tk [] (Cn x roots n dec) m))
structure LvB(x:List Rl)(ifs:C0)(roots:List Rq)(n:Nat)(dec:List Cd)(p:CS)(n0:Nd)(l:List Nd):Prop where
 hE0:AC x=0
 hx:∀r∈x,CT r
 hxf:BJ x
 hr:∀q∈roots,FA q
 hrn:roots.length<=1000
 hdl:dec.length<=1000
 hv:∀r∈x,Be r.ver=true
 hplc:∀r∈x,plc r.ver=place r.ver
 hrl:∀r∈x,r.reqs.length<=100000
 hneeds:EA x roots (Aw dec)=Fs roots dec
 hNx:X3 roots dec p (n0::l)
 hDec:∀c∈Bx x p,De x (dec++[c])
 hval:∀c∈Bx x p,∀y∈Aw (dec++[c]),Be y.ver=true
 ihT:∀c∈Bx x p,BT x ifs roots n (dec++[c])
 ihN:∀c∈Bx x p,BN x ifs roots n (dec++[c])
theorem Y0{x:List Rl}{roots:List Rq}{n:Nat}{dec:List Cd}{N:List Nd}{r:Rl}(hN:X3 roots dec p N)(hp:plc r.ver=place r.ver)(h:MJ (Fs roots dec) p (place r.ver)=true):Mm x roots n dec N p r=[]:=by
 grind [Mm,Py,IC]
theorem ol{x:List Rl}{roots:List Rq}{n:Nat}{dec:List Cd}{N:List Nd}{r:Rl}(h:(CY dec ⟨plc r.ver,r⟩).isSome=true):Mm x roots n dec N p r=[]:=by
 grind [Mm,IC]
theorem YX{dec:List Cd}{r:Rl}(h:r.path=p):(Aw dec).map Ab++[[vs p,vi r.ver.a,vi r.ver.b,vi r.ver.c]]=(Aw (dec++[(⟨plc r.ver,r⟩:Cd)])).map Ab:=by
 simp_all
theorem Y8(o:List α):o=[]\/∃y ys,o=y::ys:=by cases o<;>simp_all
theorem AgN(p:CS)(n0:Nd)(l:List Nd)(m:Nat)(F:List (List Sl))(hF:F.length<m)(hL:LvB x ifs roots n dec p n0 l)(Afh:Cn x roots (n+1) dec=Zs (Mm x roots n dec (n0::l) p) x x.length)(aQ:m<=1024) :
  AP Tryz.prog 243 [.agg (Ic x ifs),sl As roots,sl Ab (Aw dec),.slice (.id 1000 1) (F.map FB),vi (m:Nat)] (Ai [(1000,.tok 1 F.length)] Ac) (fun r h'=>r=.slice (.id 1000 1) ((tk F (Cn x roots (n+1) dec) m).map FB)/\h'=Ai [(1000,.tok 1 (tk F (Cn x roots (n+1) dec) m).length)] Ac):=by
 obtain⟨hE0,hx,hxf,hr,hrn,hdl,hv,hplc,hrl,hneeds,hNx,hDec,hval,ihT,ihN⟩:=hL;have LL:=c81 x ifs roots (Aw dec) hx hxf ch (by grind);rw[hneeds]at LL;unfold U5 at LL;rw[hNx.next]at LL
 have dL:∀(q:CS) (k:Int),PC 296 [Fr x ifs,sl As roots,sl Ab (Aw dec),vs q,vi k] (vb (MJ (Fs roots dec) q k)):=fun q k=>by
  grind [zz]
 refine BO (LB (pC [5,14] [10])) [(1000,1000)] rfl Ck hm rfl func243 Wk rfl (Nz rfl) Wk rfl (yN (C1 (C2 LL (Xi {q:Nat×List (List Sl) // q.1<=x.length/\q.2=tk F (Zs (Mm x roots n dec (n0::l) p) x q.1) m} (Xi (fun q=>⟨[(1,sl As roots),(2,sl Ab (Aw dec)),(3,.slice (.id 1000 1) (q.1.2.map FB)),(4,vi (m:Nat)),(5,.ref 5 0),(11,vs p),(13,vi q.1.1)],[(5,.ro (Ic x ifs)),(1000,.tok 1 q.1.2.length)],Ac⟩) (Xi (fun q=>x.length-q.1.1) (Yi (Xi ⟨(0,F),Al _,by rw[cy,pW]⟩ ?_) ?_)))))))
 .exact⟨Z7,Z2,Fh,A4 Wk⟩
 intro⟨⟨i,o⟩,i1,i2⟩;have i2:o=tk F (Zs (Mm x roots n dec (n0::l) p) x i) m:=i2;refine Yi (fun h1=>?_) (fun h1=>?_)
 .have h1:(i:Int)<((x.map Ah).length:Int):=h1;have n1:=DK h1;refine Yi (fun h2=>?_) (fun h2=>?_)
  .have h2:((o.map FB).length:Int)<((m:Nat):Int):=h2;have hom:o.length<m:=by simp_all
   refine Xi (Ah x[i]) (Yi (FJ n1) (Yi rfl (yN (yN (Yi (fun h4=>?_) (fun h4=>?_))))))
   .refine Yi Wk (Yi (by grind [Av]) ?_);have QR:(Mm x roots n dec (n0::l) p) x[i]=[]:=by grind [Mm]
    refine Xi ⟨(i+1,o),n1,by grind [I5]⟩ ?_;exact⟨by grind,Z7,Z2,Fh,A4 Wk⟩
   have h4:(x[i].path:CS)=p:=Aq h4;refine Yi (fun h6=>?_) (fun h6=>?_)
   .refine Yi Wk (Yi (by grind [Av]) ?_);have QR:(Mm x roots n dec (n0::l) p) x[i]=[]:=by grind [Mm]
    refine Xi ⟨(i+1,o),n1,by grind [I5]⟩ ?_;exact⟨by grind,Z7,Z2,Fh,A4 Wk⟩
   refine yN (yN (C2 (c95 x[i].ver (hv _ (Ae n1))) (AN (Bt (MJ (Fs roots dec) p (place x[i].ver))) (fun h8=>?_) (fun h8=>?_))))
   .refine C2 (cb h8 (dL p (place x[i].ver))) (Yi Wk (Yi (by grind [Av]) ?_));have QR:(Mm x roots n dec (n0::l) p) x[i]=[]:=Y0 hNx (hplc _ (Ae n1)) h8;refine Xi ⟨(i+1,o),n1,by grind [I5]⟩ ?_;exact⟨by grind,Z7,Z2,Fh,A4 Wk⟩
   refine C2 (cb h8 (dL p (place x[i].ver))) (Yi Wk ?_);have VQ:Bi 4 ((Aw dec).map Ab)/\([]:C0).length=0/\(([]:C0).length+((Aw dec).map Ab).length)*40<=140737488355328/\([]:C0).length+((Aw dec).map Ab).length<=9223372036854775807:=⟨(CJ (enc:=Ab) (n:=4) (fun _=>rfl) (Aw dec)),(by simp_all),(by grind),(by grind)⟩;refine Yi VQ (yN ?_);have lU:Bi 4 [[vs p,vi x[i].ver.a,vi x[i].ver.b,vi x[i].ver.c]]/\(([]++((Aw dec).map Ab)):C0).length=(([]:C0).length+((Aw dec).map Ab).length)/\((([]++((Aw dec).map Ab)):C0).length+([[vs p,vi x[i].ver.a,vi x[i].ver.b,vi x[i].ver.c]]:C0).length)*40<=140737488355328/\(([]++((Aw dec).map Ab)):C0).length+([[vs p,vi x[i].ver.a,vi x[i].ver.b,vi x[i].ver.c]]:C0).length<=9223372036854775807:=⟨⟨rfl,trivial⟩,(by simp_all),(by grind),(by grind)⟩;refine Yi lU (Yi Wk ?_);have YR:x[i].path=p:=h4;have aM:(⟨plc x[i].ver,x[i]⟩:Cd)∈Bx x p:=He.2 ⟨x[i],Ae n1,YR,h6,rfl⟩;have hD:=hDec (⟨plc x[i].ver,x[i]⟩:Cd) aM;refine cU [(1,sl As roots),(2,sl Ab (Aw dec)),(3,.slice (.id 1000 1) (o.map FB)),(4,vi (m:Nat)),(5,.ref 5 0),(11,vs p),(13,vi i),(15,.slice (.id 66 4) ((Aw (dec++[(⟨plc x[i].ver,x[i]⟩:Cd)])).map Ab))] [(5,.ro (Ic x ifs)),(66,.tok 4 ((Aw (dec++[(⟨plc x[i].ver,x[i]⟩:Cd)])).map Ab).length),(1000,.tok 1 o.length)] ⟨Zr,Zr,Zr,Zr,Zr,Zr,Zr,⟨(show(.slice (.id 66 4) (([]++((Aw dec).map Ab))++[[vs p,vi x[i].ver.a,vi x[i].ver.b,vi x[i].ver.c]]):AV)=.slice (.id 66 4) ((Aw (dec++[(⟨plc x[i].ver,x[i]⟩:Cd)])).map Ab)from Aa (AV.slice (.id 66 4)) (YX YR)),rfl⟩,Tv⟩ ⟨Zr,⟨(show(.tok 4 ((([]++((Aw dec).map Ab)):C0).length+([[vs p,vi x[i].ver.a,vi x[i].ver.b,vi x[i].ver.c]]:C0).length):HO)=.tok 4 ((Aw (dec++[(⟨plc x[i].ver,x[i]⟩:Cd)])).map Ab).length by simp_all),rfl⟩,Zr,Tv⟩ ?_
   refine yN ?_;have Uv:=s77 x ifs (Aw (dec++[(⟨plc x[i].ver,x[i]⟩:Cd)])) (Aw dec) (QW (⟨plc x[i].ver,x[i]⟩:Cd)) x[i] hx hxf (by grind) (by simp_all) (Jx hE0 (Ae n1)) (fun y hy=>hval (⟨plc x[i].ver,x[i]⟩:Cd) aM y hy) (fun q hq=>((hx _ (Ae n1)).2 q hq).1) (hrl _ (Ae n1));have hcl:MD x[i] (Aw (dec++[(⟨plc x[i].ver,x[i]⟩:Cd)]))=(CY dec (⟨plc x[i].ver,x[i]⟩:Cd)).isSome:=TV hE0 hD;rw[hcl]at Uv;refine AN (Bt (CY dec (⟨plc x[i].ver,x[i]⟩:Cd)).isSome) (fun WX=>?_) (fun WX=>?_)
   .have WX:(CY dec (⟨plc x[i].ver,x[i]⟩:Cd)).isSome=true:=WX;refine C1 (C2 (cb WX Uv) (Yi (Ii i ch) ?_));have QR:(Mm x roots n dec (n0::l) p) x[i]=[]:=ol WX;refine Xi ⟨(i+1,o),n1,by rw[i2,I5 n1 QR]⟩ ?_;exact⟨by grind,Z7,Z2,Fh,A4 Wk⟩
   have WX:(CY dec (⟨plc x[i].ver,x[i]⟩:Cd)).isSome=false:=WX;refine C1 (C2 (cb WX Uv) (yN ?_));have GG:bS dec (n0::l) (⟨plc x[i].ver,x[i]⟩:Cd)=true:=IC.2 ⟨fun m hm=>by have q:=(Py hNx (place x[i].ver)).1 h8 m hm;simp_all,by simp_all⟩;have QR:(Mm x roots n dec (n0::l) p) x[i]=(Cn x roots n (dec++[(⟨plc x[i].ver,x[i]⟩:Cd)])):=by unfold Mm lvC;simp_all
   have ZE:=ihT (⟨plc x[i].ver,x[i]⟩:Cd) aM o m hom aQ;refine Xi (.gen [(1000,1000)] 0) (Yi rfl (AP.imp ZE ?_));intro v14 g14 q14;have xD:=q14.1;have xE:=q14.2;subst xD;subst xE;refine Yi (Ii i ch) (Xi ⟨(i+1,(tk o (Cn x roots n (dec++[(⟨plc x[i].ver,x[i]⟩:Cd)])) m)),n1,by rw[Qt n1,QR,fE (by simp_all),<-i2]⟩ ?_);exact⟨Dl x.length i ch,Z7,Z2,Fh,A4 Wk⟩
  have h2:¬(((o.map FB).length:Int)<((m:Nat):Int)):=h2;have eo:o=tk F (Cn x roots (n+1) dec) m:=by
   grind [XT,iz]
  rw[<-eo];exact C2 (.refl _) Zr
 have h1:¬((i:Int)<((x.map Ah).length:Int)):=h1;have n1:=B5 h1;have eo:o=tk F (Cn x roots (n+1) dec) m:=by
  grind
 rw[<-eo];exact C2 (.refl _) Zr
end Go.Eng
