/- Lemmas 20. -/
import Derived.Test.YteaiieomnhbmgaaGreatDoorAA19
set_option maxHeartbeats 4000000
namespace Go.Eng
open Go.Proofs
variable {a b:CS}(r:Rl)
theorem AdX(hr:CX r):PC 172 [.agg (Au r)] (vi (CM r)):=by
 have h1:=rU r.path hr.1;have h2:=Aa5 r.ver;have h3:=c68 rU wM r.reqs hr.2;have h4:=wi r.arch;have h5:=wi r.ifc;have h6:=wi r.cert;obtain⟨N,hN⟩:∃N,N=CM r:=⟨_,rfl⟩;rw[<-hN];refine Ps CQ Tryz.func172 rfl (Nz rfl) (C1 (C2 (h1) (Yi (fun h=>?_) (fun h=>?_))))
 .exact .of_eq (Aa vi (show(4:Int)=N by
   grind [aX,CM]))
 refine Be (show ∃m,Bc r.path=some m by
  grind) (fun m hp=>?_)
 have em:jV r.path=m:=aa0
 have hN:N=if !BN r.ver||!decide (r.ver.a=m)then 2 else if A8 r.reqs≠0 then A8 r.reqs else if Er r.arch&&Er r.ifc&&Er r.cert then 0 else 1:=by
  grind [CM]
 refine yN (A1 (Bt (BN r.ver)).symm (fun e=>?_) (fun e=>?_))
 .rw[e]at h2;refine C1 (C2 (h2) ?_);exact .of_eq (Aa vi (show(2:Int)=N by simp_all))
 rw[e]at h2;refine C1 (C2 (h2) (Yi (fun h7=>?_) (fun h7=>?_)))
 .exact .of_eq (Aa vi (show(2:Int)=N by simp_all))
 have hN:N=if A8 r.reqs≠0 then A8 r.reqs else if Er r.arch&&Er r.ifc&&Er r.cert then 0 else 1:=by
  simp_all
 refine C1 (C2 (h3) (Yi (fun h8=>?_) (fun h8=>?_)))
 .exact .of_eq (Aa vi (show A8 r.reqs=N by omega))
 have hN:N=if Er r.arch&&Er r.ifc&&Er r.cert then 0 else 1:=ch
 refine A1 (Bt (Er r.arch)).symm (fun e1=>?_) (fun e1=>?_)
 .rw[e1]at h4;refine C1 (C2 (h4) ?_);exact .of_eq (Aa vi (show(1:Int)=N by simp_all))
 rw[e1]at h4;refine C1 (C2 (h4) (A1 (Bt (Er r.ifc)).symm (fun e2=>?_) (fun e2=>?_)))
 .rw[e2]at h5;refine C1 (C2 (h5) ?_);exact .of_eq (Aa vi (show(1:Int)=N by simp_all))
 rw[e2]at h5;refine C1 (C2 (h5) (A1 (Bt (Er r.cert)).symm (fun e3=>?_) (fun e3=>?_)))
 .rw[e3]at h6;refine C1 (C2 (h6) ?_);exact .of_eq (Aa vi (show(1:Int)=N by simp_all))
 rw[e3]at h6;refine C1 (C2 (h6) ?_);exact .of_eq (Aa vi (show(0:Int)=N by simp_all))
theorem ZK{a b:Rl}(h:Fa a=Fa b):CB a b=0:=by
 grind [WO,CB,IT,Ik,FG,Cm]
theorem c67(x:List Rl)(ifs:C0)(hs:∀r∈x,CX r):PC 113 [HZ x ifs] (vi (AL x)):=by
 refine Ps (Hy []) Tryz.func113 rfl (Nz rfl) (Be (show ∃N,N=AL x from⟨_,rfl⟩) (fun N hN=>?_));refine Yi (fun h=>?_) (fun h=>?_)
 .exact .of_eq (Aa vi (show(7:Int)=AL x by grind [AL]))
 have hl:x.length<=256:=aa0
 have Uj:AL x=B5 none x:=by grind [AL]
 refine Xi {i:Nat // i<=x.length/\B5 none x=B5 (XT x i) (x.drop i)} (Xi (fun i=>⟨[(3,sl Au x),(4,vi i.1)],[],Ae⟩) (Xi (fun i=>x.length-i.1) (Yi (Xi ⟨0,Aj _,rfl⟩ ?_) ?_)))
 .exact⟨Z2,Tv,Fh,Tv⟩
 intro⟨i,h1,h2⟩;refine Yi (fun h=>?_) (fun h=>?_)
 .skip
  have h:i<x.length:=B0
  have hg:x[i]?=some x[i]:=Ge h;have hd:x.drop i=x[i]::x.drop (i+1):=AD h;have hc:=AdX x[i] (hs x[i] (Ai h));have JD:B5 none x=if CM x[i]≠0 then CM x[i]else match XT x i with
   |none=>B5 (some x[i]) (x.drop (i+1))
   |some b=>if Fa b=Fa x[i]then 5 else if 0<CB b x[i]then 1 else B5 (some x[i]) (x.drop (i+1)):=by rw[h2,hd];rfl
  have uW:XT x (i+1)=some x[i]:=Ge h;refine Xi (Au x[i]) (Yi (Yi ch aa0) (Yi rfl (yN (C1 (C2 (hc) (Yi (fun h3=>?_) (fun h3=>?_)))))))
  .exact .of_eq (Aa vi (show CM x[i]=AL x by omega))
  rw[AA h3]at JD;refine Yi (fun h4=>?_) (fun h4=>?_)
  .have h4:(0:Int)<i:=h4;have hk:i-1<x.length:=ch
   have gj:x[i-1]?=some x[i-1]:=Ge hk;have hn:((i:Int)-1).toNat=i-1:=ch
   have hb:XT x i=some x[i-1]:=by
    grind
   rw[hb]at JD;have JD:B5 none x=if Fa x[i-1]=Fa x[i]then 5 else if 0<CB x[i-1] x[i]then 1 else B5 (some x[i]) (x.drop (i+1)):=JD
   have hcm:=AdY x[i-1] x[i];have Sv:(0:Int)<=(i:Int)-1/\(x.map Au)[((i:Int)-1).toNat]?=some (Au x[i-1]):=⟨by omega,by rw[hn];grind⟩;refine Yi (show Az ((i:Int)-1) by unfold Az;omega) (Xi (Au x[i-1]) (Yi Sv (Yi rfl (yN (Xi (Au x[i]) (Yi (Yi ch (by simp[hg])) (Yi rfl ?_)))))));refine yN (C2 (hcm) (Yi (fun h5=>?_) (fun h5=>?_)))
   .have h5:CB x[i-1] x[i]=0:=h5;refine Yi aa1 ?_;exact .of_eq (Aa vi (show(5:Int)=AL x by rw[Uj,JD,Ax (Wu h5)]))
   have h5:¬CB x[i-1] x[i]=0:=h5;refine Yi aa1 (Yi (fun _=>?_) (fun h9=>absurd h4 h9));refine Yi (show Az ((i:Int)-1) by unfold Az;omega) (Xi (Au x[i-1]) (Yi Sv (Yi rfl (yN (Xi (Au x[i]) (Yi (Yi ch (by simp[hg])) (Yi rfl ?_)))))));refine yN (C2 (hcm) (Yi (fun h6=>?_) (fun h6=>?_)))
   .have h6:0<CB x[i-1] x[i]:=h6;refine Yi aa1 ?_;exact .of_eq (Aa vi (show(1:Int)=AL x by rw[Uj,JD,AA (fun e=>h5 (ZK e)),Ax h6]))
   have h6:¬0<CB x[i-1] x[i]:=h6;refine Yi aa1 (Yi (Ii i ch) (Xi ⟨i+1,by omega,by rw[JD,AA (fun e=>h5 (ZK e)),AA h6,uW]⟩ ?_));exact⟨Dl x.length i ch,Z2,Tv,Fh,Tv⟩
  have h4:¬(0:Int)<i:=h4;have hb:XT x i=none:=by
   grind
  rw[hb]at JD;have JD:B5 none x=B5 (some x[i]) (x.drop (i+1)):=JD;refine Yi aa1 (Yi (fun h9=>absurd h9 h4) (fun _=>?_));refine Yi aa1 (Yi (by grind [Az]) (Xi ⟨i+1,by omega,by grind⟩ ?_));exact⟨by grind,Z2,Tv,Fh,Tv⟩
 .skip
  have h:¬(i:Int)<(x.map Au).length:=h;have h:¬i<x.length:=B0
  have e:(0:Int)=AL x:=by rw[Uj,h2,KD ch];rfl
  exact .of_eq (Aa vi e)
abbrev AeQ:Sl->Sl->Int:=fun a b=>IT a.path b.path
theorem ZJ:IT a b<0↔Dq a b=true:=by
 unfold IT
 by_cases h:Dq a b=true
 .rw[Ax h];simp[h]
 .rw[AA h];split<;>simp[h]
theorem TJ:IT a b=0↔a=b:=by
 unfold IT;constructor
 .intro h;split at h
  .cases h
  .rename_i h1;split at h
   .cases h
   .rename_i h2;exact Hd (by simpa using h1) (by simpa using h2)
 .rintro rfl
  rw[AA (by rw[Cm];decide),AA (by rw[Cm];decide)]
abbrev kept{α:Type}(p:α->Bool)(l:List α):List α:=l.filter fun x=>!p x
abbrev cA:Sl:=⟨r.path,r.ver⟩
theorem o46(ifs:C0)(hl:BD ifs)(hs:∀c∈ifs,c.length=5):PC 103 [.slice .none ifs] (.slice .none ifs):=by
 refine Ps CQ Tryz.func103 rfl (Nz rfl) ?_;have F5:Bi 5 ifs/\([]:C0).length=0/\(([]:C0).length+ifs.length)*112<=140737488355328/\([]:C0).length+ifs.length<=9223372036854775807:=by
  grind [MZ]
 refine Yi ?_ ?_
 .intro _;exact Yi F5 (.refl _)
 .intro h;refine Yi ?_ ?_
  .show BC nzA (.slice .none ifs)
   grind [BC.nil]
  .exact Yi F5 (.refl _)
end Go.Eng
namespace Go.Eng
variable {α:Type}{l:List α}{a b:Int}
structure OC{α β:Type}(c:α->α->Int)(R:α->α->Prop)(key:α->β):Prop where
 lt:∀a b,c a b<0↔R a b
 eq:∀a b,c a b=0↔key a=key b
 tr:∀a b d,R a b->R b d->R a d
 irr:∀a b,key a=key b->¬R a b
 tri:∀a b,¬R a b->key a≠key b->R b a
 cl:∀a b d,key a=key b->R a d->R b d
section
variable {α β:Type}{c:α->α->Int}{R:α->α->Prop}{key:α->β}
theorem Jq(h:OC c R key){a:List α}(ha:a.Pairwise R):(a.map key).Nodup:=by
 unfold List.Nodup;rw[KE];exact ha.imp fun q e=>h.irr _ _ e q
end
/-! The three comparisons. -/
def ltS(a b:Sl):Prop:=Dq a.path b.path=true\/(a.path=b.path/\sK a.ver b.ver)
abbrev Qu(a b:Sl):Prop:=Dq a.path b.path=true
theorem TK:FG a b<0↔a<b:=by
 grind [FG]
theorem JB:FG a b=0↔a=b:=by
 grind [FG]
theorem mB{a b:Ver}:Ik a b<0↔sK a b:=by
 refine⟨fI,fun h=>?_⟩;unfold Ik;rcases h with h | ⟨h1,h | ⟨h2,h⟩⟩
 .rw[Ax (fun c=>by grind [JB])];exact TK.2 h
 .rw[AA (fun c=>c (JB.2 h1)),Ax (fun c=>by grind [JB])];exact TK.2 h
 .rw[AA (fun c=>c (JB.2 h1)),AA (fun c=>c (JB.2 h2))];exact TK.2 h
theorem Pb{a b:Sl}:iZ a b<0↔ltS a b:=by
 grind [iZ,ltS,TJ,mB,Cm,ZJ]
theorem zI:OC AeQ Qu (fun s:Sl=>s.path) where
 lt _ _:=ZJ
 eq _ _:=TJ
 tr _ _ _:=DF
 irr a b e h:=by grind [Cm]
 tri a b h e:=by
  grind [Hd]
 cl a b d e h:=aa0
/-! Pins. -/
theorem dU{β:Type}{f:α->β}(h:(l.map f).Nodup):l.Nodup:=by
 grind [List.Pairwise.imp]
/-! What the reference makes of a list. -/
theorem DV{i:Nat}(h:i<l.length):l.take (i+1)=l.take i++[l[i]]:=A6 h
end Go.Eng
namespace Go.Eng
open Go.Proofs
variable {α:Type}{i:Nat}(l m:List Sl)(p:CS)
def fV(r:Rl):Bool:=decide (r.path=p)&&!r.yanked
def Ach(r:Rl):Int×Int:=(plc r.ver,plc r.ver+1)
theorem iP{x:List Rl}{p:CS}(h:AL x=0):B3 x p=canon ((x.filter (fV p)).map Ach):=by
 unfold B3 LF;rw[AA (not_not_intro h),List.filter_filter]
 congr 3
 grind [fV]
theorem rJ{enc:α->List AV}{n:Nat}(h:∀x,(enc x).length=n)(l:List α):∀cs∈l.map enc,cs.length=n:=fun cs hc=>by
 grind
theorem WY(o:Option α):(∃x,o=some x)\/o=none:=by
 cases o<;>simp_all
structure Mv where
 path:CS
 a:Int
 b:Int
abbrev CJ(m:Mv):List AV:=[vs m.path,vi m.a,vi m.b]
abbrev plP(s:Sl):Value×AV:=(.string s.path,vi (place s.ver))
abbrev H3:List (Value×AV):=l.map plP
def Jv:Int:=match BE l p with | some s=>place s.ver | none=>-1
def LC:Option Mv:=if Jv l p≠Jv m p then some ⟨p,Jv l p,Jv m p⟩else none
abbrev IW(ps:List CS):List Mv:=ps.filterMap (LC l m)
structure FU(l:List Sl):Prop where
 few:BD l
 val:∀s∈l,BN s.ver=true
 inc:l.Pairwise Qu
theorem FU.step{l:List Sl}(h:FU l)(hi:i<l.length)(h0:0<i):Dq (l[i-1]' ch).path l[i].path=true:=(Bz.1 h.inc) (i-1) i ch hi ch
theorem xQ{l:List Sl}(h:FU l)(hi:i<l.length):∀b,(Value.string l[i].path,b)∉H3 (l.take i):=fun b hb=>by
 obtain⟨s,hs,e⟩:=Ay.1 hb;obtain⟨j,hj,rfl⟩:=DS.1 hs;rw[List.getElem_take]at e;rw[AF]at hj;have q:=(Bz.1 h.inc) j i ch hi ch
 grind [Cm]
theorem xS{l:List Sl}(h:FU l){p:CS}{a:AV}(ha:(Value.string p,a)∈H3 l):a=vi (Jv l p):=by
 grind [Jv,GB,Jq,zI,FU.inc]
theorem xT{l:List Sl}{p:CS}(h:∀a,(Value.string p,a)∉H3 l):Jv l p=-1:=by
 unfold Jv;rw[show BE l p=none from OM.2 fun s hs e=>h _ (Ay.2 ⟨s,hs,by rw[<-AT e]⟩)]
theorem gE{l m:List Sl}{ps:List CS}{k:Nat}(h:k<ps.length):IW l m (ps.take (k+1))=IW l m (ps.take k)++(LC l m ps[k]).toList:=by
 grind [DV]
theorem te(hl:FU l):AU Tryz.prog 181 [sl Ab l] (Ak [] Ae) fun r h'=>r=.tup [.mref 2000,vb true]/\h'=Ak [(2000,.map BW (H3 l))] Ae:=by
 have hfl:l.length<=1073741824:=hl.few;refine BX (Ms CQ) [(9,2000)] rfl Ct hm rfl Tryz.func181 aa1 rfl (Nz rfl) aa1 rfl (Xi {q:Nat // q<=l.length} (Xi (fun q=>⟨[(0,sl Ab l),(4,.mref 9),(10,sl Ab l),(11,vi (l.map Ab).length),(12,vi q.1)],[(9,.map BW (H3 (l.take q.1)))],Ae⟩) (Xi (fun q=>l.length-q.1) (Yi (Xi ⟨0,Aj _⟩ ?_) ?_))))
 .exact⟨Z5,Z1,Fh,Bu aa1⟩
 intro⟨i,i1⟩;refine Yi (fun h1=>?_) (fun h1=>?_)
 .have h1:(i:Int)<((l.map Ab).length:Int):=h1;have n1:=Dh h1;refine Xi (Ab l[i]) (Yi (DC n1) (Yi rfl (yN (yN (yN (C1 (C2 (by have q:=zf l[i].ver;rw[Ax (hl.val _ (Ai n1)),Ax (hl.val _ (Ai n1))]at q;exact q) ?_)))))));refine Yi (fun h=>absurd h Wk) (fun _=>?_);refine Yi (fun h2=>?_) (fun h2=>?_)
  .have h2:(0:Int)<(i:Int):=h2;refine Yi (by grind [Az]) ?_;have uT:0<i:=ch
   refine Xi (Ab (l[i-1])) (Yi (Yi (show(0:Int)<=(i:Int)-1 by omega) (by rw[show((i:Int)-1).toNat=i-1 by omega];grind)) (Yi rfl ?_));refine Yi (fun h3=>?_) (fun h3=>?_)
   .have h3:Dq (l[i-1]).path l[i].path=false:=(DZ _ _).trans h3;exact absurd (hl.step n1 uT) B0
   refine Yi aa1 (Yi (by grind [Az]) (Xi ⟨i+1,n1⟩ ?_));exact⟨by grind,Z5,⟨⟨(show HO.map BW (EV (H3 (l.take i)) (.string l[i].path) (vi (place l[i].ver)))=.map BW (H3 (l.take (i+1))) by grind [Im,xQ,DV]),rfl⟩,Tv⟩,Fh,Bu aa1⟩
  refine Yi aa1 (Yi (by grind [Az]) (Xi ⟨i+1,n1⟩ ?_));exact⟨by grind,Z5,⟨⟨(show HO.map BW (EV (H3 (l.take i)) (.string l[i].path) (vi (place l[i].ver)))=.map BW (H3 (l.take (i+1))) by grind [Im,DV]),rfl⟩,Tv⟩,Fh,Bu aa1⟩
 have h1:¬((i:Int)<((l.map Ab).length:Int)):=h1;have n1:=BB h1;have ei:l.take i=l:=As ch;exact C2 (.refl _) ⟨rfl,show Ak [(2000,HO.map BW (H3 (l.take i)))] Ae=Ak [(2000,.map BW (H3 l))] Ae by rw[ei]⟩
theorem AbC(hl:FU l):PC 182 [.cmap BW (H3 l),vs p] (vi (Jv l p)):=by
 refine Ps CQ Tryz.func182 rfl (Nz rfl) (Yi (fun a ha=>?_) (fun Qs=>?_))
 .have ea:=xS hl ha;subst ea;exact .refl _
 exact .of_eq (show vi (-1)=vi (Jv l p) by rw[xT Qs])
theorem o75(t:List CS)(hl:FU l)(aC:FU m)(hfs:l.length+m.length<=1073741824)(Ef:l++m≠[])(hp:t.Perm ((l++m).map (·.path)))(ht:(t.map Ks).Pairwise fun a b=>a<=b):PC 130 [sl Ab l,sl Ab m] (.tup [sl CJ (IW l m (B8 t)),vi 0]):=by
 obtain⟨LM,hLM⟩:∃LM,LM=l++m:=⟨_,rfl⟩;have hm:=aC;rw[<-hLM]at hp;have hLl:LM.length=l.length+m.length:=B0
 refine FM (jd ⟨[],[(14,3)],[(10,1)],[(34,[12000,12500])],[],[],[],[],[],[],[6,7,8,9,11,13,14,15,16,17,18,19,21]⟩) rfl Ct Go.Eng.hm rfl Tryz.func130 aa1 rfl (Nz rfl) aa1 (Xi (.gen [] 1) (Yi rfl (AU.to2 (te l hl) ?_)));refine Xi (.gen [] 1) (Yi rfl (AU.to2 (te m hm) ?_));refine cU [(0,sl Ab l),(1,sl Ab m),(6,.mref 12000),(8,.mref 12500),(10,.msl 10 0)] [(10,.arr 1 []),(12000,.map BW (H3 l)),(12500,.map BW (H3 m))] Z5 Z3 (Xi (.gen [] 1) (Yi rfl (AU.to2 (wx l hl.few) ?_)));have b4:Bi 4 (m.map Ab)/\(l.map Ab).length=(l.map Ab).length/\((l.map Ab).length+(m.map Ab).length)*40<=140737488355328/\(l.map Ab).length+(m.map Ab).length<=9223372036854775807:=⟨(BV (enc:=Ab) (n:=4) (fun _=>rfl) m),rfl,aa0,aa0⟩;refine Yi b4 (Xi {q:Nat×List CS // q.1<=LM.length/\q.2=(LM.take q.1).map (·.path)} (Xi (fun q=>⟨[(6,.mref 12000),(8,.mref 12500),(10,.msl 10 q.1.2.length),(37,.slice (.id 13500 4) (LM.map Ab)),(38,vi (LM.length:Nat)),(39,vi q.1.1)],[(10,.arr 1 (q.1.2.map Af)),(12000,.rom BW (H3 l)),(12500,.rom BW (H3 m)),(13500,.tok 4 LM.length)],Ae⟩) (Xi (fun q=>LM.length-q.1.1) (Yi (Xi ⟨(0,[]),Aj _,rfl⟩ ?_) ?_))))
 .exact⟨⟨Zr,Zr,Zr,⟨(show AV.slice (.id 13500 4) (l.map Ab++m.map Ab)=.slice (.id 13500 4) (LM.map Ab) by simp_all),rfl⟩,⟨(show vi ((l.map Ab++m.map Ab:C0).length:Int)=vi ((LM.length:Nat):Int) by simp_all),rfl⟩,Zr,Tv⟩,⟨Zr,Zr,Zr,⟨(show HO.tok 4 ((l.map Ab).length+(m.map Ab).length)=.tok 4 LM.length by simp_all),rfl⟩,Tv⟩,Fh,Tv⟩
 intro⟨⟨i,P⟩,i1,i2⟩;have i2:P=(LM.take i).map (·.path):=i2;have i3:P.length<=i:=B0
 refine cU [(6,.mref 12000),(8,.mref 12500),(10,.msl 10 P.length),(37,.slice (.id 13500 4) (LM.map Ab)),(38,vi (LM.length:Nat)),(39,vi i)] [(10,.arr 1 (P.map Af)),(12000,.rom BW (H3 l)),(12500,.rom BW (H3 m)),(13500,.tok 4 LM.length)] Z6 Z4 (Yi (fun h5=>?_) (fun h5=>?_))
 .have n5:i<LM.length:=ch
  refine cU [(6,.mref 12000),(8,.mref 12500),(10,.msl 10 P.length),(37,.slice (.id 13500 4) (LM.map Ab)),(38,vi (LM.length:Nat)),(39,vi i)] [(10,.arr 1 (P.map Af)),(12000,.rom BW (H3 l)),(12500,.rom BW (H3 m)),(13500,.tok 4 LM.length)] Z6 Z4 (Xi (Ab LM[i]) (Yi (DC n5) (Yi rfl (yN (yN (cU [(6,.mref 12000),(8,.mref 12500),(10,.msl 10 P.length),(12,.ref 12 0),(37,.slice (.id 13500 4) (LM.map Ab)),(38,vi (LM.length:Nat)),(39,vi i)] [(10,.arr 1 (P.map Af)),(12,.cells (Ab LM[i])),(12000,.rom BW (H3 l)),(12500,.rom BW (H3 m)),(13500,.tok 4 LM.length)] Z7 Z5 ?_))))))
  have b6:Bi 1 [[vs LM[i].path]]/\(P.map Af).length=P.length/\((P.map Af).length+([[vs LM[i].path]]:C0).length)*16<=140737488355328/\(P.map Af).length+([[vs LM[i].path]]:C0).length<=9223372036854775807:=⟨⟨rfl,trivial⟩,B0,aa0,aa0⟩;refine Yi b6 (Yi (by grind [Az]) (Xi ⟨(i+1,P++[LM[i].path]),n5,by show P++[LM[i].path]=_;rw[DV n5,Ar,i2];rfl⟩ ?_));exact⟨Dl LM.length i ch,⟨Zr,Zr,⟨(show AV.msl 10 ((P.map Af).length+([[vs LM[i].path]]:C0).length)=.msl 10 (P++[LM[i].path]).length by simp_all),rfl⟩,Zr,Zr,Zr,Tv⟩,⟨⟨(show HO.arr 1 (P.map Af++[[vs LM[i].path]])=.arr 1 ((P++[LM[i].path]).map Af) by simp_all),rfl⟩,Zr,Zr,Zr,Tv⟩,Fh,Tv⟩
 have hPe:P=LM.map (·.path):=aa0
 have hPf:BD P:=ch
 have hPn:P≠[]:=fun e=>by grind
 have hPt:t.length=P.length:=by rw[hPe];exact hp.length_eq
 have htl:t.length<=1073741824:=ch
 have htn:t≠[]:=fun e=>hPn (AY B0);have hcl:(B8 t).length<=t.length:=by unfold B8;rw[Lm];exact Av (Mq _) aa0
 refine cU [(6,.mref 12000),(8,.mref 12500),(10,.msl 10 P.length)] [(10,.arr 1 (P.map Af)),(12000,.rom BW (H3 l)),(12500,.rom BW (H3 m))] Z3 Z3 (Xi (.gen [(10,1000)] 0) (Yi rfl (AU.to2 (AbB P t hPf hPn aa0 ht) ?_)));refine cU [(6,.mref 12000),(8,.mref 12500),(10,.msl 10 P.length),(13,.v (.func (.func 182) #[] #[]))] [(10,.arr 1 (t.map Af)),(12000,.rom BW (H3 l)),(12500,.rom BW (H3 m))] Z4 Z3 (cU [(6,.mref 12000),(8,.mref 12500),(10,.msl 10 t.length),(13,.v (.func (.func 182) #[] #[])),(14,.slice (.id 14 3) [])] [(10,.arr 1 (t.map Af)),(14,.tok 3 0),(12000,.rom BW (H3 l)),(12500,.rom BW (H3 m))] ⟨Zr,Zr,⟨(Aa (AV.msl 10) hPt.symm),rfl⟩,Zr,Zr,Tv⟩ Z4 (Xi (.gen [(10,1000)] 1) (Yi rfl (AU.to2 (Agd t ch htn) ?_))));refine Xi {q:Nat×List Mv // q.1<=(B8 t).length/\q.2=IW l m ((B8 t).take q.1)} (Xi (fun q=>⟨[(6,.mref 12000),(8,.mref 12500),(13,.v (.func (.func 182) #[] #[])),(14,.slice (.id 14 3) (q.1.2.map CJ)),(52,.msl 15200 (B8 t).length),(53,vi (B8 t).length),(54,vi q.1.1)],[(14,.tok 3 q.1.2.length),(12000,.rom BW (H3 l)),(12500,.rom BW (H3 m)),(15200,.arr 1 ((B8 t).map Af))],Ae⟩) (Xi (fun q=>(B8 t).length-q.1.1) (Yi (Xi ⟨(0,[]),Aj _,rfl⟩ ?_) ?_)))
 .exact⟨Z7,Z4,Fh,Tv⟩
 intro⟨⟨k,O⟩,k1,k2⟩;have k2:O=IW l m ((B8 t).take k):=k2;have k3:O.length<=k:=aa0
 refine cU [(6,.mref 12000),(8,.mref 12500),(13,.v (.func (.func 182) #[] #[])),(14,.slice (.id 14 3) (O.map CJ)),(52,.msl 15200 (B8 t).length),(53,vi (B8 t).length),(54,vi k)] [(14,.tok 3 O.length),(12000,.rom BW (H3 l)),(12500,.rom BW (H3 m)),(15200,.arr 1 ((B8 t).map Af))] Z7 Z4 (Yi (fun Is=>?_) (fun Is=>?_))
 .have nb:k<(B8 t).length:=ch
  have n10:=nb;have gb:(B8 t)[k]?=some (B8 t)[k]:=Ge nb;refine cU [(6,.mref 12000),(8,.mref 12500),(13,.v (.func (.func 182) #[] #[])),(14,.slice (.id 14 3) (O.map CJ)),(52,.msl 15200 (B8 t).length),(53,vi (B8 t).length),(54,vi k)] [(14,.tok 3 O.length),(12000,.rom BW (H3 l)),(12500,.rom BW (H3 m)),(15200,.arr 1 ((B8 t).map Af))] Z7 Z4 (Yi ch (Yi (show(B8 t).length=((B8 t).map Af).length by grind) (Xi (Af ((B8 t)[k])) (Yi (El gb) (cU [(6,.mref 12000),(8,.mref 12500),(13,.v (.func (.func 182) #[] #[])),(14,.slice (.id 14 3) (O.map CJ)),(16,vs ((B8 t)[k])),(52,.msl 15200 (B8 t).length),(53,vi (B8 t).length),(54,vi k)] [(14,.tok 3 O.length),(12000,.rom BW (H3 l)),(12500,.rom BW (H3 m)),(15200,.arr 1 ((B8 t).map Af))] Z8 Z4 (C1 (C2 (AbC l (B8 t)[k] hl) (C1 (C2 (AbC m (B8 t)[k] hm) (yN (cU [(6,.mref 12000),(8,.mref 12500),(13,.v (.func (.func 182) #[] #[])),(14,.slice (.id 14 3) (O.map CJ)),(17,.ref 17 0),(52,.msl 15200 (B8 t).length),(53,vi (B8 t).length),(54,vi k)] [(14,.tok 3 O.length),(17,.cells [vs ((B8 t)[k]),vi (Jv l (B8 t)[k]),vi (Jv m (B8 t)[k])]),(12000,.rom BW (H3 l)),(12500,.rom BW (H3 m)),(15200,.arr 1 ((B8 t).map Af))] Z8 Z5 (Yi (fun IM=>?_) (fun IM=>?_)))))))))))))
  .refine cU [(6,.mref 12000),(8,.mref 12500),(13,.v (.func (.func 182) #[] #[])),(14,.slice (.id 14 3) (O.map CJ)),(17,.ref 17 0),(52,.msl 15200 (B8 t).length),(53,vi (B8 t).length),(54,vi k)] [(14,.tok 3 O.length),(17,.cells [vs ((B8 t)[k]),vi (Jv l (B8 t)[k]),vi (Jv m (B8 t)[k])]),(12000,.rom BW (H3 l)),(12500,.rom BW (H3 m)),(15200,.arr 1 ((B8 t).map Af))] Z8 Z5 (yN (Yi (Zi rfl ch Wk) (Yi (Ii k ch) ?_)));have eO:=gE (l:=l) (m:=m) n10;have eM:LC l m (B8 t)[k]=some ⟨(B8 t)[k],(Jv l (B8 t)[k]),(Jv m (B8 t)[k])⟩:=Ax IM;rw[eM]at eO;refine Xi ⟨(k+1,(O++[(⟨(B8 t)[k],(Jv l (B8 t)[k]),(Jv m (B8 t)[k])⟩:Mv)])),n10,by grind⟩ ?_;exact⟨by show(B8 t).length-(k+1)<(B8 t).length-k;omega,⟨Zr,Zr,Zr,⟨(show AV.slice (.id 14 3) (O.map CJ++[[vs (B8 t)[k],vi (Jv l (B8 t)[k]),vi (Jv m (B8 t)[k])]])=.slice (.id 14 3) ((O++[(⟨(B8 t)[k],(Jv l (B8 t)[k]),(Jv m (B8 t)[k])⟩:Mv)]).map CJ) by grind),rfl⟩,Zr,Zr,Zr,Tv⟩,⟨⟨zw,rfl⟩,Zr,Zr,Zr,Tv⟩,Fh,Tv⟩
  have IM:((Jv l (B8 t)[k]):Int)=((Jv m (B8 t)[k]):Int):=Aq IM;refine Yi (Ii k ch) ?_;have eO:=gE (l:=l) (m:=m) n10;have eM:LC l m (B8 t)[k]=none:=AA (fun c=>c IM);rw[eM]at eO;rw[show(none:Option Mv).toList=[]from rfl,Bg]at eO;refine Xi ⟨(k+1,O),n10,by grind⟩ ?_;exact⟨by grind,Z7,Z4,Fh,Tv⟩
 refine cU [(14,.slice (.id 14 3) (O.map CJ))] [(14,.tok 3 O.length)] Z1 Z1 ?_
 have ek:(B8 t).take k=B8 t:=As ch;have eO:O=IW l m (B8 t):=aa0
 exact .of_eq (Aa (fun z=>AV.tup [sl CJ z,vi 0]) eO)
end Go.Eng
namespace Go.Proofs
open Go.Shelf Go.RowKit Go.Lib Go.Sort
abbrev OneC:Type:={v:Value // v.oneCell'=true}
def SlA:Type:=ByteArray×OneC×OneC×OneC
instance:Inhabited SlA:=⟨⟨ByteArray.empty,⟨.bool false,rfl⟩,⟨.bool false,rfl⟩,⟨.bool false,rfl⟩⟩⟩
def encSlA(x:SlA):List Value:=[.string x.1,x.2.1.1,x.2.2.1.1,x.2.2.2.1]
def cfSlA(x y:SlA):Int:=Lib.compareBytes x.1.data.toList y.1.data.toList
abbrev CmpSlG(cf:SlA->SlA->Int)(k:Nat):Prop:=∀(x y:SlA) (W:World),Calls Tryz.prog k #[.agg #[.string x.1,x.2.1.1,x.2.2.1.1,x.2.2.2.1],.agg #[.string y.1,y.2.1.1,y.2.2.1.1,y.2.2.2.1]] W fun e w'=>e=.returned (.int .i64 (cf x y))/\∃q os',w'=grow (W.drewN q) os'
abbrev CmpSlA(k:Nat):Prop:=CmpSlG cfSlA k
theorem Tryz.closure139:CmpSlA 139:=fun x y W=>by
 have hcon:=fun W'=>Any.strings_Compare Tryz.layCompare x.1 y.1 W';obtain⟨a,⟨b,hb⟩,⟨c,hc⟩,⟨d,hd⟩⟩:=x;obtain⟨a',⟨b',uO⟩,⟨c',hc'⟩,⟨d',zu⟩⟩:=y;dsimp only at hcon
 change ∀W',Calls Tryz.prog 140 _ _ _ at hcon
 unfold cfSlA;dsimp only;generalize Lib.compareBytes a.data.toList a'.data.toList=r at hcon⊢
 go_enter Tryz.func139,Tryz.ntmps139
 go_wp2_with (go_at_call 140;refine(hcon _).mono ?_;rintro e w' ⟨rfl,rfl⟩)
 go_ret
 exact⟨rfl,0,_,by rw[alloc_eq_grow,alloc_eq_grow,grow_grow];rfl⟩
end Go.Proofs
namespace Go.Eng
open Go.Proofs Go.Proofs.Tryz Go.Shelf Go.RowKit Go.Lib Go.Sort
theorem Abv(x y:SlA):ltOf cfSlA x y=Dq x.1 y.1:=UB _ _
section
variable {cf:SlA->SlA->Int}(EU:∀x y,ltOf cf x y=Dq x.1 y.1)
include EU
theorem pS:SWO (ltOf cf) where
 irrefl x:=by grind [Cm]
 trans x y z h1 h2:=by grind [DF]
 ntrans x y z h1 h2:=by
  grind [DF,Hd]
theorem Ah6(k:Nat)(hc:CmpSlG cf k)(eg:∀args w,(callFunc k args).run Tryz.prog w=.ok (.enter k args) w)(l:List Sl)(hl:BD l)(lim:Nat)(aB:lim<100) :
  AU Tryz.prog 184 [.msl 1000 l.length,vi 0,vi l.length,vi lim,.v (Ye k)] (Ak [(1000,.arr 4 (l.map Ab))] Ae) fun r h'=>
   r=.tup []/\∃l' : List Sl,l'.Perm l/\l'.Pairwise (fun x y=>Dq y.path x.path=false)/\h'=Ak [(1000,.arr 4 (l'.map Ab))] Ae:=by
 have hl:l.length<=1073741824:=hl;have hE:FL Tryz.prog 184:=ZX 184 func184 aa1 rfl;have I4:=Jy (P:=Tryz.prog) (f:=184) (α:=SlA) (rest:=[.int .i64 0,.int .i64 l.length,.int .i64 lim,Ye k]) hE Ab encSlA (k:=4) (fun _=>rfl) (fun _=>rfl) (ltOf cf) (fun x a=>a.1=x.path) l ch ?_ ?_ ?_
 .refine⟨hE,fun g w vals q1 q2 q3=>(I4.2 g w vals q1 q2 q3).mono fun _ _ ⟨v,r,h',g',e1,⟨e2,l',p1,⟨al,a1,a2,a3⟩,p2⟩,rest⟩=>⟨v,r,h',g',e1,⟨e2,l',p1,?_,p2⟩,rest⟩⟩;rw[Bz]at a3⊢;intro i j hi hj az
  have:=a3 i j ch ch az
  rw[EU]at this;have e1:=a2 i _ _ (Ge hi) (Ge ch);have e2:=a2 j _ _ (Ge hj) (Ge ch);simp_all
 .intro x hx g w vs hr
  match vs,hr with
  | [a,b,c,d],hr=>
   have h1:=(hr.2.2 0 (Go.Eng.vs x.path) a rfl rfl).v_eq;subst h1;exact⟨⟨x.path,⟨b,hr.2.1 b Cl⟩,⟨c,hr.2.1 c Cl⟩,⟨d,hr.2.1 d Cl⟩⟩,rfl,rfl⟩
  | [],hr=>have:=hr.1;simp_all
  | [_],hr=>have:=hr.1;simp_all
  | [_,_],hr=>have:=hr.1;simp_all
  | [_,_,_],hr=>have:=hr.1;simp_all
  |_::_::_::_::_::_,hr=>have:=hr.1;simp_all
 .intro w b cap d hH hb FE hdl;have nD:CmpLays Tryz.prog k #[] encSlA 4 cf b 0 d.size w:=fun _ _ _ _ x y=>hc x y _;have hp:=AnyQ.pdqsortCmpFunc_all Tryz.layPdqSel 4 isAgg48 sizeOf48 encSlA cf k #[] (pS EU) b 0 cap d w eg nD ⟨fun _=>rfl,fun x v hv=>by
    simp only[encSlA,AZ,L8,or_false]at hv;rcases hv with rfl | rfl | rfl | rfl
    .rfl
    all_goals grind,hH,hb⟩ (d.size+1) 0 d.size lim d w ch rfl (SWK.start hH) (Aj _) (Ao _) FE ch (Or.inl rfl)
  rw[hdl]at hp⊢;refine hp.mono ?_
  rintro e w' ⟨rfl,n,os,rfl⟩
  have h:=pdq_sorts (ltOf cf) (pS EU) d 0 d.size lim true true (Aj _) (Ao _) (Or.inl rfl)
  grind
 .intro e w;subst e;exact AnyF.pdqsortCmpFunc_none Tryz.layPdqSel none 0 lim (Ye k) w
end
theorem Iw{l l' : List Sl}(h1:XG l)(h2:XG l')(hm:∀y,y∈l↔y∈l'):l=l':=by
 induction l generalizing l' with
 |nil=>
  cases l'<;>grind [List.mem_cons_self]
 |cons x l ih=>
  cases l'<;>grind [List.pairwise_cons,DF,Cm]
theorem pN{l l' : List Sl}(hn:(l.map (·.path)).Nodup)(hp:l'.Perm l)(hs:l'.Pairwise fun x y=>Dq y.path x.path=false):l'=Dx l:=by
 refine Iw ?_ (Jw hn) fun y=>by grind [FN]
 grind [List.pairwise_iff_getElem,Hd,absurd]
theorem Acf{cf:SlA->SlA->Int}(EU:∀x y,ltOf cf x y=Dq x.1 y.1)(k:Nat)(hc:CmpSlG cf k)(eg:∀args w,(callFunc k args).run Tryz.prog w=.ok (.enter k args) w)(l:List Sl)(hl:BD l)(hn:(l.map (·.path)).Nodup) :
  AU Tryz.prog 133 [.msl 1000 l.length,.v (Ye k)] (Ak [(1000,.arr 4 (l.map Ab))] Ae) fun r h'=>
   r=.tup []/\h'=Ak [(1000,.arr 4 ((Dx l).map Ab))] Ae:=by
 obtain⟨lim,aB,hb⟩:=md l.length hl;refine BX (Ms CQ) [(1000,1000)] rfl Ct hm rfl func133 aa1 rfl (Nz rfl) aa1 rfl (C1 (C2 (hb) (Xi (.gen [(1000,1000)] 0) (Yi rfl ((Ah6 EU k hc eg l hl lim aB).imp ?_)))));intro r h' hq;refine Be hq.2 (fun l' Sx=>?_);have e:=pN hn Sx.1 Sx.2.1;refine Xi (.tup []) (Yi ?_ (Yi rfl ?_))
 .exact .refl _
 .rw[Sx.2.2,e];rfl
theorem s47(k:Nat)(hc:CmpSlA k)(eg:∀args w,(callFunc k args).run Tryz.prog w=.ok (.enter k args) w)(l:List Sl)(hl:BD l)(hn:(l.map (·.path)).Nodup) :
  AU Tryz.prog 133 [.msl 1000 l.length,.v (Ye k)] (Ak [(1000,.arr 4 (l.map Ab))] Ae) fun r h'=>
   r=.tup []/\h'=Ak [(1000,.arr 4 ((Dx l).map Ab))] Ae:=
 Acf Abv k hc eg l hl hn
end Go.Eng
namespace Go.Eng
open Go.Proofs Go.Proofs.Tryz
variable {l:List Nf}{i:Nf}{caps:List AV}{k fF:Nat}(roots:List Rq)(C A:List (Value×AV))(c:Cd)(s:SS)(dec:List Cd)(st:List (List Sk))(S:List Sl)(n:Nat)
abbrev AM:List AV:=vi c.place::Au c.rel
abbrev Bn(n:Nd):List AV:=[vs n.rq.path,sl Ag n.rq.set,vs n.path,vi n.place,vi n.number]
abbrev Bb(l:List Sk):List AV:=[sl Cb l]
abbrev Cz(i:Nat):List AV:=[vi (i:Nat)]
def FI:E1:=⟨true,[.int .i64,.str,.int .i64,.int .i64,.int .i64,.int .i64]⟩
def LZ(i:Nf):Value:=.agg [.int .i64 i.kind,.string i.path,.int .i64 i.place,.int .i64 i.number,.int .i64 i.left,.int .i64 i.right].toArray
def FK:Nat->List Nf->List (Value×AV)
 |_,[]=>[]
 |k,i::l=>(LZ i,vi (k:Nat))::FK (k+1) l
abbrev srC:List AV:=
 [sl AI roots,.cmap BW C,.cmap BW A,.slice (.id 1001 6) (s.infs.map Dy),.slice (.id 1002 1) (s.drv.map Df),.mref 1003,vb s.full,sl AM dec,sl Ab (AP dec),.msl 1004 n]
abbrev srM(k n:Nat):List AV:=
 [sl AI roots,.cmap BW C,.cmap BW A,.slice (.id 1001 6) (s.infs.map Dy),.slice (.id 1002 1) (s.drv.map Df),.mref 1003,vb s.full,sl AM dec,sl Ab (AP dec),.msl k n]
abbrev Jm:List (Nat×HO):=
 [(1000,.cells (srC roots C A s dec st.length)),(1001,.tok 6 s.infs.length),(1002,.tok 1 s.drv.length),(1003,.map FI (FK 0 s.infs)),(1004,.arr 1 (st.map Bb))]
theorem AgY(hs:Cc caps)(l:List (Cd))(p:Cd->Bool)(hF:∀x∈l,PC fF ([.agg (AM x)]++caps) (vb (p x)))(hl:l.length<9223372036854775807) :
  PC 339 [sl AM l,.clo fF caps] (vi (I7 p l 0)):=by
 refine Ps CQ func339 rfl (Nz rfl) (Xi {i:Nat // i<=l.length/\∀j (hj:j<l.length),j<i->p l[j]=false} (Xi (fun i=>⟨[(0,sl AM l),(1,.clo fF caps),(7,vi (l.map AM).length),(8,vi i.1)],[],Ae⟩) (Xi (fun i=>l.length-i.1) (Yi (Xi ⟨0,by simp⟩ ?_) ?_))))
 .exact⟨⟨Zr,⟨rfl,hs.ids _⟩,Zr,Zr,Tv⟩,Tv,Fh,Tv⟩
 .intro⟨i,h1,h2⟩;refine Yi ?_ ?_
  .intro h;have h:i<l.length:=B0
   have hg:l[i]?=some l[i]:=Ge h;refine Xi (AM l[i]) (Yi (Yi ch B0) (Yi rfl (yN ?_)));have BQ:∀h,PC fF ([.agg (AM l[i])]++caps.map (str0 h)) (vb (p l[i])):=fun h=>by rw[hs.map];simp_all
   cases hp:p l[i]with
   |true=>
    rw[hp]at BQ;refine Xi .pure (Xi (vb true) (Yi (BQ _) ?_));rw[Hl h (fun j hj G8=>h2 j hj G8) hp,Ev];exact .refl _
   |false=>
    rw[hp]at BQ;refine Xi .pure (Xi (vb false) (Yi (BQ _) (Yi (by grind [Az]) (Xi ⟨i+1,by omega,fun j hj G8=>?_⟩ ?_))))
    .grind
    .exact⟨by grind,⟨Zr,⟨rfl,hs.ids _⟩,Zr,Zr,Tv⟩,Tv,Fh,Tv⟩
  .intro h;have h:¬i<l.length:=B0
   rw[F8 fun j hj=>h2 j hj ch];exact .refl _
theorem s86(hs:Cc caps)(l:List (Nd))(p:Nd->Bool)(hF:∀x∈l,PC fF ([.agg (Bn x)]++caps) (vb (p x)))(hl:l.length<9223372036854775807) :
  PC 187 [sl Bn l,.clo fF caps] (vi (I7 p l 0)):=by
 refine Ps CQ func187 rfl (Nz rfl) (Xi {i:Nat // i<=l.length/\∀j (hj:j<l.length),j<i->p l[j]=false} (Xi (fun i=>⟨[(0,sl Bn l),(1,.clo fF caps),(7,vi (l.map Bn).length),(8,vi i.1)],[],Ae⟩) (Xi (fun i=>l.length-i.1) (Yi (Xi ⟨0,by simp⟩ ?_) ?_))))
 .exact⟨⟨Zr,⟨rfl,hs.ids _⟩,Zr,Zr,Tv⟩,Tv,Fh,Tv⟩
 .intro⟨i,h1,h2⟩;refine Yi ?_ ?_
  .intro h;have h:i<l.length:=B0
   have hg:l[i]?=some l[i]:=Ge h;refine Xi (Bn l[i]) (Yi (Yi ch B0) (Yi rfl (yN ?_)));have BQ:∀h,PC fF ([.agg (Bn l[i])]++caps.map (str0 h)) (vb (p l[i])):=fun h=>by rw[hs.map];simp_all
   cases hp:p l[i]with
   |true=>
    rw[hp]at BQ;refine Xi .pure (Xi (vb true) (Yi (BQ _) ?_));rw[Hl h (fun j hj G8=>h2 j hj G8) hp,Ev];exact .refl _
   |false=>
    rw[hp]at BQ;refine Xi .pure (Xi (vb false) (Yi (BQ _) (Yi (by grind [Az]) (Xi ⟨i+1,by omega,fun j hj G8=>?_⟩ ?_))))
    .grind
    .exact⟨by grind,⟨Zr,⟨rfl,hs.ids _⟩,Zr,Zr,Tv⟩,Tv,Fh,Tv⟩
  .intro h;have h:¬i<l.length:=B0
   rw[F8 fun j hj=>h2 j hj ch];exact .refl _
theorem Acd(hs:Cc caps)(l:List (Cd))(p:Cd->Bool)(hF:∀x∈l,PC fF ([.agg (AM x)]++caps) (vb (p x)))(hl:BD l) :
  PC 302 [sl AM l,.clo fF caps] (vb (l.any p)):=by
 refine Ps CQ func302 rfl (Nz rfl) ?_;have hi:=AgY hs l p hF ch;have BQ:∀h,PC 339 [sl AM l,.clo fF (caps.map (str0 h))] (vi (I7 p l 0)):=fun h=>by grind [Cc.map]
 refine C1 (C2 (BQ _) ?_);have ha:=Hg (p:=p) l 0 (Bs 0);refine Yi ?_ ?_
 .intro h;rw[<-ha,AB h];exact .refl _
 .intro h;rw[<-ha,Aw h];exact .refl _
theorem Acg(l:List Cd)(hl:BD l):AU Tryz.prog 192 [sl AM l] (Ak [] Ae) fun r h'=>r=.slice (.id 2000 10) (l.map AM)/\h'=Ak [(2000,.tok 10 (l.map AM).length)] Ae:=by
 refine BX (Ms (plT 10)) [(2,2000)] rfl Ct hm rfl func192 aa1 rfl (Nz rfl) aa1 rfl ?_;have F5:Bi 10 (l.map AM)/\([]:C0).length=0/\(([]:C0).length+(l.map AM).length)*128<=140737488355328/\([]:C0).length+(l.map AM).length<=9223372036854775807:=by
  refine⟨BV (enc:=AM) (n:=10) (fun _=>rfl) l,rfl,?_,?_⟩<;>simp only[AC,Lm]<;>unfold BD at hl<;>omega
 have e2:HO.tok 10 (([]:C0).length+(l.map AM).length)=.tok 10 (l.map AM).length:=B0
 have e3:AV.slice (.id 2000 10) ([]++l.map AM)=.slice (.id 2000 10) (l.map AM):=rfl;have full:∀st:St,(∃s:LS,St.le (Ms (plT 10)) st s/\True)->True:=fun _ _=>trivial;refine Xi 0 (Xi 0 (Yi ?_ ?_))
 .intro _;refine cU [(0,sl AM l)] [] Z1 Tv (Xi 2 (Yi F5 ?_));exact C2 (.refl _) (Yi e3 (Aa (fun o=>Ak [(2000,o)] Ae) e2))
 .intro h;refine Yi ?_ ?_
  .refine Xi ⟨[],[],Ae⟩ (Yi ⟨trivial,trivial,fun _=>.inl rfl,Bu aa1⟩ ?_);refine Xi 0 ?_;exact C2 (.refl _) (Yi (show AV.slice (.id 2000 10) []=_ by rw[h]) (show Ak [(2000,HO.tok 10 0)] Ae=_ by simp_all))
  .refine cU [(0,sl AM l)] [] Z1 Tv (Xi 2 (Yi F5 ?_));exact C2 (.refl _) (Yi e3 (Aa (fun o=>Ak [(2000,o)] Ae) e2))
theorem SO:∀{l:List Nf} {k:Nat} {kx:Value} {a:AV},(kx,a)∈FK k l↔∃j i,l[j]?=some i/\kx=LZ i/\a=vi ((k+j:Nat):Int)
 | [],k,kx,a=>by simp[FK]
 |y::l,k,kx,a=>by
  unfold FK;rw[AZ,SO];constructor
  .rintro(h | ⟨j,i,h1,h2,h3⟩)
   .cases h<;>grind
   .exact⟨j+1,i,h1,h2,by grind⟩
  grind
theorem WM{a b:Nf}(h:LZ a=LZ b):a=b:=by
 obtain⟨a1,a2,a3,a4,a5,a6⟩:=a;obtain⟨b1,b2,b3,b4,b5,b6⟩:=b<;>grind [LZ]
theorem Abt(h:Md i 0 l=some k):(LZ i,vi (k:Nat))∈FK 0 l:=by
 grind [Ns,SO]
theorem sG(hn:l.Nodup)(h:Md i 0 l=some k):∀b,(LZ i,b)∈FK 0 l->b=vi (k:Nat):=fun b hb=>by
 grind [Ns,SO,WM,List.getElem_inj]
theorem vd(h:Md i 0 l=none):∀a,(LZ i,a)∉FK 0 l:=fun a ha=>by
 obtain⟨j,i',h1,h2,_⟩:=SO.1 ha
 have:=WM h2
 subst this;exact Rc h (AG h1)
theorem gu:∀(l:List Nf) (k:Nat) (i:Nf),FK k (l++[i])=FK k l++[(LZ i,vi ((k+l.length:Nat):Int))]
 | [],k,i=>by simp[FK]
 |y::l,k,i=>by
  show(LZ y,_)::FK (k+1) (l++[i])=_;rw[gu l (k+1) i]
  grind [FK]
theorem xx(h:Md i 0 l=none):EV (FK 0 l) (LZ i) (vi ((l.map Dy).length:Int))=FK 0 (l++[i]):=by
 grind [MH,vd,gu]
theorem Zx{s:SS}{l:List Tm}(h:Md i 0 s.infs=some k):E4 s i l=(k,s):=by grind [E4]
theorem Wb{s:SS}{l:List Tm}(h:Md i 0 s.infs=none)(hf:65536<=s.infs.length):E4 s i l=(s.infs.length-1,⟨s.infs,s.drv,true⟩):=by grind [E4]
theorem Zw{s:SS}{l:List Tm}(h:Md i 0 s.infs=none)(hf:¬65536<=s.infs.length):E4 s i l=(s.infs.length,⟨s.infs++[i],s.drv++[l],s.full⟩):=by grind [E4]
section
variable {roots:List Rq}{C A:List (Value×AV)}{s s' : SS}{dec:List Cd}{st:List (List Sk)}{i:Nf}{l:List Tm}
theorem lK{z:Int}(e:E4 s i l=(k,s'))(hz:z=k):vi z=vi ((E4 s i l).1:Nat)/\Ak (Jm roots C A s' dec st) Ae=Ak (Jm roots C A (E4 s i l).2 dec st) Ae:=B0
theorem zQ(h:Md i 0 s.infs=none):Ak [(1000,.cells [sl AI roots,.cmap BW C,.cmap BW A,.slice (.id 1001 6) (s.infs.map Dy++[Dy i]),.slice (.id 1002 1) (s.drv.map Df++[Df l]),.mref 1003,vb s.full,sl AM dec,sl Ab (AP dec),.msl 1004 st.length]),
      (1001,.tok 6 ((s.infs.map Dy).length+[Dy i].length)),(1002,.tok 1 ((s.drv.map Df).length+[Df l].length)),(1003,.map FI (EV (FK 0 s.infs) (LZ i) (vi ((s.infs.map Dy).length:Int)))),(1004,.arr 1 (st.map Bb))] Ae=Ak (Jm roots C A ⟨s.infs++[i],s.drv++[l],s.full⟩ dec st) Ae:=by
  grind [xx]
end
theorem Ace(p:CS):PC 303 [.agg (AM c),.cptr [vs p]] (vb (decide (c.rel.path=p))):=by
 refine Ps (pC [2] []) func303 rfl (Nz rfl) (Yi (fun h1=>?_) (fun h1=>?_))
 .exact .of_eq (show vb true=vb (decide (c.rel.path=p)) by simp_all)
 exact .of_eq (show vb false=vb (decide (c.rel.path=p)) by simp_all)
theorem Aca(t:Tm)(p:CS):PC 260 [.agg (AH t),.cptr [vs p]] (vb (decide (t.path=p))):=by
 refine Ps (pC [2] []) func260 rfl (Nz rfl) (Yi (fun h1=>?_) (fun h1=>?_))
 .exact .of_eq (show vb true=vb (decide (t.path=p)) by simp_all)
 exact .of_eq (show vb false=vb (decide (t.path=p)) by simp_all)
theorem qP(l:List Tm)(p:CS)(hl:BD l):PC 193 [sl AH l,vs p] (vb (DL l p)):=by
 refine Ps (pC [3] []) func193 rfl (Nz rfl) (A1 (Bt (DL l p)) (fun h1=>?_) (fun h1=>?_))
 .refine C1 (C2 (cb h1 (show PC 259 [sl AH l,.clo 260 [.cptr [vs p]]] (vb (DL l p))from we (fF:=260) (caps:=[.cptr [vs p]]) (fun c hc=>by obtain rfl:=AQ.1 hc;intro h;rfl) l (fun t=>decide (t.path=p)) (fun t _=>Aca t p) hl)) ?_);exact .of_eq (show vb true=vb (DL l p) by rw[h1])
 refine C1 (C2 (cb h1 (show PC 259 [sl AH l,.clo 260 [.cptr [vs p]]] (vb (DL l p))from we (fF:=260) (caps:=[.cptr [vs p]]) (fun c hc=>by obtain rfl:=AQ.1 hc;intro h;rfl) l (fun t=>decide (t.path=p)) (fun t _=>Aca t p) hl)) ?_);exact .of_eq (show vb false=vb (DL l p) by rw[h1])
theorem Ac9(p:CS)(hl:BD dec):AU Tryz.prog 254 [.ref 1000 0,vs p] (Ak (Jm roots C A s dec st) Ae) fun r h'=>r=vb (DT dec p)/\h'=Ak (Jm roots C A s dec st) Ae:=by
 refine BX (Ms (pC [3] [])) [(1000,1000),(1001,1001),(1002,1002),(1003,1003),(1004,1004)] rfl Ct hm rfl func254 aa1 rfl (Nz rfl) aa1 rfl (A1 (Bt (DT dec p)) (fun h1=>?_) (fun h1=>?_))
 .refine C1 (C2 (cb h1 (show PC 302 [sl AM dec,.clo 303 [.cptr [vs p]]] (vb (DT dec p))from Acd (fF:=303) (caps:=[.cptr [vs p]]) (fun c hc=>by obtain rfl:=AQ.1 hc;intro h;rfl) dec (fun c=>decide (c.rel.path=p)) (fun c _=>Ace c p) hl)) ?_);exact C2 (.refl _) (Yi (show vb true=vb (DT dec p) by rw[h1]) rfl)
 refine C1 (C2 (cb h1 (show PC 302 [sl AM dec,.clo 303 [.cptr [vs p]]] (vb (DT dec p))from Acd (fF:=303) (caps:=[.cptr [vs p]]) (fun c hc=>by obtain rfl:=AQ.1 hc;intro h;rfl) dec (fun c=>decide (c.rel.path=p)) (fun c _=>Ace c p) hl)) ?_);exact C2 (.refl _) (Yi (show vb false=vb (DT dec p) by rw[h1]) rfl)
theorem tH(i:Nf)(l:List Tm)(k:Nat)(hk:Md i 0 s.infs=some k)(aD:s.infs.Nodup):AU Tryz.prog 255 [.ref 1000 0,.agg (Dy i),sl AH l] (Ak (Jm roots C A s dec st) Ae) fun r h'=>r=vi ((E4 s i l).1:Nat)/\h'=Ak (Jm roots C A (E4 s i l).2 dec st) Ae:=by
 refine BX (Ms (pC [4] [])) [(1000,1000),(1001,1001),(1002,1002),(1003,1003),(1004,1004)] rfl Ct hm rfl func255 aa1 rfl (Nz rfl) aa1 rfl (yN ?_);refine Or.inl (Xi (vi (k:Nat)) (Yi (Yi (Abt hk) (sG aD hk)) ?_));refine Yi aa1 ?_;exact C2 (.refl _) (lK (Zx hk) rfl)
theorem tG(i:Nf)(l:List Tm)(hk:Md i 0 s.infs=none)(hn:s.infs.length<=65536)(hdl:s.drv.length=s.infs.length):AU Tryz.prog 255 [.ref 1000 0,.agg (Dy i),sl AH l] (Ak (Jm roots C A s dec st) Ae) fun r h'=>r=vi ((E4 s i l).1:Nat)/\h'=Ak (Jm roots C A (E4 s i l).2 dec st) Ae:=by
 have hdn:s.drv.length<=65536:=ch
 have hml:(s.infs.map Dy).length=s.infs.length:=Lm _;refine BX (Ms (pC [4] [])) [(1000,1000),(1001,1001),(1002,1002),(1003,1003),(1004,1004)] rfl Ct hm rfl func255 aa1 rfl (Nz rfl) aa1 rfl (yN ?_);refine Or.inr (Yi (vd hk) ?_);refine Yi aa1 (Yi (fun h1=>?_) (fun h1=>?_))
 .refine yN (Yi (by grind [Az]) ?_);exact C2 (.refl _) (lK (Wb hk ch) ch)
 refine yN (Yi aa1 (yN (Yi (Zi rfl ch Wk) (yN (Yi aa1 (Yi (Zi rfl ch Wk) (yN ?_)))))));have hq:=lK (roots:=roots) (C:=C) (A:=A) (dec:=dec) (st:=st) (z:=((s.infs.map Dy).length:Int)) (Zw (l:=l) hk ch) ch;exact C2 (.refl _) (Yi hq.1 ((zQ hk).trans hq.2))
structure Lg(x:List Rl)(roots:List Rq)(s:SS):Prop where
 der:EZ x roots s
 nodup:s.infs.Nodup
abbrev vH(o:Nat×SS)(r:AV)(h' : Nat->HO):Prop:=r=vi (o.1:Nat)/\h'=Ak (Jm roots C A o.2 dec st) Ae
theorem tE(i:Nf)(l:List Tm)(hn:s.infs.length<=65536)(hdl:s.drv.length=s.infs.length)(aD:s.infs.Nodup) :
  AU Tryz.prog 255 [.ref 1000 0,.agg (Dy i),sl AH l] (Ak (Jm roots C A s dec st) Ae) (vH roots C A dec st (E4 s i l)):=by
 cases hk:Md i 0 s.infs<;>grind [tH,tG]
abbrev cH:Jd:=[(1000,1000),(1001,1001),(1002,1002),(1003,1003),(1004,1004)]
theorem Aaq{h2:Nat->HO}{cs:List AV}{o1 o2 o3 o4:HO}(e0:h2 1000=.cells cs)(e1:h2 1001=o1)(e2:h2 1002=o2)(e3:h2 1003=o3)(e4:h2 1004=o4) :
  FH cH h2=Ak [(1000,.cells (cs.map (ren1 (Cw cH) h2))),(1001,o1.ren (Cw cH) h2),(1002,o2.ren (Cw cH) h2),(1003,o3.ren (Cw cH) h2),(1004,o4.ren (Cw cH) h2)] Ae:=by
 unfold FH;simp only[YP];rw[e0,e1,e2,e3,e4];rfl
theorem jJ{s:SS}{n:Nd}(h:n.path=mt):E4 s ⟨0,mt,0,n.number,0,0⟩ (JP n.rq)=Bx s n:=by grind [Bx,VJ,JE]
theorem nZ{s:SS}{n:Nd}(h:¬n.path=mt):E4 s ⟨1,n.path,n.place,n.number,0,0⟩ (EQ n.path n.place n.rq)=Bx s n:=by grind [Bx,VJ,JE]
abbrev mQ(d:List (List Tm))(S:List Sl):AV:=.tup [vi (((Ph d S).getD 0:Nat):Int),vb (Ph d S).isSome]
theorem ZY{S:List Sl}:∀{l:List (List Tm)} {b i:Nat} {t:List Tm},l[i]?=some t->CH t S=true->(∀j u,j<i->l[j]?=some u->CH u S=false)->Pg S b l=some (b+i)
 | [],_,_,_,h,_,_=>by simp_all
 |u::l,b,0,t,h,he,_=>by grind [Pg]
 |u::l,b,i+1,t,h,he,hn=>by
  unfold Pg;rw[AA (by rw[hn 0 u ch rfl];decide),ZY (i:=i) B0 he (fun j v hj hv=>hn (j+1) v ch B0)]
  grind
theorem ZZ{S:List Sl}:∀{l:List (List Tm)} {b:Nat},(∀t∈l,CH t S=false)->Pg S b l=none
 | [],_,_=>rfl
 |u::l,b,h=>by
  unfold Pg;rw[AA B0];exact ZZ fun t ht=>h t (Am _ ht)
theorem s88(n:Nd)(hn:s.infs.length<=65536)(hdl:s.drv.length=s.infs.length)(aD:s.infs.Nodup)(hq:BD n.rq.set)(hp:Az (n.place+1)):AU Tryz.prog 189 [.ref 1000 0,.agg (Bn n)] (Ak (Jm roots C A s dec st) Ae) fun r h'=>vH roots C A dec st (Bx s n) r h':=by
 refine BX (Ms ⟨[3],[],[],[],[],[],[],[],[(15,5),(31,5)],[],[]⟩) [(1000,1000),(1001,1001),(1002,1002),(1003,1003),(1004,1004)] rfl Ct hm rfl func189 aa1 rfl (Nz rfl) aa1 rfl (Yi (fun h1=>?_) (fun h1=>?_))
 .refine yN (C2 (Aej n.rq hq) (Xi cH (Xi [(1000,.cells (srM roots C A s dec 1004 st.length)),(1001,.tok 6 s.infs.length),(1002,.tok 1 s.drv.length),(1003,.map FI (FK 0 s.infs)),(1004,.arr 1 (st.map Bb))] (Xi (Jm roots C A (E4 s ⟨0,mt,0,n.number,0,0⟩ (JP n.rq)).2 dec st) (Xi [.ref 1000 0,.agg [vi 0,vs ⟨#[]⟩,vi 0,vi n.number,vi 0,vi 0],sl AH (JP n.rq)] (Xi (vi (((E4 s ⟨0,mt,0,n.number,0,0⟩ (JP n.rq)).1:Nat):Int):AV) (Yi (fun h2 hh=>Yi ((Aaq (show h2 1000=.cells (srM roots C A s dec 1004 st.length)from hh 1000 Wk) (show h2 1001=.tok 6 s.infs.length from hh 1001 Wk) (show h2 1002=.tok 1 s.drv.length from hh 1002 Wk) (show h2 1003=.map FI (FK 0 s.infs)from hh 1003 Wk) (show h2 1004=.arr 1 (st.map Bb)from hh 1004 Wk)).trans rfl) rfl) (Yi aa1 (Yi (tE roots C A s dec st ⟨0,mt,0,n.number,0,0⟩ (JP n.rq) hn hdl aD) (Yi aa1 ?_))))))))));have ei:=jJ (s:=s) h1;exact C2 (.refl _) (Yi (show vi (((E4 s ⟨0,mt,0,n.number,0,0⟩ (JP n.rq)).1:Nat):Int)=vi (((Bx s n).1:Nat):Int) by rw[ei]) (show Ak (Jm roots C A (E4 s ⟨0,mt,0,n.number,0,0⟩ (JP n.rq)).2 dec st) Ae=Ak (Jm roots C A (Bx s n).2 dec st) Ae by rw[ei]))
 refine yN (C2 (Aek n.path n.place n.rq hp hq) (Xi cH (Xi [(1000,.cells (srM roots C A s dec 1004 st.length)),(1001,.tok 6 s.infs.length),(1002,.tok 1 s.drv.length),(1003,.map FI (FK 0 s.infs)),(1004,.arr 1 (st.map Bb))] (Xi (Jm roots C A (E4 s ⟨1,n.path,n.place,n.number,0,0⟩ (EQ n.path n.place n.rq)).2 dec st) (Xi [.ref 1000 0,.agg [vi 1,vs n.path,vi n.place,vi n.number,vi 0,vi 0],sl AH (EQ n.path n.place n.rq)] (Xi (vi (((E4 s ⟨1,n.path,n.place,n.number,0,0⟩ (EQ n.path n.place n.rq)).1:Nat):Int):AV) (Yi (fun h2 hh=>Yi ((Aaq (show h2 1000=.cells (srM roots C A s dec 1004 st.length)from hh 1000 Wk) (show h2 1001=.tok 6 s.infs.length from hh 1001 Wk) (show h2 1002=.tok 1 s.drv.length from hh 1002 Wk) (show h2 1003=.map FI (FK 0 s.infs)from hh 1003 Wk) (show h2 1004=.arr 1 (st.map Bb)from hh 1004 Wk)).trans rfl) rfl) (Yi aa1 (Yi (tE roots C A s dec st ⟨1,n.path,n.place,n.number,0,0⟩ (EQ n.path n.place n.rq) hn hdl aD) (Yi aa1 ?_))))))))));have ei:=nZ (s:=s) h1;exact C2 (.refl _) (Yi (show vi (((E4 s ⟨1,n.path,n.place,n.number,0,0⟩ (EQ n.path n.place n.rq)).1:Nat):Int)=vi (((Bx s n).1:Nat):Int) by rw[ei]) (show Ak (Jm roots C A (E4 s ⟨1,n.path,n.place,n.number,0,0⟩ (EQ n.path n.place n.rq)).2 dec st) Ae=Ak (Jm roots C A (Bx s n).2 dec st) Ae by rw[ei]))
theorem s89(hd:s.drv.length<=65536)(ht:∀t∈s.drv,lG t)(hS:BD S):AU Tryz.prog 190 [.ref 1000 0,sl Ab S] (Ak (Jm roots C A s dec st) Ae) fun r h'=>r=mQ s.drv S/\h'=Ak (Jm roots C A s dec st) Ae:=by
 refine BX (Ms CQ) [(1000,1000),(1001,1001),(1002,1002),(1003,1003),(1004,1004)] rfl Ct hm rfl func190 aa1 rfl (Nz rfl) aa1 rfl (Xi {i:Nat // i<=s.drv.length/\∀j u,j<i->s.drv[j]?=some u->CH u S=false} (Xi (fun q=>⟨[(1,sl Ab S),(11,.slice (.id 1002 1) (s.drv.map Df)),(12,vi (s.drv.map Df).length),(13,vi q.1)],[(1000,.cells (srM roots C A s dec 1004 st.length)),(1001,.tok 6 s.infs.length),(1002,.tok 1 s.drv.length),(1003,.map FI (FK 0 s.infs)),(1004,.arr 1 (st.map Bb))],Ae⟩) (Xi (fun q=>s.drv.length-q.1) (Yi (Xi ⟨0,Aj _,fun j u h=>absurd h (DX j)⟩ ?_) ?_))))
 .exact⟨Z4,Z5,Fh,Bu aa1⟩
 intro⟨i,i1,i2⟩;refine Yi (fun h1=>?_) (fun h1=>?_)
 .have h1:(i:Int)<((s.drv.map Df).length:Int):=h1;have n1:=Dh h1;refine Xi (Df s.drv[i]) (Yi (DC n1) (Yi rfl (A1 (Bt (CH s.drv[i] S)) (fun h2=>?_) (fun h2=>?_))))
  .refine C1 (C2 (cb h2 (c91 s.drv[i] S (ht _ (Ai _)) hS)) ?_);have eE:Ph s.drv S=some i:=by unfold Ph;rw[ZY (Ge n1) h2 i2,Fq]
   exact C2 (.refl _) (Yi (show AV.tup [vi (i:Int),vb true]=mQ s.drv S by simp_all) rfl)
  have h2:(CH s.drv[i] S)=false:=h2;refine C1 (C2 (cb h2 (c91 s.drv[i] S (ht _ (Ai _)) hS)) (Yi (by grind [Az]) ?_));refine Xi ⟨i+1,by omega,fun j u hj hu=>by
    grind⟩ ?_
  exact⟨Dl s.drv.length i ch,Z4,Z5,Fh,Bu aa1⟩
 have h1:¬((i:Int)<((s.drv.map Df).length:Int)):=h1;have n1:=BB h1;have eE:Ph s.drv S=none:=ZZ fun t ht=>by
  grind [List.mem_iff_getElem?]
 exact C2 (.refl _) (Yi (show AV.tup [vi 0,vb false]=mQ s.drv S by simp_all) rfl)
end Go.Eng
