/- Lemmas for the claims of this seat, without a condition: part 19 (C22, C23, C24, C25, C26, C27, C28, C29, C30, C31, C32, C33, C34, C35). -/
import Derived.Test.YtkmnnpmneamgoaaGreatDoorA18
import Derived.Shelf.Slices.Delete
namespace Go.Eng
open Go.Proofs
abbrev DQ:ES:=⟨false,[.str]⟩
abbrev MV(t:Tm):Value×AV:=(.string t.path,.agg (AH t))
abbrev s7(fin cut:List Nat):QO:=⟨[],[],[],[],fin,[],[],[],[],[],cut⟩
theorem RW{m:List Tm}{p:ByteArray}{a:AV}:(Value.string p,a)∈m.map MV↔∃t∈m,t.path=p∧a=.agg (AH t):=by
 rw[Ar];constructor
 ·rintro⟨t,h1,h2⟩
  simp only[FZ,Value.string.injEq]at h2;exact⟨t,h1,h2.1,h2.2.symm⟩
 ·rintro⟨t,h1,rfl,rfl⟩
  exact⟨t,h1,rfl⟩
theorem iE(m:List Tm)(t:Tm):Fg (m.map MV) (.string t.path) (.agg (AH t))=(WW m t).map MV:=by
 unfold WW
 by_cases h:(m.any fun u=>decide (u.path=t.path))=true
 ·rw[Ax h];obtain⟨u,h1,h2⟩:=A5.1 h;have h2:=Cq h2
  have:(Value.string t.path,AV.agg (AH u))∈m.map MV:=RW.2 ⟨u,h1,h2,rfl⟩
  rw[Qi this,BY,BY];apply A8;intro q _;simp only[Function.comp]
  by_cases e:q.path=t.path
  ·simp[e]
  ·have:¬Value.string q.path=.string t.path:=fun c=>e (by injection c)
   simp[e]
 ·rw[Aq h]
  have:∀b,(Value.string t.path,b)∉m.map MV:=fun b hb=>by
   obtain⟨u,h1,h2,_⟩:=RW.1 hb;exact h (A5.2 ⟨u,h1,by simp[h2]⟩)
  rw[Qh this,Az];rfl
theorem gj{m:List Tm}(hn:(EI m).Nodup)(p:ByteArray){K:AV→Prop}{Z:Prop}(hy:∀u,Dx m p=some u→K (.agg (AH u)))(LN:Dx m p=none→Z) :
  (∀a,(Value.string p,a)∈m.map MV→K a)∧((∀a,(Value.string p,a)∉m.map MV)→Z) :=
 ⟨fun a h=>by
  obtain⟨t,h1,h2,rfl⟩:=RW.1 h;subst h2;exact hy t ((Ml hn).1 h1),fun h=>LN (by
  cases e:Dx m p with
  |none=>rfl
  |some u=>exact absurd (RW.2 ⟨u,Fr e,Hh e,rfl⟩) (h _))⟩
theorem OK{t:Tm}(h:EQ t.set):CL t.set:=by
 unfold CL
 have:=Ig h;omega
theorem c57(l:List Tm)(hl:CL l)(hs:∀t∈l,CL t.set):PC 227 [sl AH l,.v (Uw 228)] (.cmap DQ ((Dh l).map MV)):=by
 have hl:l.length≤1073741824:=hl;refine Ps (s7 [10] [5,8]) Tryz.func227 rfl (Nz rfl) ?_;refine Xi {i:Nat // i≤l.length} (Xi (fun i=>⟨[(0,sl AH l),(1,.v (Uw 228)),(5,.mref 10),(11,sl AH l),(12,vi (l.map AH).length),(13,vi i.1)],[(10,.map DQ ((Dh (l.take i.1)).map MV))],Aa⟩) (Xi (fun i=>l.length-i.1) (Yi (Xi ⟨0,AL _⟩ ?_) ?_)))
 ·exact⟨Z6,Z1,Fh,Tv⟩
 intro⟨i,h1⟩;have hn:=HR (l.take i);refine Yi ?_ ?_
 ·intro h;have h:(i:Int)<(l.map AH).length:=h;have h:i<l.length:=by simpa using h
  have hg:l[i]?=some l[i]:=Ge h;refine Xi (AH l[i]) (Yi (Yi (Nn i) (by simp[hg])) (Yi rfl ?_));refine Yi (Nz rfl) (Yi (Nz rfl) ?_);have EU:=hs l[i] (Am h);refine Xi ⟨[(0,sl AH l),(1,.v (Uw 228)),(5,.mref 10),(7,.ref 7 0),(11,sl AH l),(12,vi (l.map AH).length),(13,vi i)],[(7,.cells (AH l[i])),(10,.map DQ ((Dh (l.take i)).map MV))],Aa⟩ (Yi ⟨Z7,Z2,Fh,Tv⟩ ?_)
  have tail:∀u:Tm,CL u.set→G4 u l[i]=N9 (Dx (Dh (l.take i)) l[i].path) l[i]→Fg ((Dh (l.take i)).map MV) (.string l[i].path) (.agg (AH (G4 u l[i])))=(Dh (l.take (i+1))).map MV:=fun u hu e=>by
   have hp:(N9 (Dx (Dh (l.take i)) l[i].path) l[i]).path=l[i].path:=Qp _ _ fun u h=>Hh h;have e2:=iE (Dh (l.take i)) (G4 u l[i]);have e3:(G4 u l[i]).path=l[i].path:=by rw[e];exact hp
   rw[e3]at e2;rw[e2,Rh l i h,e];rfl
  refine gj hn l[i].path (fun u hu=>?_) (fun hu=>?_)
  ·have KN:CL u.set:=OK (O8 _ u (Fr hu));refine Yi (Nz rfl) ?_;refine Xi ⟨[(0,sl AH l),(1,.v (Uw 228)),(5,.mref 10),(7,.ref 7 0),(8,.ref 8 0),(11,sl AH l),(12,vi (l.map AH).length),(13,vi i)],[(7,.cells (AH l[i])),(8,.cells (AH u)),(10,.map DQ ((Dh (l.take i)).map MV))],Aa⟩ (Yi ⟨Z8,Z3,Fh,Tv⟩ ?_)
   have AZ:=tail u KN (by rw[bK,hu];rfl);refine Yi (Nz rfl) (Yi (Nz rfl) ?_);refine Xi _ (Yi (ze u l[i] KN EU) ?_);refine Yi (by kernel_rfl) ?_;refine Yi (Ii i (by omega)) ?_;refine Xi ⟨i+1,by omega⟩ ?_;have e1:HO.map DQ (Fg ((Dh (l.take i)).map MV) (.string l[i].path) (.agg (AH (G4 u l[i]))))=.map DQ ((Dh (l.take (i+1))).map MV):=by rw[AZ]
   exact⟨Dl l.length i (by omega),Z6,⟨⟨e1,rfl⟩,Tv⟩,Fh,Tv⟩
  ·refine Yi (Nz rfl) ?_;refine Yi (Nz rfl) (Yi (Nz rfl) ?_);refine Xi ⟨[(0,sl AH l),(1,.v (Uw 228)),(5,.mref 10),(7,.ref 7 0),(8,.ref 8 0),(11,sl AH l),(12,vi (l.map AH).length),(13,vi i)],[(7,.cells (AH l[i])),(8,.cells (AH l[i])),(10,.map DQ ((Dh (l.take i)).map MV))],Aa⟩ (Yi ⟨Z8,Z3,Fh,Tv⟩ ?_)
   have AZ:=tail l[i] EU (by rw[bK,hu];rfl);refine Yi (Nz rfl) (Yi (Nz rfl) ?_);refine Xi _ (Yi (ze l[i] l[i] EU EU) ?_);refine Yi (by kernel_rfl) ?_;refine Yi (Ii i (by omega)) ?_;refine Xi ⟨i+1,by omega⟩ ?_;have e1:HO.map DQ (Fg ((Dh (l.take i)).map MV) (.string l[i].path) (.agg (AH (G4 l[i] l[i]))))=.map DQ ((Dh (l.take (i+1))).map MV):=by rw[AZ]
   exact⟨Dl l.length i (by omega),Z6,⟨⟨e1,rfl⟩,Tv⟩,Fh,Tv⟩
 ·intro h;have h:¬(i:Int)<(l.map AH).length:=h;have h:¬i<l.length:=by simpa using h
  have e:(Dh (l.take i)).map MV=(Dh l).map MV:=by rw[AC (by omega)]
  exact .of_eq (Ac (AV.cmap DQ) e)
end Go.Eng

namespace Go.Eng
open Go.Proofs
abbrev GU(l:List Tm):AV:=.tup [sl AH (Qk l),vb (Da l).isSome]
abbrev xP:QO:=⟨[],[],[(4,3)],[],[],[],[],[],[],[(25,4)],[4,7,10]⟩
abbrev Sv(l:List Tm):HO:=.arr 3 (l.map AH)
abbrev Fy(l:List Tm):List Tm:=l.filter fun t=>!GK t
theorem lU{l:List Tm}{kv:Value×AV}{Oa : List (Value×AV)}(h:(l.map MV).Perm (kv::Oa)):∃t r,kv=MV t∧Oa=r.map MV∧l.Perm (t::r):=by
 obtain⟨ps,h1,h2⟩:=Mz h l rfl;cases ps with
 |nil=>cases h2
 |cons t r =>
  rw[AN,FL]at h2;exact⟨t,r,h2.1.symm,h2.2.symm,h1.symm⟩
theorem Xt{l:List Tm}{t:Tm}(h:t∈Dh l)(hn:HS t=true):Da l=none:=by
 unfold Da;rw[Ax (A5.2 ⟨t,(Jl l t).1 h,hn⟩)]
theorem Zp{l done s:List Tm}(h:done.Perm (Dh l))(hn:∀t∈done,HS t=false)(hp:s.Perm (Fy done))(hs:s.Pairwise fun x y=>EN y.path x.path=false):Da l=some s:=by
 unfold Da;rw[Aq]
 ·congr 1
  exact(PK _ (hp.trans (h.filter _)) hs).symm
 ·intro c;obtain⟨t,h1,h2⟩:=A5.1 c
  have:=hn t (h.mem_iff.2 ((Jl l t).2 h1))
  rw[h2]at this;cases this
theorem dj(l:List Tm):(Fy l).length≤l.length:=Bp _ _
theorem tR(l:List Tm)(hl:CL l)(hs:∀t∈l,CL t.set):PC 192 [sl AH l] (GU l):=by
 have Xb:l.length≤1073741824:=hl;have ub:(Dh l).length≤l.length:=by have:=N2 l l.length (Ao _);rwa [CN]at this
 refine Ps xP Tryz.func192 rfl (Nz rfl) ?_;refine Xi .pure (Xi _ (Yi (c57 l hl hs) ?_));refine Xi {p:List Tm×List Tm×Option (Value×AV) // (p.1++p.2.1).Perm (Dh l)∧∀t∈p.1,HS t=false} (Xi (fun p=>⟨[(4,.msl 4 (Fy p.1.1).length),(9,.ref 9 0)],[(4,Sv (Fy p.1.1)),(9,.iter ((Dh l).map MV) (p.1.2.1.map MV) p.1.2.2)],Aa⟩) (Xi (fun p=>p.1.2.1.length) (Yi (Xi ⟨([],Dh l,none),.refl _,fun t ht=>by cases ht⟩ ?_) ?_)))
 ·exact⟨Z2,Z2,Fh,Tv⟩
 intro⟨⟨done,rem,F9⟩,r1,r2⟩;have r1:(done++rem).Perm (Dh l):=r1;have r2:∀t∈done,HS t=false:=r2;have hdl:done.length+rem.length≤l.length:=by have:=r1.length_eq;rw[Ad]at this;omega
 have m0:=dj done;refine Yi ?_ ?_
 ·intro hr;have hr:rem.map MV=[]:=hr;have hr:rem=[]:=EW.1 hr;subst hr;rw[CV]at r1;refine Xi (.gen [(4,1000)] 0) (Yi rfl ((c61 (Fy done) (by unfold CL;omega)).to ?_));intro s hq;have Um:s.length=(Fy done).length:=hq.1.length_eq;have hc:=Zp r1 r2 hq.1 hq.2;refine Xi ⟨[(4,.msl 4 (Fy done).length)],[(4,Sv s)],Aa⟩ (Yi ⟨Z1,Z1,Fh,Tv⟩ ?_)
  refine Yi (by rw[Lm,Um]) ?_;have e:AV.tup [sl AH s,vb true]=GU l:=by unfold GU Qk;rw[hc];rfl
  exact .of_eq e
 ·intro kv Oa hp;refine Bb (lU hp) (fun t hp=>Bb hp (fun r hp=>?_));have e1:=hp.1;have e2:=hp.2.1;subst e1;subst e2;have hp:=hp.2.2;have qm:t∈Dh l:=r1.mem_iff.1 (Bq _ (hp.mem_iff.2 (Ab ..)));have xz:=O8 l t qm;have htf:=OK xz;refine Xi ⟨[(4,.msl 4 (Fy done).length),(9,.ref 9 0)],[(4,Sv (Fy done)),(9,.iter ((Dh l).map MV) (r.map MV) (some (MV t)))],Aa⟩ (Yi ⟨Z2,Z2,Fh,Tv⟩ ?_)
  refine Yi (Nz rfl) (Yi (Nz rfl) ?_);have hv:PC 229 [.agg (AH t)] (vb (HS t)):=iH xz▸c59 t htf;have ha:PC 230 [.agg (AH t)] (vb (GK t)):=cd xz▸c60 t htf;refine BO (Bt (HS t)) (fun h=>?_) (fun h=>?_)
  ·rw[h]at hv;refine Xi .pure (Xi _ (Yi (hv) ?_));have hc:=Xt qm h;have e:AV.tup [.slice .none [],vb false]=GU l:=by unfold GU Qk;rw[hc];rfl
   have e0:GI (.tup [.v (.slice none 0 0),vb false]) (.tup [.slice .none [],vb false]):=GI.tup ⟨.nil,.refl _,trivial⟩;exact e0.trans (.of_eq e)
  ·rw[h]at hv;refine Xi .pure (Xi _ (Yi (hv) ?_));refine Xi ⟨[(4,.msl 4 (Fy done).length),(6,.ref 6 0),(9,.ref 9 0)],[(4,Sv (Fy done)),(6,.cells (AH t)),(9,.iter ((Dh l).map MV) (r.map MV) (some (MV t)))],Aa⟩ (Yi ⟨Z3,Z3,Fh,Tv⟩ ?_)
   refine Yi (Nz rfl) ?_;have Uj:((done++[t])++r).Perm (Dh l):=by
    rw[BH];exact(List.Perm.append_left _ hp.symm).trans r1
   have zW:∀u∈done++[t],HS u=false:=fun u hu=>by
    rcases A4.1 hu with hu | hu
    ·exact r2 u hu
    ·rw[As.1 hu];exact h
   have hrl:r.length<rem.length:=by rw[hp.length_eq,Aj];omega
   refine BO (Bt (GK t)) (fun h2=>?_) (fun h2=>?_)
   rotate_left
   ·rw[h2]at ha;refine Xi .pure (Xi _ (Yi (ha) ?_));have GL:BW 3 [AH t]∧((Fy done).map AH).length=(Fy done).length∧(((Fy done).map AH).length+[AH t].length)*48≤140737488355328∧((Fy done).map AH).length+[AH t].length≤9223372036854775807 :=
     ⟨⟨rfl,trivial⟩,by rw[Lm],by rw[Lm,AB];omega,by rw[Lm,AB];omega⟩
    refine Yi (Nz rfl) ?_;refine Yi GL ?_;have hk:Fy (done++[t])=Fy done++[t]:=by unfold Fy;rw[D0,DD,Ax (by rw[h2];rfl)];rfl
    have e1:AV.msl 4 (((Fy done).map AH).length+[AH t].length)=.msl 4 (Fy (done++[t])).length:=by rw[hk];simp
    have e2:HO.arr 3 ((Fy done).map AH++[AH t])=Sv (Fy (done++[t])):=by rw[hk];simp
    refine Xi ⟨(done++[t],r,some (MV t)),Uj,zW⟩ ?_;exact⟨hrl,⟨⟨e1,rfl⟩,Zr,Tv⟩,⟨⟨e2,rfl⟩,Zr,Tv⟩,Fh,Tv⟩
   ·rw[h2]at ha;refine Xi .pure (Xi _ (Yi (ha) ?_));have hk:Fy (done++[t])=Fy done:=by unfold Fy;rw[D0,DD,Aq (by rw[h2];decide)];simp
    have e1:AV.msl 4 (Fy done).length=.msl 4 (Fy (done++[t])).length:=by rw[hk]
    have e2:Sv (Fy done)=Sv (Fy (done++[t])):=by rw[hk]
    refine Xi ⟨(done++[t],r,some (MV t)),Uj,zW⟩ ?_;exact⟨hrl,⟨⟨e1,rfl⟩,Zr,Tv⟩,⟨⟨e2,rfl⟩,Zr,Tv⟩,Fh,Tv⟩
end Go.Eng

namespace Go.Eng
open Go.Proofs
theorem n8(l:List Tm)(hl:CL l)(hs:∀t∈l,CL t.set):PC 187 [sl AH l] (sl AH (Qk l)):=by
 refine Ps EP Tryz.func187 rfl (Nz rfl) ?_;refine Xi .pure (Xi _ (Yi (tR l hl hs) ?_));exact .refl _
theorem PR(s:Bc):CL (Eu s):=by
 unfold CL;have:=Ig (Hm s);omega
theorem oh{α:Type}(x:α):CL [x]:=by unfold CL;simp
theorem wd{α:Type}(x y:α):CL [x,y]:=by unfold CL;simp
theorem vo(q:Rq)(hq:CL q.set):PC 133 [.agg (Al q)] (sl AH (JK q)):=by
 have hc:PC 187 [sl AH [DK q]] (sl AH (JK q)):=n8 [DK q] (oh _) fun t ht=>by rw[As.1 ht];exact PR _
 refine Ps EP Tryz.func133 rfl (Nz rfl) ?_;refine Yi (Nz rfl) ?_;refine Xi .pure (Xi _ (Yi (qZ q hq) ?_));refine Xi .pure (Xi _ (Yi (hc) ?_));exact .refl _
theorem vq(p:ByteArray)(pl:Int)(q:Rq)(hp:A9 (pl+1))(hq:CL q.set):PC 134 [vs p,vi pl,.agg (Al q)] (sl AH (Es p pl q)):=by
 have hc:PC 187 [sl AH [⟨p,false,[(pl,pl+1)]⟩,DK q]] (sl AH (Es p pl q)):=n8 [⟨p,false,[(pl,pl+1)]⟩,DK q] (wd _ _) fun t ht=>by
  rcases AF.1 ht with rfl | ht
  ·exact oh _
  ·rw[As.1 ht];exact PR _
 refine Ps EP Tryz.func134 rfl (Nz rfl) ?_;refine Yi hp ?_;refine Yi (Nz rfl) ?_;refine Xi .pure (Xi _ (Yi (qZ q hq) ?_));refine Xi .pure (Xi _ (Yi (hc) ?_));exact .refl _
theorem qV(p:ByteArray)(s:Bc)(hs:CL s):PC 137 [vs p,sl Ae s] (sl AH (HX p s)):=by
 have hc:PC 187 [sl AH [⟨p,false,Eu s⟩]] (sl AH (HX p s)):=n8 [⟨p,false,Eu s⟩] (oh _) fun t ht=>by rw[As.1 ht];exact PR _
 refine Ps EP Tryz.func137 rfl (Nz rfl) ?_;refine Xi .pure (Xi _ (Yi (nP s hs) ?_));refine Xi .pure (Xi _ (Yi (hc) ?_));exact .refl _
end Go.Eng

namespace Go.Eng
open Go.Proofs Go.Shelf Go.RowKit Go.Lib Go.Sort
theorem pi(F:Array Value)(i n:Nat)(hF:F.size=n*3)(hi:i<n)(z:List Value)(hz:z.length=3):(lay (lay F (i*3) (F.toList.drop ((i+1)*3))) ((n-1)*3) z).toList=F.toList.take (i*3)++F.toList.drop ((i+1)*3)++z:=by
 have l1:(F.toList.take (i*3)).length=i*3:=by simp;omega
 have l2:(F.toList.drop ((i+1)*3)).length=(n-(i+1))*3:=by simp;omega
 apply Dr
 intro t
 rw[AO,lay_get? _ _ _ _ (by rw[Lib.lay_size];omega),lay_get? _ _ _ _ (by rw[l2];omega)]
 rw[hz,l2]
 by_cases c1:t<i*3
 ·rw[Aq (by omega),Aq (by omega),A2 (by rw[Ad];omega),A2 (by omega),JR,Ax c1,AO]
 ·by_cases c2:t<(n-1)*3
  ·rw[Aq (by omega),Ax (by omega),A2 (by rw[Ad];omega),AR (by omega),l1]
  ·rw[AR (by rw[Ad];omega),Ad,l1,l2]
   by_cases c3:t<n*3
   ·rw[Ax (by omega)];congr 1;omega
   ·rw[Aq (by omega),Aq (by omega),Un (by omega),A6 (by omega)]
abbrev kf:List Value:=[.string ⟨#[]⟩,.bool false,.slice none 0 0]
set_option maxHeartbeats 4000000 in
set_option maxRecDepth 1000000 in
theorem fU(w:World)(b cap i n:Nat)(F:Array Value)(hF:F.size=n*3)(hi:i<n)(Nb:n≤cap)(hH:Holds id w b 0 F)(h1:∀x∈F.toList,x.oneCell'=true) :
  Calls Tryz.prog 225 #[.slice (some ⟨b,0,none⟩) n cap,.int .i64 i,.int .i64 ((i:Int)+1)] w fun e w'=>e=.returned (.slice (some ⟨b,0,none⟩) (n-1) cap) ∧
   w'=putRow id (Sort.ahead w 1) b 0 (lay (lay F (i*3) (F.toList.drop ((i+1)*3))) ((n-1)*3) kf):=by
 obtain⟨i0,eZ,sF⟩:∃i0,Tryz.prog.info? 208=some i0∧i0.size=3:=by
  obtain⟨i,z,h1,_,h2,_⟩:=HC (P:=Tryz.prog) (T:=kc) CI (e:=208) (n:=2) (by kernel_rfl)
  exact⟨i,h1,h2.trans (by kernel_rfl)⟩
 obtain⟨news,I3⟩:∃news,news=F.toList.drop ((i+1)*3):=⟨_,rfl⟩
 have CW:news.length=(n-(i+1))*3:=by rw[I3];simp;omega
 have EU:∀t,t<(n-(i+1))*3→news[t]?=some F[(i+1)*3+t]!:=by
  intro t ht
  rw[I3,DI,AO,DV F ((i+1)*3+t) (by omega),Bh (by omega)]
 obtain⟨A,hA,c8⟩:∃A:Addr,(if cap=i+1 then some (⟨b,0,none⟩:Addr)else some ⟨b,(i+1)*3,none⟩)=some A∧Hid (∀t u,news[t]?=some u→w.drew.cell? (A.add t)=some u):=by
  by_cases h:cap=i+1
  ·refine⟨⟨b,0,none⟩,by simp[h],fun t u hu=>?_⟩
   have h0:news.length=0:=by rw[CW];omega
   rw[List.length_eq_zero_iff.1 h0]at hu
   simp at hu
  ·refine⟨⟨b,(i+1)*3,none⟩,by simp[h],fun t u hu=>?_⟩
   have ht:t<(n-(i+1))*3:=by
    have:=(Aw.1 hu).1
    rwa [CW]at this
   rw[EU t ht]at hu
   rw[Addr.add_lit]
   have:=(hH ((i+1)*3+t) (by omega)).1
   rw[Be]at this
   exact this.trans hu
 have s1:Hid (news.length=(n-(i+1))*3):=CW
 have s2:Hid (∀u∈news,u.oneCell'=true):=by
  intro u hu
  rw[I3]at hu
  exact h1 u (Iv hu)
 have s3:Hid (∀t,t<news.length→(w.drew.cell? ⟨b,0+i*3+t,none⟩).isSome=true∧w.drew.frozen? ⟨b,0+i*3+t,none⟩=false):=by
  intro t ht
  rw[CW]at ht
  have:=hH (i*3+t) (by omega)
  rw[GJ]
  exact⟨by show(w.cell? _).isSome=true;rw[this.1];rfl,this.2⟩
 obtain⟨W1,wK⟩:∃W1,W1=w.drew.setCells b (0+i*3) news:=⟨_,rfl⟩
 have oD : W1=putRow id (Sort.ahead w 1) b 0 (lay F (i*3) news):=by
  have:=putRow_setCells id (Sort.ahead w 1) b 0 news F (i*3) (by omega)
  rw[putRow_self id (Sort.ahead w 1) b 0 F (holds_ahead id w 1 b 0 F hH),L8]at this
  rw[wK,←this]
  rfl
 have wv:Holds id W1 b 0 (lay F (i*3) news):=by rw[oD];exact holds_putRow id _ b 0 F _ (holds_ahead id w 1 b 0 F hH) (Lib.lay_size _ _ _)
 have GD:(storeCells ⟨b,0+(n-1)*3,none⟩ kf 0).run Tryz.prog W1=.ok () (W1.setCells b (0+(n-1)*3) kf):=by
  have:=run_storeCells_cells (P:=Tryz.prog) b (0+(n-1)*3) kf 0 W1 (fun j hj=>by
   have hj:j<3:=hj
   have:=wv ((n-1)*3+j) (by rw[Lib.lay_size];omega)
   rw[show 0+(n-1)*3+0+j=0+((n-1)*3+j) by omega,this.1];rfl) (fun j hj=>by
   have hj:j<3:=hj
   have:=wv ((n-1)*3+j) (by rw[Lib.lay_size];omega)
   rw[show 0+(n-1)*3+0+j=0+((n-1)*3+j) by omega];exact this.2) (fun v hv=>by
   simp only[AF,LW,or_false]at hv
   rcases hv with rfl | rfl | rfl<;>rfl)
  exact this
 have hcl:∀ty c,(Builtin.clear_ #[149] ty #[.slice (some ⟨b,(n-1)*3,none⟩) 1 c]).run Tryz.prog W1=.ok (.tuple #[]) (W1.setCells b (0+(n-1)*3) kf):=fun ty c=>by
  have hv:=Tryz.zeroValue208
  rw[Be]at GD⊢
  have hz:(Builtin.zeroCells (Value.agg #[Value.string { data:=#[] },Value.bool false,Value.slice none 0 0]).cells 1).toList=kf:=by kernel_rfl
  simp[Builtin.clear_,run_underlying Tryz.underlying149,hv,hz,GD]
 have Abt:∀ty,(Builtin.clear_ #[149] ty #[.slice (some ⟨b,(i+(n-(i+1)))*3,none⟩) (n-(i+(n-(i+1)))) (cap-(i+(n-(i+1))))]).run Tryz.prog W1=.ok (.tuple #[]) (W1.setCells b (0+(n-1)*3) kf):=fun ty=>by
  have e1:i+(n-(i+1))=n-1:=by omega
  have e2:n-(n-1)=1:=by omega
  rw[e1,e2];exact hcl ty _
 have X:Aside (W1=putRow id (Sort.ahead w 1) b 0 (lay F (i*3) news)):=oD
 have hW:Hid (W1=w.drew.setCells b (0+i*3) news):=wK
 have Y:Aside (news=F.toList.drop ((i+1)*3)):=I3
 have Z:Aside (news.length=(n-(i+1))*3):=CW
 have r6:i≤cap:=by omega
 have hjc:i+1≤cap:=by omega
 have mixed:=Go.Eng.hm
 have hb1:(0:Int)≤(i:Int)+1:=by omega
 have UA:(i:Int)+1≤(n:Int):=by omega
 clear wK oD wv hH EU I3 CW GD hcl
 go_enter Tryz.func225,Tryz.ntmps225
 go_wp2_with fail
 go_region_law_o (refine step_append_room rfl (.tmp 22) (.tmp 25) 149 rfl 208 i0 3 Tryz.underlying149 eZ sF b 0 i cap (by simp[Act.eval,Act.put]) A (n-(i+1)) (cap-(i+1)) news (by simp[Act.eval,Act.put]) s1.out c8.out s2.out (by omega) s3.out ?_;rw[←hW.out])
 go_wp2
 go_ret
 refine⟨by rw[show i+(n-(i+1))=n-1 by omega];rfl,?_⟩
 rw[X.out]
 have e1:=Y.out
 have e2:=Z.out
 rw[←e1]
 have:=putRow_setCells id (Sort.ahead w 1) b 0 kf (lay F (i*3) news) ((n-1)*3) (by rw[Lib.lay_size];show _+3≤_;omega)
 rw[L8,Be]at this
 exact this
abbrev UO:List AV:=[Go.Eng.vs ⟨#[]⟩,vb false,.v (.slice none 0 0)]
theorem vK(l:List Tm)(i:Nat)(hi:i<l.length) :
  Bo Tryz.prog 225 [.msl 1000 l.length,vi i,vi ((i:Int)+1)] (Ag [(1000,.arr 3 (l.map AH))] Aa) fun r h'=>r=.msl 2000 (l.length-1)∧h'=Ag [(1000,.dead),(2000,.arr 3 ((l.eraseIdx i).map AH))] Aa:=by
 have hE:Gi Tryz.prog 225:=fY 225 Tryz.func225 (by kernel_rfl) rfl
 have CW:(l.eraseIdx i).length=l.length-1:=List.length_eraseIdx_of_lt hi
 have IE:=bY (P:=Tryz.prog) (f:=225) (es:=l.map AH) (sz:=3) (rest:=[.int .i64 i,.int .i64 ((i:Int)+1)]) (n':=l.length-1) (Q:=fun ET=>ET=(l.eraseIdx i).map AH++[UO]) hE (fun e=>by
  rw[EW]at e;subst e;simp at hi) (by rw[Bs];omega) ?_
 ·rw[Bs]at IE
  refine⟨hE,fun g w vals q1 q2 q3=>(IE.2 g w vals q1 q2 q3).mono fun _ _ ⟨v,r,h',g',e1,⟨e2,ET,p1,p2⟩,rest⟩=>⟨v,r,h',g',e1,⟨e2,by rw[p2,p1,Eg (by rw[Bs,CW];exact Ao _),AC (by rw[Bs,CW];exact Ao _)]⟩,rest⟩⟩
 ·intro g w b cap F hr hF hH hb hc
  rw[Bs]at hF hc⊢
  have hu:∀e∈l.map AH,e.length=3:=fun e he=>by
   obtain⟨t,_,rfl⟩:=Ar.1 he;rfl
  refine(fU w b cap i l.length F hF hi hc hH hr.2.1).mono ?_
  rintro e w' ⟨rfl,rfl⟩
  refine⟨rfl,_,_,1,#[],?_,rfl,?_,fun cs hcs=>?_,fun g w hr=>?_,rfl⟩
  ·rw[Lib.lay_size,Lib.lay_size]
  ·rw[Ad,Bs,CW,AB];omega
  ·rcases A4.1 hcs with h | h
   ·obtain⟨t,_,rfl⟩:=Ar.1 h;rfl
   ·rw[As.1 h];rfl
  ·rw[pi F i l.length hF hi kf rfl,List.eraseIdx_eq_take_drop_succ,Cc,Az,Cc,Rx,List.map_drop,←Jd _ i hu,←OP _ (i+1) hu]
   refine CY.append (CY.append (hr.take _) (hr.drop _)) ?_
   exact Qs g w Fp kf fun x hx=>by
    simp only[AF,LW,or_false]at hx
    rcases hx with rfl | rfl | rfl<;>rfl
end Go.Eng

namespace Go.Eng
open Go.Proofs
theorem ra(l:List Tm)(hl:CL l)(DB:l≠[]):Bo Tryz.prog 226 [sl AH l] (Ag [] Aa) fun r h'=>r=.msl 2000 l.length∧h'=Ag [(2000,.arr 3 (l.map AH))] Aa:=by
 refine CH (MN (pla [(5,3)] [])) [(5,2000)] rfl CI hm rfl Tryz.func226 (by kernel_rfl) rfl (Nz rfl) (by kernel_rfl) rfl ?_;have GL:BW 3 (l.map AH)∧([]:List (List AV)).length=0∧(([]:List (List AV)).length+(l.map AH).length)*48≤140737488355328∧([]:List (List AV)).length+(l.map AH).length≤9223372036854775807:=by
  refine⟨Du (enc:=AH) (n:=3) (fun _=>rfl) l,rfl,?_,?_⟩<;>simp only[Ah,Lm]<;>unfold CL at hl<;>omega
 refine Yi ?_ ?_
 ·intro _;refine Yi GL ?_;have e1:AV.msl 2000 (([]:List (List AV)).length+(l.map AH).length)=.msl 2000 l.length:=by simp
  refine Xi (.msl 2000 (([]:List (List AV)).length+(l.map AH).length)) (Yi (.refl _) (Yi e1 ?_))
  rfl
 ·intro h;have h:l.map AH=[]:=h;exact absurd (EW.1 h) DB
theorem n9(x:Tm)(p:ByteArray):PC 224 [.agg (AH x),.cptr [vs p]] (vb (decide (x.path=p))):=by
 refine Ps EP Tryz.func224 rfl (Nz rfl) ?_;refine Yi ?_ ?_
 ·intro h;have h:x.path=p:=h;rw[Av h];exact .refl _
 ·intro h;have h:¬x.path=p:=h;rw[Au h];exact .refl _
theorem Nu{p:ByteArray}:∀{c:List Tm} {i:Nat},(EI c).Nodup→∀(hi:i<c.length),c[i].path=p→c.eraseIdx i=FX c p
 |t::c,0,hn,_,h=>by
  have h:t.path=p:=h;unfold EI at hn;rw[AN,Db]at hn;unfold FX;rw[DD,Aq (by simp[h])];show c=_;rw[List.filter_eq_self.2 fun u hu=>by
   have:u.path≠p:=fun e=>hn.1 (h▸e▸Ar.2 ⟨u,hu,rfl⟩)
   simp[this]]
 |t::c,i+1,hn,hi,h=>by
  have hi:i<c.length:=by simpa using hi
  have h:c[i].path=p:=h;unfold EI at hn;rw[AN,Db]at hn
  have:t.path≠p:=fun e=>hn.1 (by rw[e,←h];exact Ar.2 ⟨_,Am hi,rfl⟩)
  have ih:=Nu hn.2 hi h;unfold FX at ih⊢;rw[List.eraseIdx_cons_succ,DD,Ax (by simp[this]),ih]
theorem PQ{l c:List Tm}(hl:CL l)(h:Da l=some c):CL c:=by
 have h1:=N2 l l.length (Ao _);rw[CN]at h1;have h2:c=(Fa l).filter fun t=>!GK t:=by
  unfold Da at h;split at h
  ·cases h
  ·exact(Ck h).symm
 have h3:c.length≤(Fa l).length:=by rw[h2];exact Bp _ _
 have h4:(Fa l).length=(Dh l).length:=by
  have:=(List.perm_ext_iff_of_nodup (HW (HR l)) (HW (H2 (Ew l)))).2 (Jl l)
  exact this.length_eq.symm
 unfold CL at hl⊢;omega
abbrev lW:AV:=.tup [.agg UO,.v (.slice none 0 0),vb false]
abbrev nt:QO:=⟨[3],[],[],[],[],[],[],[],[(30,0),(34,1)],[],[3]⟩
theorem fE(l:List Tm)(p:ByteArray)(hl:CL l)(hs:∀t∈l,CL t.set)(hn:FH l p=none):PC 191 [sl AH l,vs p] lW:=by
 have hc:=tR l hl hs;unfold FH at hn;cases e:Da l with
 |none =>
  have e1:GU l=.tup [sl AH [],vb false]:=by unfold GU Qk;rw[e];rfl
  rw[e1]at hc;have hi:=ky (E6.ptr [vs p]) [] (fun x=>decide (x.path=p)) (fun x _=>n9 x p) (by simp);refine Ps nt Tryz.func191 rfl (Nz rfl) ?_;refine Xi .pure (Xi _ (Yi (hc) ?_));refine Xi .pure (Xi _ (Yi (hi) ?_));refine Xi ⟨[(4,.ref 4 0),(7,sl AH []),(8,vb false),(9,vi (-1))],[(4,.cells UO)],Aa⟩ (Yi ⟨Z4,Z1,Fh,Tv⟩ ?_)
  refine Yi (Nz rfl) (Yi (Nz rfl) ?_);exact .refl _
 |some c =>
  rw[e]at hn;have hn:(match Dx c p with | none=>none | some t=>some (t,FX c p))=none:=hn;have r4:Dx c p=none:=by
   cases h:Dx c p with
   |none=>rfl
   |some t=>rw[h]at hn;cases hn
  have e1:GU l=.tup [sl AH c,vb true]:=by unfold GU Qk;rw[e];rfl
  rw[e1]at hc;have rX:=PQ hl e;have hi:=ky (E6.ptr [vs p]) c (fun x=>decide (x.path=p)) (fun x _=>n9 x p) (by unfold CL at rX;omega);have hid:Ki (fun x:Tm=>decide (x.path=p)) c 0=-1:=by
   rcases OZ (p:=fun x:Tm=>decide (x.path=p)) c 0 with ⟨h1,_⟩ | ⟨i,x,_,_,h3⟩
   ·exact h1
   ·unfold Dx at r4;rw[h3]at r4;cases r4
  rw[hid]at hi;refine Ps nt Tryz.func191 rfl (Nz rfl) ?_;refine Xi .pure (Xi _ (Yi (hc) ?_));refine Xi .pure (Xi _ (Yi (hi) ?_));refine Xi ⟨[(4,.ref 4 0),(7,sl AH c),(8,vb true),(9,vi (-1))],[(4,.cells UO)],Aa⟩ (Yi ⟨Z4,Z1,Fh,Tv⟩ ?_)
  refine Yi ?_ ?_
  ·intro _;refine Yi (Nz rfl) (Yi (Nz rfl) ?_);exact .refl _
  ·intro h;exact absurd (show(-1:Int)<0 by decide) h
abbrev pt:QO:=⟨[3],[],[],[],[],[],[],[],[(30,0),(34,2)],[],[]⟩
theorem fG(l:List Tm)(p:ByteArray)(hl:CL l)(hs:∀t∈l,CL t.set){t:Tm}{r:List Tm}(hn:FH l p=some (t,r)) :
  Bo Tryz.prog 191 [sl AH l,vs p] (Ag [] Aa) fun v h'=>v=.tup [.agg (AH t),.msl 2000 r.length,vb true]∧h'=Ag [(2000,.arr 3 (r.map AH))] Aa:=by
 have hc:=tR l hl hs;unfold FH at hn;cases e:Da l with
 |none=>rw[e]at hn;cases hn
 |some c =>
  rw[e]at hn;have hn:(match Dx c p with | none=>none | some t=>some (t,FX c p))=some (t,r):=hn;have gO:Dx c p=some t∧FX c p=r:=by
   cases h:Dx c p with
   |none=>rw[h]at hn;cases hn
   |some t=>rw[h]at hn;cases hn;exact Zr
  have e1:GU l=.tup [sl AH c,vb true]:=by unfold GU Qk;rw[e];rfl
  rw[e1]at hc;have rX:=PQ hl e;have hi:=ky (E6.ptr [vs p]) c (fun x=>decide (x.path=p)) (fun x _=>n9 x p) (by unfold CL at rX;omega);rcases OZ (p:=fun x:Tm=>decide (x.path=p)) c 0 with ⟨_,h2⟩ | ⟨i,x,h1,h2,h3⟩
  ·unfold Dx at gO;rw[h2]at gO;cases gO.1
  have hx:x=t:=by
   have:=gO.1
   unfold Dx at this;rw[h3]at this;exact Ck this
  subst hx;rw[h1,Kv]at hi;obtain⟨r6,hie⟩:=Aw.1 h2;have zI:c.eraseIdx i=r:=by
   rw[←gO.2];exact Nu (H2 (E1 e)) r6 (by rw[hie];exact Hh gO.1)
  have m5:c.length-1=r.length:=by rw[←zI,List.length_eraseIdx_of_lt r6]
  have DB:c≠[]:=fun h=>by subst h;simp at r6
  have Abz:c.length≤1073741824:=rX;refine CH (MN pt) [(13400,2000)] rfl CI hm rfl Tryz.func191 (by kernel_rfl) rfl (Nz rfl) (by kernel_rfl) rfl ?_;refine Xi .pure (Xi _ (Yi (hc) ?_));refine Xi .pure (Xi _ (Yi (hi) ?_));refine Yi ?_ ?_
  ·intro h;have h:(i:Int)<0:=h;omega
  intro _;have hg:(c.map AH)[((i:Nat):Int).toNat]?=some (AH x):=by rw[AX,AJ,h2];rfl
  refine Xi (AH x) (Yi (Yi (Nn i) hg) (Yi rfl (Yi (Nz rfl) ?_)));refine Xi c.length (Xi 3 (Xi (c.map AH) (Yi rfl (Yi (ra c rX DB) ?_))));refine Yi (Ii i (by omega)) ?_;refine Xi (c.length-1) (Xi ((c.eraseIdx i).map AH) (Yi rfl (Yi (vK c i r6) ?_)));refine Yi (Nz rfl) ?_;refine Yi (by kernel_rfl) ?_;refine Yi (Nz rfl) ?_;have e2:AV.tup [.agg (AH x),.msl 2000 (c.length-1),vb true]=.tup [.agg (AH x),.msl 2000 r.length,vb true]:=by rw[m5]
  have e3:Ag [(2000,HO.arr 3 ((c.eraseIdx i).map AH))] Aa=Ag [(2000,.arr 3 (r.map AH))] Aa:=by rw[zI]
  exact Xi _ (Yi (.refl _) (Yi e2 e3))
end Go.Eng

namespace Go.Eng
open Go.Proofs
abbrev bI:QO:=⟨[],[],[],[],[],[],[],[],[],[(24,9),(30,12)],[2,3,5,6]⟩
abbrev pE(a b:List Tm)(p:ByteArray):AV:=.tup [sl AH (BA a b p).1,vi (BA a b p).2]
theorem VQ{l r:List Tm}{p:ByteArray}{t:Tm}(h:FH l p=some (t,r)):∃c,Da l=some c∧t∈c∧r=FX c p:=by
 unfold FH at h;cases e:Da l with
 |none=>rw[e]at h;cases h
 |some c =>
  rw[e]at h;have h:(match Dx c p with | none=>none | some t=>some (t,FX c p))=some (t,r):=h;cases e2:Dx c p with
  |none=>rw[e2]at h;cases h
  |some u=>rw[e2]at h;cases h;exact⟨c,rfl,Fr e2,rfl⟩
theorem VR{l r:List Tm}{p:ByteArray}{t:Tm}(hl:CL l)(h:FH l p=some (t,r)):CL t.set∧CL r∧∀u∈r,CL u.set:=by
 obtain⟨c,h1,h2,rfl⟩:=VQ h;have hs:=E1 h1;refine⟨OK (hs.canon t h2),?_,fun u hu=>OK (hs.canon u (BM.1 hu).1)⟩
 have:=PQ hl h1
 have h3:(FX c p).length≤c.length:=Bp _ _;unfold CL at *;omega
theorem fJ{l c:List Tm}(h:Da l=some c):c.length≤l.length:=by
 have h1:=N2 l l.length (Ao _);rw[CN]at h1;have h2:c=(Fa l).filter fun t=>!GK t:=by
  unfold Da at h;split at h
  ·cases h
  ·exact(Ck h).symm
 have h3:c.length≤(Fa l).length:=by rw[h2];exact Bp _ _
 have h4:(Fa l).length=(Dh l).length:=by
  have:=(List.perm_ext_iff_of_nodup (HW (HR l)) (HW (H2 (Ew l)))).2 (Jl l)
  exact this.length_eq.symm
 omega
theorem VS{l r:List Tm}{p:ByteArray}{t:Tm}(h:FH l p=some (t,r)):r.length≤l.length:=by
 obtain⟨c,h1,h2,rfl⟩:=VQ h;have h3:(FX c p).length≤c.length:=Bp _ _
 have:=fJ h1
 omega
theorem cG(a b:Bc):CL (Pr a b):=by
 unfold CL;have:=Ig (YY a b);omega
theorem vt(a b:List Tm)(p:ByteArray)(ha:a.length≤500000000)(hb:b.length≤500000000)(z7:∀t∈a,CL t.set)(lw:∀t∈b,CL t.set):PC 138 [sl AH a,sl AH b,vs p] (pE a b p):=by
 have rW:CL a:=by unfold CL;omega
 have oK:CL b:=by unfold CL;omega
 have er:∀{l:List Tm} {e:Int},BA a b p=(l,e)→pE a b p=.tup [sl AH l,vi e]:=fun h=>by unfold pE;rw[h]
 have e0:GI (.tup [.v (.slice none 0 0),vi 1]) (.tup [.slice .none [],vi 1]):=GI.tup ⟨.nil,.refl _,trivial⟩;cases h1:FH a p with
 |none =>
  have hr:BA a b p=([],1):=by unfold BA;rw[h1]
  have c1:=fE a p rW z7 h1;cases h2:FH b p with
  |none =>
   have c2:=fE b p oK lw h2;refine Ps bI Tryz.func138 rfl (Nz rfl) ?_;refine Xi .pure (Xi _ (Yi (c1) ?_));refine Yi (Nz rfl) ?_;refine Xi ⟨[(1,sl AH b),(2,vs p),(8,.ref 8 0),(9,.v (.slice none 0 0)),(10,vb false)],[(8,.cells UO)],Aa⟩ (Yi ⟨Z5,Z1,Fh,Tv⟩ ?_)
   refine Xi .pure (Xi _ (Yi (c2) ?_));refine Yi (Nz rfl) ?_;refine Xi ⟨[(8,.ref 8 0),(9,.v (.slice none 0 0)),(10,vb false),(11,.ref 11 0),(12,.v (.slice none 0 0)),(13,vb false)],[(8,.cells UO),(11,.cells UO)],Aa⟩ (Yi ⟨Z6,Z2,Fh,Tv⟩ ?_)
   exact e0.trans (.of_eq (er hr).symm)
  |some q2 =>
   obtain⟨t2,r2⟩:=q2;have c2:=fG b p oK lw h2;refine Ps bI Tryz.func138 rfl (Nz rfl) ?_;refine Xi .pure (Xi _ (Yi (c1) ?_));refine Yi (Nz rfl) ?_;refine Xi ⟨[(1,sl AH b),(2,vs p),(8,.ref 8 0),(9,.v (.slice none 0 0)),(10,vb false)],[(8,.cells UO)],Aa⟩ (Yi ⟨Z5,Z1,Fh,Tv⟩ ?_)
   have z2:r2.length=(r2.map AH).length:=by rw[Lm]
   refine Xi (.gen [] 1) (Yi rfl (c2.imp ?_));intro v2 g2 q2;have xX:=q2.1;have qt:=q2.2;subst xX;subst qt;refine Yi (Nz rfl) ?_;refine Xi ⟨[(8,.ref 8 0),(9,.v (.slice none 0 0)),(10,vb false),(11,.ref 11 0),(12,.msl 12600 r2.length),(13,vb true)],[(8,.cells UO),(11,.cells (AH t2)),(12600,.arr 3 (r2.map AH))],Aa⟩ (Yi ⟨Z6,Z3,Fh,Tv⟩ ?_)
   refine Yi z2 ?_;exact e0.trans (.of_eq (er hr).symm)
 |some q1 =>
  obtain⟨t1,r1⟩:=q1;have c1:=fG a p rW z7 h1;obtain⟨f1,f2,f3⟩:=VR rW h1;cases h2:FH b p with
  |none =>
   have hr:BA a b p=([],1):=by unfold BA;rw[h1,h2]
   have c2:=fE b p oK lw h2;refine Ps bI Tryz.func138 rfl (Nz rfl) ?_;refine Xi (.gen [] 1) (Yi rfl (c1.imp ?_));intro v1 g1 q1;have xQ:=q1.1;have mj:=q1.2;subst xQ;subst mj;refine Yi (Nz rfl) ?_;refine Xi ⟨[(1,sl AH b),(2,vs p),(8,.ref 8 0),(9,.msl 11900 r1.length),(10,vb true)],[(8,.cells (AH t1)),(11900,.arr 3 (r1.map AH))],Aa⟩ (Yi ⟨Z5,Z2,Fh,Tv⟩ ?_)
   have z1:r1.length=(r1.map AH).length:=by rw[Lm]
   refine Yi z1 ?_;refine Xi .pure (Xi _ (Yi (c2) ?_));refine Yi (Nz rfl) ?_;refine Xi ⟨[(8,.ref 8 0),(9,.slice (.id 11900 3) (r1.map AH)),(10,vb true),(11,.ref 11 0),(12,.v (.slice none 0 0)),(13,vb false)],[(8,.cells (AH t1)),(11,.cells UO),(11900,.tok 3 (r1.map AH).length)],Aa⟩ (Yi ⟨Z6,Z3,Fh,Tv⟩ ?_)
   exact e0.trans (.of_eq (er hr).symm)
  |some q2 =>
   obtain⟨t2,r2⟩:=q2;have c2:=fG b p oK lw h2;obtain⟨g1,g2,g3⟩:=VR oK h2;refine Ps bI Tryz.func138 rfl (Nz rfl) ?_;refine Xi (.gen [] 1) (Yi rfl (c1.imp ?_));intro v1 g1 q1;have xQ:=q1.1;have mj:=q1.2;subst xQ;subst mj;refine Yi (Nz rfl) ?_;refine Xi ⟨[(1,sl AH b),(2,vs p),(8,.ref 8 0),(9,.msl 11900 r1.length),(10,vb true)],[(8,.cells (AH t1)),(11900,.arr 3 (r1.map AH))],Aa⟩ (Yi ⟨Z5,Z2,Fh,Tv⟩ ?_)
   have z1:r1.length=(r1.map AH).length:=by rw[Lm]
   have z2:r2.length=(r2.map AH).length:=by rw[Lm]
   refine Yi z1 ?_;refine Xi (.gen [] 1) (Yi rfl (c2.imp ?_));intro v2 g2 q2;have xX:=q2.1;have qt:=q2.2;subst xX;subst qt;refine Yi (Nz rfl) ?_;refine Xi ⟨[(8,.ref 8 0),(9,.slice (.id 11900 3) (r1.map AH)),(10,vb true),(11,.ref 11 0),(12,.msl 12600 r2.length),(13,vb true)],[(8,.cells (AH t1)),(11,.cells (AH t2)),(11900,.tok 3 (r1.map AH).length),(12600,.arr 3 (r2.map AH))],Aa⟩ (Yi ⟨Z6,Z4,Fh,Tv⟩ ?_)
   refine Yi z2 ?_;refine Xi ⟨[(8,.ref 8 0),(9,.slice (.id 11900 3) (r1.map AH)),(11,.ref 11 0),(12,.slice (.id 12600 3) (r2.map AH))],[(8,.cells (AH t1)),(11,.cells (AH t2)),(11900,.tok 3 (r1.map AH).length),(12600,.tok 3 (r2.map AH).length)],Aa⟩ (Yi ⟨Z4,Z4,Fh,Tv⟩ ?_)
   have l1:=VS h1;have l2:=VS h2;have b1:BW 3 (r2.map AH)∧(r1.map AH).length=(r1.map AH).length∧((r1.map AH).length+(r2.map AH).length)*48≤140737488355328∧(r1.map AH).length+(r2.map AH).length≤9223372036854775807 :=
    ⟨Du (enc:=AH) (n:=3) (fun _=>rfl) r2,rfl,by rw[Lm,Lm];omega,by rw[Lm,Lm];omega⟩
   refine Yi b1 ?_;refine Yi (Nz rfl) (Yi (Nz rfl) ?_);refine Xi _ (Yi (vC t1 t2 f1 g1) ?_);have b2:BW 3 [AH (Dv t1 t2)]∧(r1.map AH++r2.map AH).length=(r1.map AH).length+(r2.map AH).length∧((r1.map AH++r2.map AH).length+[AH (Dv t1 t2)].length)*48≤140737488355328∧(r1.map AH++r2.map AH).length+[AH (Dv t1 t2)].length≤9223372036854775807 :=
    ⟨⟨rfl,trivial⟩,by rw[Ad],by rw[Ad,Lm,Lm,AB];omega,by rw[Ad,Lm,Lm,AB];omega⟩
   refine Yi b2 ?_;have ld:=tR (r1++r2++[Dv t1 t2]) (by unfold CL;simp only[Ad,AB];omega) (fun u hu=>by
    rcases A4.1 hu with hu | hu
    ·rcases A4.1 hu with hu | hu
     ·exact f3 u hu
     ·exact g3 u hu
    ·rw[As.1 hu];exact cG _ _)
   have e1:sl AH (r1++r2++[Dv t1 t2])=.slice .none (r1.map AH++r2.map AH++[AH (Dv t1 t2)]):=by simp
   have zC:PC 192 [.slice .none (r1.map AH++r2.map AH++[AH (Dv t1 t2)])] (GU (r1++r2++[Dv t1 t2])):=e1▸ld;cases p9:Da (r1++r2++[Dv t1 t2])with
   |none =>
    have hr:BA a b p=([],8):=by unfold BA;rw[h1,h2];dsimp only;rw[p9]
    have ec:GU (r1++r2++[Dv t1 t2])=.tup [sl AH [],vb false]:=by unfold GU Qk;rw[p9];rfl
    have hc:PC 192 [.slice .none (r1.map AH++r2.map AH++[AH (Dv t1 t2)])] (.tup [sl AH [],vb false]):=ec▸zC;have e8:GI (.tup [.v (.slice none 0 0),vi 8]) (.tup [.slice .none [],vi 8]):=GI.tup ⟨.nil,.refl _,trivial⟩;refine Xi _ (Yi (hc) ?_);refine Yi (by kernel_rfl) ?_;refine Xi ⟨[(14,sl AH []),(15,vb false)],[],Aa⟩ (Yi ⟨Z2,Tv,Fh,Tv⟩ ?_)
    exact e8.trans (.of_eq (er hr).symm)
   |some o =>
    have hr:BA a b p=(o,0):=by unfold BA;rw[h1,h2];dsimp only;rw[p9]
    have ec:GU (r1++r2++[Dv t1 t2])=.tup [sl AH o,vb true]:=by unfold GU Qk;rw[p9];rfl
    have hc:PC 192 [.slice .none (r1.map AH++r2.map AH++[AH (Dv t1 t2)])] (.tup [sl AH o,vb true]):=ec▸zC;refine Xi _ (Yi (hc) ?_);refine Yi (by kernel_rfl) ?_;refine Xi ⟨[(14,sl AH o),(15,vb true)],[],Aa⟩ (Yi ⟨Z2,Tv,Fh,Tv⟩ ?_)
    exact .of_eq (er hr).symm
end Go.Eng

namespace Go.Eng
open Go.Proofs
def aX(h s:Nat→HO):Nat→Bool
 |0=>true
 |n+1=>(match h (1000+n)with |.free=>true |_=>(match s (1000+n)with |.free=>false |_=>true))&&aX h s n
theorem SQ{h s:Nat→HO}:∀{n:Nat},aX h s n=true→∀j,j<n→h (1000+j)≠.free→s (1000+j)≠.free
 |n+1,hd,j,hj,hn=>by
  simp only[aX,Af]at hd;rcases BZ j n with h1 | h1
  ·exact SQ hd.2 j h1 hn
  ·have:j=n:=by omega
   subst this
   have:=hd.1
   intro e;split at this
   ·rename_i q;exact hn q
   ·rw[e]at this;cases this
theorem At{h s:Nat→HO}(hd:aX h s 1000=true):∀j,1000≤j→j<2000→h j≠.free→s j≠.free:=fun j h1 h2=>by
 have:=SQ hd (j-1000) (by omega)
 rw[show 1000+(j-1000)=j by omega]at this;exact this
abbrev y7:List AV:=[vs ⟨#[]⟩,vi 0,vi 0,vi 0,.v (.slice none 0 0),vs ⟨#[]⟩,vs ⟨#[]⟩,vs ⟨#[]⟩,vb false]
abbrev YL:Option Rl→AV
 |some r=>.tup [.agg (AY r),vb true]
 |none=>.tup [.agg y7,vb false]
theorem ga{α:Type}{p:α→Bool}{l:List α}{i:Nat}(hi:i<l.length)(hb:∀j (hj:j<l.length),j<i→p l[j]=false)(h:p l[i]=true):l.find? p=some l[i]:=by
 rw[List.find?_eq_some_iff_getElem];exact⟨h,i,hi,rfl,fun j hj=>by rw[hb j (by omega) hj];rfl⟩
theorem cJ{α:Type}{p:α→Bool}{l:List α}(hb:∀j (hj:j<l.length),p l[j]=false):l.find? p=none:=by
 rw[Ev];intro x hx;obtain⟨j,hj,rfl⟩:=B1 hx;rw[hb j hj];decide
end Go.Eng

namespace Go.Eng
open Go.Proofs
end Go.Eng

namespace Go.Eng
open Go.Proofs
theorem mf(v:Ver):0≤plc v∧plc v<1000000:=by
 unfold plc;cases h:CJ v with
 |true=>exact JH h
 |false=>simp
end Go.Eng

namespace Go.Eng
open Go.Proofs
abbrev nA(t:List Tm):Prop:=t.length≤500000000∧∀u∈t,CL u.set
end Go.Eng

namespace Go.Eng
open Go.Proofs
end Go.Eng

namespace Go.Eng
open Go.Proofs
theorem qU(s:ByteArray):PC 214 [vs s] (vb false):=by
 refine Ps EP Tryz.func214 rfl (Nz rfl) ?_;refine Yi ?_ ?_
 ·intro h;exact absurd rfl (show s≠s from h)
 ·intro _;exact .refl _
theorem qY(z:Int):PC 249 [vi z] (vb false):=by
 refine Ps EP Tryz.func249 rfl (Nz rfl) ?_;refine Yi ?_ ?_
 ·intro h;exact absurd rfl (show z≠z from h)
 ·intro _;exact .refl _
theorem u5(a b:ByteArray):PC 165 [vs a,vs b] (vi (LY a b)):=by
 refine Ps EP Tryz.func165 rfl (Nz rfl) ?_;refine Xi .pure (Xi _ (Yi (qU a) ?_));refine Xi .pure (Xi _ (Yi (qU b) ?_));refine Yi ?_ ?_
 ·intro h;have h:Op.bytesLess a.toList b.toList=true:=h;exact .of_eq (Ac vi (show(-1:Int)=LY a b by unfold LY;rw[Ax (by rw[Fm];exact h)]))
 ·intro h;have h:¬Op.bytesLess a.toList b.toList=true:=h;refine Yi ?_ ?_
  ·intro h2;have h2:Op.bytesLess b.toList a.toList=true:=h2;exact .of_eq (Ac vi (show(1:Int)=LY a b by unfold LY;rw[Aq (by rw[Fm];exact h),Ax (by rw[Fm];exact h2)]))
  ·intro h2;have h2:¬Op.bytesLess b.toList a.toList=true:=h2;exact .of_eq (Ac vi (show(0:Int)=LY a b by unfold LY;rw[Aq (by rw[Fm];exact h),Aq (by rw[Fm];exact h2)]))
theorem nW(a b:Int):PC 215 [vi a,vi b] (vi (FD a b)):=by
 refine Ps EP Tryz.func215 rfl (Nz rfl) ?_;refine Xi .pure (Xi _ (Yi (qY a) ?_));refine Xi .pure (Xi _ (Yi (qY b) ?_));refine Yi ?_ ?_
 ·intro h;have h:a<b:=h;exact .of_eq (Ac vi (show(-1:Int)=FD a b by unfold FD;rw[Ax h]))
 ·intro h;have h:¬a<b:=h;refine Yi ?_ ?_
  ·intro h2;have h2:b<a:=h2;exact .of_eq (Ac vi (show(1:Int)=FD a b by unfold FD;rw[Aq h,Ax h2]))
  ·intro h2;have h2:¬b<a:=h2;exact .of_eq (Ac vi (show(0:Int)=FD a b by unfold FD;rw[Aq h,Aq h2]))
theorem uZ(a b:Int):PC 164 [.slice .none [[vi a],[vi b]]] (vi (if a≠0 then a else b)):=by
 refine Ps EP Tryz.func164 rfl (Nz rfl) ?_;refine Xi {i:Nat // i≤2∧(0<i→a=0)∧(1<i→b=0)} (Xi (fun i=>⟨[(3,vi 0),(6,.slice .none [[vi a],[vi b]]),(7,vi 2),(8,vi i.1)],[],Aa⟩) (Xi (fun i=>2-i.1) (Yi (Xi ⟨0,by omega,by omega,by omega⟩ ?_) ?_)))
 ·exact⟨Z4,Tv,Fh,Tv⟩
 intro⟨i,h1,h2,h3⟩;refine Yi ?_ ?_
 ·intro h;have h:(i:Int)<2:=h
  match i,h1,h2,h3,h with
  |0,h1,h2,h3,h =>
   refine Xi [vi a] (Yi (Yi (BF _) rfl) (Yi rfl ?_));refine Yi ?_ ?_
   ·intro h4;have h4:a≠0:=h4;exact .of_eq (Ac vi (Ax h4).symm)
   ·intro h4;have h4:¬a≠0:=h4;refine Yi (Ii 0 (by omega)) ?_;refine Xi ⟨1,by omega,fun _=>by omega,fun q=>absurd q (by decide)⟩ ?_;exact⟨by show 2-1<2-0;decide,Z4,Tv,Fh,Tv⟩
  |1,h1,h2,h3,h =>
   have ha:=h2 (by decide);refine Xi [vi b] (Yi (Yi (by show(0:Int)≤1;decide) rfl) (Yi rfl ?_));refine Yi ?_ ?_
   ·intro h4;exact .of_eq (Ac vi (Aq (by omega)).symm)
   ·intro h4;have h4:¬b≠0:=h4;refine Yi (Ii 1 (by omega)) ?_;refine Xi ⟨2,by omega,fun _=>ha,fun q=>by omega⟩ ?_;exact⟨by show 2-2<2-1;decide,Z4,Tv,Fh,Tv⟩
  |i+2,h1,h2,h3,h=>omega
 ·intro h;have h:¬(i:Int)<2:=h;have ha:=h2 (by omega);have hb:=h3 (by omega);exact .of_eq (Ac vi (show(0:Int)=if a≠0 then a else b by rw[Aq (by omega),hb]))
theorem SI(a b:Ver)(i:Nat)(hi:i<3)(h:∀j,j<i→FD (part a j) (part b j)=0)(hn:FD (part a i) (part b i)≠0):I8 a b=FD (part a i) (part b i):=by
 unfold I8
 match i,hi,h,hn with
 |0,_,_,hn=>exact Ax hn
 |1,_,h,hn =>
  have h0:FD a.a b.a=0:=h 0 (by decide);rw[Aq (by omega)];exact Ax hn
 |2,_,h,hn =>
  have h0:FD a.a b.a=0:=h 0 (by decide);have h1:FD a.b b.b=0:=h 1 (by decide);rw[Aq (by omega),Aq (by omega)];rfl
theorem fR(a b:Ver)(h:∀j,j<3→FD (part a j) (part b j)=0):I8 a b=0:=by
 unfold I8;have h0:FD a.a b.a=0:=h 0 (by decide);have h1:FD a.b b.b=0:=h 1 (by decide);have h2:FD a.c b.c=0:=h 2 (by decide);rw[Aq (by omega),Aq (by omega),h2]
theorem u6(a b:Ver):PC 166 [.agg (Gl a),.agg (Gl b)] (vi (I8 a b)):=by
 refine Ps EP Tryz.func166 rfl (Nz rfl) ?_;refine Yi (Nz rfl) ?_;refine Xi _ (Yi (nT a) ?_);refine Yi (Nz rfl) ?_;refine Xi _ (Yi (nT b) ?_);refine Yi (Nz rfl) (Yi (Nz rfl) ?_);refine Yi (by kernel_rfl) ?_;refine Xi {i:Nat // i≤3∧∀j,j<i→FD (part a j) (part b j)=0} (Xi (fun i=>⟨[(5,.ref 5 0),(6,.ref 6 0),(13,vi i.1)],[(5,.cells (Gl a)),(6,.cells (Gl b))],Aa⟩) (Xi (fun i=>3-i.1) (Yi (Xi ⟨0,by omega,fun j h=>by omega⟩ ?_) ?_)))
 ·exact⟨Z3,Z2,Fh,Tv⟩
 intro⟨i,h1,h2⟩;refine Yi ?_ ?_
 ·intro h;have h:(i:Int)<3:=h;have next:FD (part a i) (part b i)=0→∀j,j<i+1→FD (part a j) (part b j)=0:=fun hz j hj=>by
   rcases BZ j i with q | q
   ·exact h2 j q
   ·have:j=i:=by omega
    subst this;exact hz
  match i,h1,h2,h,next with
  |0,h1,h2,h,next =>
   refine Yi ⟨by show(0:Int)≤0;decide,by show(0:Int)<3;decide⟩ ?_;refine Yi ⟨by show(0:Int)≤0;decide,by show(0:Int)<3;decide⟩ ?_;refine Xi _ (Yi (nW (part a 0) (part b 0)) ?_);refine Yi (by kernel_rfl) ?_;refine Yi ?_ ?_
   ·intro h4;have h4:FD (part a 0) (part b 0)≠0:=h4;exact .of_eq (Ac vi (SI a b 0 (by decide) h2 h4).symm)
   ·intro h4;have h4:¬FD (part a 0) (part b 0)≠0:=h4;refine Yi (Ii 0 (by omega)) ?_;refine Xi ⟨1,by omega,next (Gy h4)⟩ ?_
    exact⟨by show 3-1<3-0;decide,Z3,Z2,Fh,Tv⟩
  |1,h1,h2,h,next =>
   refine Yi ⟨by show(0:Int)≤1;decide,by show(1:Int)<3;decide⟩ ?_;refine Yi ⟨by show(0:Int)≤1;decide,by show(1:Int)<3;decide⟩ ?_;refine Xi _ (Yi (nW (part a 1) (part b 1)) ?_);refine Yi (by kernel_rfl) ?_;refine Yi ?_ ?_
   ·intro h4;have h4:FD (part a 1) (part b 1)≠0:=h4;exact .of_eq (Ac vi (SI a b 1 (by decide) h2 h4).symm)
   ·intro h4;have h4:¬FD (part a 1) (part b 1)≠0:=h4;refine Yi (Ii 1 (by omega)) ?_;refine Xi ⟨2,by omega,next (Gy h4)⟩ ?_
    exact⟨by show 3-2<3-1;decide,Z3,Z2,Fh,Tv⟩
  |2,h1,h2,h,next =>
   refine Yi ⟨by show(0:Int)≤2;decide,by show(2:Int)<3;decide⟩ ?_;refine Yi ⟨by show(0:Int)≤2;decide,by show(2:Int)<3;decide⟩ ?_;refine Xi _ (Yi (nW (part a 2) (part b 2)) ?_);refine Yi (by kernel_rfl) ?_;refine Yi ?_ ?_
   ·intro h4;have h4:FD (part a 2) (part b 2)≠0:=h4;exact .of_eq (Ac vi (SI a b 2 (by decide) h2 h4).symm)
   ·intro h4;have h4:¬FD (part a 2) (part b 2)≠0:=h4;refine Yi (Ii 2 (by omega)) ?_;refine Xi ⟨3,by omega,next (Gy h4)⟩ ?_
    exact⟨by show 3-3<3-2;decide,Z3,Z2,Fh,Tv⟩
  |i+3,h1,h2,h,next=>omega
 ·intro h;have h:¬(i:Int)<3:=h;exact .of_eq (Ac vi (fR a b fun j hj=>h2 j (by omega)).symm)
end Go.Eng

namespace Go.Eng
open Go.Proofs
theorem uN(a b:Rl):PC 114 [.agg (AY a),.agg (AY b)] (vi (IA a b)):=by
 refine Ps EP Tryz.func114 rfl (Nz rfl) ?_;refine Xi _ (Yi (u5 a.path b.path) ?_);refine Yi (Nz rfl) (Yi (Nz rfl) ?_);refine Xi _ (Yi (u6 a.ver b.ver) ?_);refine Xi _ (Yi (uZ (LY a.path b.path) (I8 a.ver b.ver)) ?_);refine Yi (by kernel_rfl) ?_;exact .refl _
abbrev F3(s:ByteArray):Prop:=s.size≤1073741824
abbrev H4(q:Rq):Prop:=CL q.set∧F3 q.path
abbrev Gj(r:Rl):Prop:=F3 r.path∧∀q∈r.reqs,H4 q
abbrev TG(nm:ByteArray→ByteArray)(p:ByteArray):AV:=match By p with
 |some m=>.tup [vs (nm p),vi m,vi 0]
 |none=>.tup [vs ⟨#[]⟩,vi 0,vi 4]
abbrev Up(nm:ByteArray→ByteArray):Prop:=∀p:ByteArray,F3 p→PC 163 [vs p] (TG nm p)
theorem Up.none{nm:ByteArray→ByteArray}(h:Up nm){p:ByteArray}(hp:F3 p)(e:By p=.none):PC 163 [vs p] (.tup [vs ⟨#[]⟩,vi 0,vi 4]):=by
 have:=h p hp;unfold TG at this;rw[e]at this;exact this
theorem Up.some{nm:ByteArray→ByteArray}(h:Up nm){p:ByteArray}{m:Int}(hp:F3 p)(e:By p=.some m):PC 163 [vs p] (.tup [vs (nm p),vi m,vi 0]):=by
 have:=h p hp;unfold TG at this;rw[e]at this;exact this
theorem qO{nm:ByteArray→ByteArray}(hL:Up nm)(q:Rq)(hq:CL q.set)(hp:F3 q.path):PC 115 [.agg (Al q),.v (.pointer none)] (vi (F6 none q)):=by
 cases Uj:By q.path with
 |none =>
  have e:(4:Int)=F6 none q:=by unfold F6;rw[Uj];rfl
  have hl:=hL.none hp Uj;refine Ps EP Tryz.func115 rfl (Nz rfl) ?_;refine Xi .pure (Xi _ (Yi (hl) ?_));refine Yi ?_ ?_
  ·intro _;exact .of_eq (Ac vi e)
  ·intro h;exact absurd (show(4:Int)≠0 by decide) h
 |some m =>
  have er:F6 none q=if(q.set.isEmpty||!decide (q.set=canon q.set)||false)=true then 1 else 0:=by unfold F6;rw[Uj];rfl
  have hl:=hL.some hp Uj;have hc:=Xs q.set hq;have he:=qS q.set (canon q.set) hq;have PU:∀{n:Int},n=(q.set.map Ae).length→n=0→q.set.isEmpty=true:=fun h1 h2=>by
   rw[Lm]at h1;rw[F4];exact AK (by omega)
  have gT:¬((q.set.map Ae).length:Int)=0→q.set.isEmpty=false:=fun h=>by
   cases hqs:q.set with
   |nil=>rw[hqs]at h;exact absurd rfl h
   |cons a l=>rfl
  rcases Bt (decide (q.set=canon q.set))with h2 | h2
  ·rw[h2]at he;refine Ps (Ia [2,4]) Tryz.func115 rfl (Nz rfl) ?_;refine Xi .pure (Xi _ (Yi (hl) ?_));refine Xi ⟨[(1,.v (.pointer none)),(2,.ref 2 0),(7,vi 0)],[(2,.cells (Al q))],Aa⟩ (Yi ⟨Z3,Z1,Fh,Tv⟩ ?_)
   refine Yi ?_ ?_
   ·intro h;exact absurd rfl h
   intro _;refine Xi ⟨[(1,.v (.pointer none)),(2,.ref 2 0)],[(2,.cells (Al q))],Aa⟩ (Yi ⟨Z2,Z1,Fh,Tv⟩ ?_)
   refine Yi ?_ ?_
   ·intro h;have h:((q.set.map Ae).length:Int)=0:=h;have e:(1:Int)=F6 none q:=by rw[er,PU rfl h];rfl
    refine Yi (by kernel_rfl) ?_;exact .of_eq (Ac vi e)
   intro h;have h:¬((q.set.map Ae).length:Int)=0:=h;have hn:=gT h;refine Xi _ (Yi (hc) ?_);refine Xi _ (Yi (he) ?_);refine Yi (by kernel_rfl) ?_;have e:(0:Int)=F6 none q:=by rw[er,hn,h2];rfl
   exact .of_eq (Ac vi e)
  ·rw[h2]at he;refine Ps (Ia [2,4]) Tryz.func115 rfl (Nz rfl) ?_;refine Xi .pure (Xi _ (Yi (hl) ?_));refine Xi ⟨[(1,.v (.pointer none)),(2,.ref 2 0),(7,vi 0)],[(2,.cells (Al q))],Aa⟩ (Yi ⟨Z3,Z1,Fh,Tv⟩ ?_)
   refine Yi ?_ ?_
   ·intro h;exact absurd rfl h
   intro _;refine Xi ⟨[(1,.v (.pointer none)),(2,.ref 2 0)],[(2,.cells (Al q))],Aa⟩ (Yi ⟨Z2,Z1,Fh,Tv⟩ ?_)
   refine Yi ?_ ?_
   ·intro h;have h:((q.set.map Ae).length:Int)=0:=h;have e:(1:Int)=F6 none q:=by rw[er,PU rfl h];rfl
    refine Yi (by kernel_rfl) ?_;exact .of_eq (Ac vi e)
   intro h;have h:¬((q.set.map Ae).length:Int)=0:=h;have hn:=gT h;refine Xi _ (Yi (hc) ?_);refine Xi _ (Yi (he) ?_);refine Yi (by kernel_rfl) ?_;have e:(1:Int)=F6 none q:=by rw[er,hn,h2];rfl
   exact .of_eq (Ac vi e)
theorem qP{nm:ByteArray→ByteArray}(hL:Up nm)(q b:Rq)(hq:CL q.set)(hp:F3 q.path):PC 115 [.agg (Al q),.cptr (Al b)] (vi (F6 (some b.path) q)):=by
 cases Uj:By q.path with
 |none =>
  have e:(4:Int)=F6 (some b.path) q:=by unfold F6;rw[Uj];rfl
  have hl:=hL.none hp Uj;refine Ps EP Tryz.func115 rfl (Nz rfl) ?_;refine Xi .pure (Xi _ (Yi (hl) ?_));refine Yi ?_ ?_
  ·intro _;exact .of_eq (Ac vi e)
  ·intro h;exact absurd (show(4:Int)≠0 by decide) h
 |some m =>
  have er:F6 (some b.path) q=if(q.set.isEmpty||!decide (q.set=canon q.set)||!EN b.path q.path)=true then 1 else 0:=by unfold F6;rw[Uj];rfl
  have hl:=hL.some hp Uj;have hc:=Xs q.set hq;have he:=qS q.set (canon q.set) hq;have PU:∀{n:Int},n=(q.set.map Ae).length→n=0→q.set.isEmpty=true:=fun h1 h2=>by
   rw[Lm]at h1;rw[F4];exact AK (by omega)
  have gT:¬((q.set.map Ae).length:Int)=0→q.set.isEmpty=false:=fun h=>by
   cases hqs:q.set with
   |nil=>rw[hqs]at h;exact absurd rfl h
   |cons a l=>rfl
  rcases Bt (decide (q.set=canon q.set))with h2 | h2
  ·rw[h2]at he;refine Ps (Ia [2,4]) Tryz.func115 rfl (Nz rfl) ?_;refine Xi .pure (Xi _ (Yi (hl) ?_));refine Xi ⟨[(1,.cptr (Al b)),(2,.ref 2 0),(7,vi 0)],[(2,.cells (Al q))],Aa⟩ (Yi ⟨Z3,Z1,Fh,Tv⟩ ?_)
   refine Yi ?_ ?_
   ·intro h;exact absurd rfl h
   intro _;refine Xi ⟨[(1,.cptr (Al b)),(2,.ref 2 0)],[(2,.cells (Al q))],Aa⟩ (Yi ⟨Z2,Z1,Fh,Tv⟩ ?_)
   refine Yi ?_ ?_
   ·intro h;have h:((q.set.map Ae).length:Int)=0:=h;have e:(1:Int)=F6 (some b.path) q:=by rw[er,PU rfl h];rfl
    refine Yi (by kernel_rfl) ?_;exact .of_eq (Ac vi e)
   intro h;have h:¬((q.set.map Ae).length:Int)=0:=h;have hn:=gT h;refine Xi _ (Yi (hc) ?_);refine Xi _ (Yi (he) ?_);refine Yi ?_ ?_
   ·intro h3;have h3:Op.bytesLess b.path.toList q.path.toList=false:=h3;refine Yi (by kernel_rfl) ?_;have e:(1:Int)=F6 (some b.path) q:=by rw[er,hn,h2,Fm,h3];rfl
    exact .of_eq (Ac vi e)
   ·intro h3;have h3:¬Op.bytesLess b.path.toList q.path.toList=false:=h3;have h3:Op.bytesLess b.path.toList q.path.toList=true:=by simpa using h3
    refine Yi (by kernel_rfl) ?_;have e:(0:Int)=F6 (some b.path) q:=by rw[er,hn,h2,Fm,h3];rfl
    exact .of_eq (Ac vi e)
  ·rw[h2]at he;refine Ps (Ia [2,4]) Tryz.func115 rfl (Nz rfl) ?_;refine Xi .pure (Xi _ (Yi (hl) ?_));refine Xi ⟨[(1,.cptr (Al b)),(2,.ref 2 0),(7,vi 0)],[(2,.cells (Al q))],Aa⟩ (Yi ⟨Z3,Z1,Fh,Tv⟩ ?_)
   refine Yi ?_ ?_
   ·intro h;exact absurd rfl h
   intro _;refine Xi ⟨[(1,.cptr (Al b)),(2,.ref 2 0)],[(2,.cells (Al q))],Aa⟩ (Yi ⟨Z2,Z1,Fh,Tv⟩ ?_)
   refine Yi ?_ ?_
   ·intro h;have h:((q.set.map Ae).length:Int)=0:=h;have e:(1:Int)=F6 (some b.path) q:=by rw[er,PU rfl h];rfl
    refine Yi (by kernel_rfl) ?_;exact .of_eq (Ac vi e)
   intro h;have h:¬((q.set.map Ae).length:Int)=0:=h;have hn:=gT h;refine Xi _ (Yi (hc) ?_);refine Xi _ (Yi (he) ?_);refine Yi (by kernel_rfl) ?_;have e:(1:Int)=F6 (some b.path) q:=by rw[er,hn,h2];rfl
   exact .of_eq (Ac vi e)
end Go.Eng

namespace Go.Eng
open Go.Proofs
abbrev ML(l:List Rq)(k:Nat):List AV:=((l.map Al)[k]?).getD []
abbrev qL(l:List Rq):Nat→AV
 |0=>.v (.pointer none)
 |k+1=>.cptr (ML l k)
abbrev G3(l:List Rq):Nat→Option ByteArray
 |0=>none
 |k+1=>(l[k]?).map (·.path)
theorem NP{l:List Rq}{k:Nat}(h:k<l.length):ML l k=Al l[k]:=by
 unfold ML;rw[AJ,Ge h];rfl
theorem Ma{l:List Rq}{k:Nat}(h:k<l.length):G3 l (k+1)=some l[k].path:=by
 show(l[k]?).map _=_;rw[Ge h];rfl
theorem zf{nm:ByteArray→ByteArray}(hL:Up nm)(l:List Rq)(hs:∀q∈l,H4 q):PC 60 [sl Al l] (vi (Bn l)):=by
 refine Ps (Ia [8]) Tryz.func60 rfl (Nz rfl) ?_;refine Yi ?_ ?_
 ·intro h;have h:(16:Int)<(l.map Al).length:=h;exact .of_eq (Ac vi (show(7:Int)=Bn l by unfold Bn;rw[Ax (by rw[Lm]at h;omega)]))
 intro h;have h:¬(16:Int)<(l.map Al).length:=h;have hl:l.length≤16:=by rw[Lm]at h;omega
 have Ok:Bn l=Ea none l:=by unfold Bn;rw[Aq (by omega)]
 refine Xi {i:Nat // i≤l.length∧Ea none l=Ea (G3 l i) (l.drop i)} (Xi (fun i=>⟨[(0,sl Al l),(3,qL l i.1),(10,sl Al l),(11,vi (l.map Al).length),(12,vi i.1)],[],Aa⟩) (Xi (fun i=>l.length-i.1) (Yi (Xi ⟨0,AL _,rfl⟩ ?_) ?_)))
 ·exact⟨Z5,Tv,Fh,Tv⟩
 intro⟨i,h1,h2⟩;refine Yi ?_ ?_
 ·intro h;have h:(i:Int)<(l.map Al).length:=h;have h:i<l.length:=by simpa using h
  have hg:l[i]?=some l[i]:=Ge h;have hd:l.drop i=l[i]::l.drop (i+1):=Bl h;have hq:=hs l[i] (Am h);have hc:PC 115 [.agg (Al l[i]),qL l i] (vi (F6 (G3 l i) l[i])):=by
   cases i with
   |zero=>exact qO hL _ hq.1 hq.2
   |succ k =>
    rw[Ma (by omega:k<l.length)];show PC 115 [_,.cptr (ML l k)] _;rw[NP (by omega:k<l.length)];exact qP hL _ _ hq.1 hq.2
  have GY:Ea none l=if F6 (G3 l i) l[i]=0 then Ea (some l[i].path) (l.drop (i+1))else F6 (G3 l i) l[i]:=by rw[h2,hd];rfl
  match i,h1,h2,h,hg,hd,hc,GY with
  |0,h1,h2,h,hg,hd,hc,GY =>
   refine Xi (Al l[0]) (Yi (Yi (by show(0:Int)≤((0:Nat):Int);omega) (by simp[hg])) (Yi rfl ?_));refine Yi (Nz rfl) (Yi (Nz rfl) (Yi (Nz rfl) ?_));refine Xi .pure (Xi _ (Yi (hc) ?_));refine Xi ⟨[(0,sl Al l),(4,vi ((0:Nat):Int)),(6,vi (F6 (G3 l (0)) l[0])),(10,sl Al l),(11,vi (l.map Al).length),(12,vi ((0:Nat):Int))],[],Aa⟩ (Yi ⟨Z6,Tv,Fh,Tv⟩ ?_)
   refine Yi ?_ ?_
   ·intro h4;have h4:F6 (G3 l (0)) l[0]≠0:=h4;exact .of_eq (Ac vi (show F6 (G3 l (0)) l[0]=Bn l by rw[Ok,GY,Aq h4]))
   ·intro h4;have h4:¬F6 (G3 l (0)) l[0]≠0:=h4;refine Xi (Al l[0]) (Yi (Yi (by show(0:Int)≤((0:Nat):Int);omega) (by simp[hg])) (Yi rfl ?_));refine Yi (by show A9 (((0:Nat):Int)+1);unfold A9;omega) ?_;refine Xi ⟨0+1,by omega,by rw[GY,Ax (Gy h4),Ma h]⟩ ?_;have e1:AV.cptr (Al l[0])=.cptr (ML l (0)):=by rw[NP h]
    exact⟨by show l.length-(0+1)<l.length-(0);omega,⟨Zr,⟨e1,rfl⟩,Zr,Zr,Zr,Tv⟩,Tv,Fh,Tv⟩
  |k+1,h1,h2,h,hg,hd,hc,GY =>
   refine Xi (Al l[k+1]) (Yi (Yi (by show(0:Int)≤((k+1:Nat):Int);omega) (by simp[hg])) (Yi rfl ?_));refine Yi (Nz rfl) (Yi (Nz rfl) (Yi (Nz rfl) ?_));refine Xi .pure (Xi _ (Yi (hc) ?_));refine Xi ⟨[(0,sl Al l),(4,vi ((k+1:Nat):Int)),(6,vi (F6 (G3 l (k+1)) l[k+1])),(10,sl Al l),(11,vi (l.map Al).length),(12,vi ((k+1:Nat):Int))],[],Aa⟩ (Yi ⟨Z6,Tv,Fh,Tv⟩ ?_)
   refine Yi ?_ ?_
   ·intro h4;have h4:F6 (G3 l (k+1)) l[k+1]≠0:=h4;exact .of_eq (Ac vi (show F6 (G3 l (k+1)) l[k+1]=Bn l by rw[Ok,GY,Aq h4]))
   ·intro h4;have h4:¬F6 (G3 l (k+1)) l[k+1]≠0:=h4;refine Xi (Al l[k+1]) (Yi (Yi (by show(0:Int)≤((k+1:Nat):Int);omega) (by simp[hg])) (Yi rfl ?_));refine Yi (by show A9 (((k+1:Nat):Int)+1);unfold A9;omega) ?_;refine Xi ⟨k+1+1,by omega,by rw[GY,Ax (Gy h4),Ma h]⟩ ?_;have e1:AV.cptr (Al l[k+1])=.cptr (ML l (k+1)):=by rw[NP h]
    exact⟨by show l.length-(k+1+1)<l.length-(k+1);omega,⟨Zr,⟨e1,rfl⟩,Zr,Zr,Zr,Tv⟩,Tv,Fh,Tv⟩
 ·intro h;have h:¬(i:Int)<(l.map Al).length:=h;have h:¬i<l.length:=by simpa using h
  have e:(0:Int)=Bn l:=by rw[Ok,h2,Hv (by omega)];rfl
  exact .of_eq (Ac vi e)
end Go.Eng
