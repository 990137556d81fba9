/- Lemmas for the claims of this seat, without a condition: part 19 (C22, C23, C24, C25, C26, C27, C28, C29, C30, C31, C32, C33, C34, C35). -/
import Derived.Test.YtkmnnpmneamgoaaGreatDoorA18
import Derived.Shelf.Slices.Delete
namespace Go.Eng
open Go.Proofs
abbrev DI:EL:=⟨false,[.str]⟩
abbrev MO(t:Tm):Value×AV:=(.string t.path,.agg (AG t))
abbrev su(fin cut:List Nat):QA:=⟨[],[],[],[],fin,[],[],[],[],[],cut⟩
theorem RE{m:List Tm}{p:ByteArray}{a:AV}:(Value.string p,a)∈m.map MO↔∃t∈m,t.path=p∧a=.agg (AG t):=by
 rw[Aq];constructor
 ·rintro⟨t,h1,h2⟩
  simp only[FV,Value.string.injEq]at h2;exact⟨t,h1,h2.1,h2.2.symm⟩
 ·rintro⟨t,h1,rfl,rfl⟩
  exact⟨t,h1,rfl⟩
theorem ib(m:List Tm)(t:Tm):Fa (m.map MO) (.string t.path) (.agg (AG t))=(WB m t).map MO:=by
 unfold WB
 by_cases h:(m.any fun u=>decide (u.path=t.path))=true
 ·rw[AB h];obtain⟨u,h1,h2⟩:=A3.1 h;have h2:=Cm h2
  have:(Value.string t.path,AV.agg (AG u))∈m.map MO:=RE.2 ⟨u,h1,h2,rfl⟩
  rw[PX this,BX,BX];apply Ba;intro q _;simp only[Function.comp]
  by_cases e:q.path=t.path
  ·simp[e]
  ·have:¬Value.string q.path=.string t.path:=fun c=>e (by injection c)
   simp[e]
 ·rw[Ar h]
  have:∀b,(Value.string t.path,b)∉m.map MO:=fun b hb=>by
   obtain⟨u,h1,h2,_⟩:=RE.1 hb;exact h (A3.2 ⟨u,h1,by simp[h2]⟩)
  rw[PW this,AA];rfl
theorem fL{m:List Tm}(hn:(EC m).Nodup)(p:ByteArray){K:AV→Prop}{Z:Prop}(hy:∀u,Du m p=some u→K (.agg (AG u)))(NK:Du m p=none→Z) :
  (∀a,(Value.string p,a)∈m.map MO→K a)∧((∀a,(Value.string p,a)∉m.map MO)→Z) :=
 ⟨fun a h=>by
  obtain⟨t,h1,h2,rfl⟩:=RE.1 h;subst h2;exact hy t ((Md hn).1 h1),fun h=>NK (by
  cases e:Du m p with
  |none=>rfl
  |some u=>exact absurd (RE.2 ⟨u,Fl e,G9 e,rfl⟩) (h _))⟩
theorem Oz{t:Tm}(h:EJ t.set):CK t.set:=by
 unfold CK
 have:=H8 h;omega
theorem c57(l:List Tm)(hl:CK l)(hs:∀t∈l,CK t.set):PC 227 [sl AG l,.v (Ug 228)] (.cmap DI ((De l).map MO)):=by
 have hl:l.length≤1073741824:=hl;refine Ps (su [10] [5,8]) Tryz.func227 rfl (Nz rfl) ?_;refine Xi {i:Nat // i≤l.length} (Xi (fun i=>⟨[(0,sl AG l),(1,.v (Ug 228)),(5,.mref 10),(11,sl AG l),(12,vi (l.map AG).length),(13,vi i.1)],[(10,.map DI ((De (l.take i.1)).map MO))],Aa⟩) (Xi (fun i=>l.length-i.1) (Yi (Xi ⟨0,AL _⟩ ?_) ?_)))
 ·exact⟨Z6,Z1,Fh,Tv⟩
 intro⟨i,h1⟩;have hn:=HH (l.take i);refine Yi ?_ ?_
 ·intro h;have h:(i:Int)<(l.map AG).length:=h;have h:i<l.length:=by simpa using h
  have hg:l[i]?=some l[i]:=Ge h;refine Xi (AG l[i]) (Yi (Yi (Nn i) (by simp[hg])) (Yi rfl ?_));refine Yi (Nz rfl) (Yi (Nz rfl) ?_);have EN:=hs l[i] (Aj h);refine Xi ⟨[(0,sl AG l),(1,.v (Ug 228)),(5,.mref 10),(7,.ref 7 0),(11,sl AG l),(12,vi (l.map AG).length),(13,vi i)],[(7,.cells (AG l[i])),(10,.map DI ((De (l.take i)).map MO))],Aa⟩ (Yi ⟨Z7,Z2,Fh,Tv⟩ ?_)
  have tail:∀u:Tm,CK u.set→GZ u l[i]=NX (Du (De (l.take i)) l[i].path) l[i]→Fa ((De (l.take i)).map MO) (.string l[i].path) (.agg (AG (GZ u l[i])))=(De (l.take (i+1))).map MO:=fun u hu e=>by
   have hp:(NX (Du (De (l.take i)) l[i].path) l[i]).path=l[i].path:=Qc _ _ fun u h=>G9 h;have e2:=ib (De (l.take i)) (GZ u l[i]);have e3:(GZ u l[i]).path=l[i].path:=by rw[e];exact hp
   rw[e3]at e2;rw[e2,QV l i h,e];rfl
  refine fL hn l[i].path (fun u hu=>?_) (fun hu=>?_)
  ·have KH:CK u.set:=Oz (OX _ u (Fl hu));refine Yi (Nz rfl) ?_;refine Xi ⟨[(0,sl AG l),(1,.v (Ug 228)),(5,.mref 10),(7,.ref 7 0),(8,.ref 8 0),(11,sl AG l),(12,vi (l.map AG).length),(13,vi i)],[(7,.cells (AG l[i])),(8,.cells (AG u)),(10,.map DI ((De (l.take i)).map MO))],Aa⟩ (Yi ⟨Z8,Z3,Fh,Tv⟩ ?_)
   have AW:=tail u KH (by rw[bh,hu];rfl);refine Yi (Nz rfl) (Yi (Nz rfl) ?_);refine Xi _ (Yi (yz u l[i] KH EN) ?_);refine Yi (by kernel_rfl) ?_;refine Yi (Ii i (by omega)) ?_;refine Xi ⟨i+1,by omega⟩ ?_;have e1:HO.map DI (Fa ((De (l.take i)).map MO) (.string l[i].path) (.agg (AG (GZ u l[i]))))=.map DI ((De (l.take (i+1))).map MO):=by rw[AW]
   exact⟨Dl l.length i (by omega),Z6,⟨⟨e1,rfl⟩,Tv⟩,Fh,Tv⟩
  ·refine Yi (Nz rfl) ?_;refine Yi (Nz rfl) (Yi (Nz rfl) ?_);refine Xi ⟨[(0,sl AG l),(1,.v (Ug 228)),(5,.mref 10),(7,.ref 7 0),(8,.ref 8 0),(11,sl AG l),(12,vi (l.map AG).length),(13,vi i)],[(7,.cells (AG l[i])),(8,.cells (AG l[i])),(10,.map DI ((De (l.take i)).map MO))],Aa⟩ (Yi ⟨Z8,Z3,Fh,Tv⟩ ?_)
   have AW:=tail l[i] EN (by rw[bh,hu];rfl);refine Yi (Nz rfl) (Yi (Nz rfl) ?_);refine Xi _ (Yi (yz l[i] l[i] EN EN) ?_);refine Yi (by kernel_rfl) ?_;refine Yi (Ii i (by omega)) ?_;refine Xi ⟨i+1,by omega⟩ ?_;have e1:HO.map DI (Fa ((De (l.take i)).map MO) (.string l[i].path) (.agg (AG (GZ l[i] l[i]))))=.map DI ((De (l.take (i+1))).map MO):=by rw[AW]
   exact⟨Dl l.length i (by omega),Z6,⟨⟨e1,rfl⟩,Tv⟩,Fh,Tv⟩
 ·intro h;have h:¬(i:Int)<(l.map AG).length:=h;have h:¬i<l.length:=by simpa using h
  have e:(De (l.take i)).map MO=(De l).map MO:=by rw[Az (by omega)]
  exact .of_eq (Ac (AV.cmap DI) e)
end Go.Eng

namespace Go.Eng
open Go.Proofs
abbrev GR(l:List Tm):AV:=.tup [sl AG (PZ l),vb (CV l).isSome]
abbrev xg:QA:=⟨[],[],[(4,3)],[],[],[],[],[],[],[(25,4)],[4,7,10]⟩
abbrev Sb(l:List Tm):HO:=.arr 3 (l.map AG)
abbrev Fs(l:List Tm):List Tm:=l.filter fun t=>!GH t
theorem lj{l:List Tm}{kv:Value×AV}{NY : List (Value×AV)}(h:(l.map MO).Perm (kv::NY)):∃t r,kv=MO t∧NY=r.map MO∧l.Perm (t::r):=by
 obtain⟨ps,h1,h2⟩:=Mr h l rfl;cases ps with
 |nil=>cases h2
 |cons t r =>
  rw[AN,FF]at h2;exact⟨t,r,h2.1.symm,h2.2.symm,h1.symm⟩
theorem W6{l:List Tm}{t:Tm}(h:t∈De l)(hn:HI t=true):CV l=none:=by
 unfold CV;rw[AB (A3.2 ⟨t,(Je l t).1 h,hn⟩)]
theorem Y1{l done s:List Tm}(h:done.Perm (De l))(hn:∀t∈done,HI t=false)(hp:s.Perm (Fs done))(hs:s.Pairwise fun x y=>EH y.path x.path=false):CV l=some s:=by
 unfold CV;rw[Ar]
 ·congr 1
  exact(Pz _ (hp.trans (h.filter _)) hs).symm
 ·intro c;obtain⟨t,h1,h2⟩:=A3.1 c
  have:=hn t (h.mem_iff.2 ((Je l t).2 h1))
  rw[h2]at this;cases this
theorem cG(l:List Tm):(Fs l).length≤l.length:=By _ _
theorem ta(l:List Tm)(hl:CK l)(hs:∀t∈l,CK t.set):PC 192 [sl AG l] (GR l):=by
 have Zn:l.length≤1073741824:=hl;have tq:(De l).length≤l.length:=by have:=NQ l l.length (Ao _);rwa [Do]at this
 refine Ps xg Tryz.func192 rfl (Nz rfl) ?_;refine Xi .pure (Xi _ (Yi (c57 l hl hs) ?_));refine Xi {p:List Tm×List Tm×Option (Value×AV) // (p.1++p.2.1).Perm (De l)∧∀t∈p.1,HI t=false} (Xi (fun p=>⟨[(4,.msl 4 (Fs p.1.1).length),(9,.ref 9 0)],[(4,Sb (Fs p.1.1)),(9,.iter ((De l).map MO) (p.1.2.1.map MO) p.1.2.2)],Aa⟩) (Xi (fun p=>p.1.2.1.length) (Yi (Xi ⟨([],De l,none),.refl _,fun t ht=>by cases ht⟩ ?_) ?_)))
 ·exact⟨Z2,Z2,Fh,Tv⟩
 intro⟨⟨done,rem,F6⟩,r1,r2⟩;have r1:(done++rem).Perm (De l):=r1;have r2:∀t∈done,HI t=false:=r2;have hdl:done.length+rem.length≤l.length:=by have:=r1.length_eq;rw[Ad]at this;omega
 have mj:=cG done;refine Yi ?_ ?_
 ·intro hr;have hr:rem.map MO=[]:=hr;have hr:rem=[]:=EQ.1 hr;subst hr;rw[CY]at r1;refine Xi (.gen [(4,1000)] 0) (Yi rfl ((c61 (Fs done) (by unfold CK;omega)).to ?_));intro s hq;have T5:s.length=(Fs done).length:=hq.1.length_eq;have hc:=Y1 r1 r2 hq.1 hq.2;refine Xi ⟨[(4,.msl 4 (Fs done).length)],[(4,Sb s)],Aa⟩ (Yi ⟨Z1,Z1,Fh,Tv⟩ ?_)
  refine Yi (by rw[Lm,T5]) ?_;have e:AV.tup [sl AG s,vb true]=GR l:=by unfold GR PZ;rw[hc];rfl
  exact .of_eq e
 ·intro kv NY hp;refine A8 (lj hp) (fun t hp=>A8 hp (fun r hp=>?_));have e1:=hp.1;have e2:=hp.2.1;subst e1;subst e2;have hp:=hp.2.2;have pI:t∈De l:=r1.mem_iff.1 (Bp _ (hp.mem_iff.2 (Ab ..)));have wU:=OX l t pI;have zr:=Oz wU;refine Xi ⟨[(4,.msl 4 (Fs done).length),(9,.ref 9 0)],[(4,Sb (Fs done)),(9,.iter ((De l).map MO) (r.map MO) (some (MO t)))],Aa⟩ (Yi ⟨Z2,Z2,Fh,Tv⟩ ?_)
  refine Yi (Nz rfl) (Yi (Nz rfl) ?_);have hv:PC 229 [.agg (AG t)] (vb (HI t)):=ig wU▸c59 t zr;have ha:PC 230 [.agg (AG t)] (vb (GH t)):=bE wU▸c60 t zr;refine BG (Bt (HI t)) (fun h=>?_) (fun h=>?_)
  ·rw[h]at hv;refine Xi .pure (Xi _ (Yi (hv) ?_));have hc:=W6 pI h;have e:AV.tup [.slice .none [],vb false]=GR l:=by unfold GR PZ;rw[hc];rfl
   have e0:GU (.tup [.v (.slice none 0 0),vb false]) (.tup [.slice .none [],vb false]):=GU.tup ⟨.nil,.refl _,trivial⟩;exact e0.trans (.of_eq e)
  ·rw[h]at hv;refine Xi .pure (Xi _ (Yi (hv) ?_));refine Xi ⟨[(4,.msl 4 (Fs done).length),(6,.ref 6 0),(9,.ref 9 0)],[(4,Sb (Fs done)),(6,.cells (AG t)),(9,.iter ((De l).map MO) (r.map MO) (some (MO t)))],Aa⟩ (Yi ⟨Z3,Z3,Fh,Tv⟩ ?_)
   refine Yi (Nz rfl) ?_;have T3:((done++[t])++r).Perm (De l):=by
    rw[BU];exact(List.Perm.append_left _ hp.symm).trans r1
   have zi:∀u∈done++[t],HI u=false:=fun u hu=>by
    rcases A5.1 hu with hu | hu
    ·exact r2 u hu
    ·rw[Au.1 hu];exact h
   have hrl:r.length<rem.length:=by rw[hp.length_eq,Ak];omega
   refine BG (Bt (GH t)) (fun h2=>?_) (fun h2=>?_)
   rotate_left
   ·rw[h2]at ha;refine Xi .pure (Xi _ (Yi (ha) ?_));have GI:B1 3 [AG t]∧((Fs done).map AG).length=(Fs done).length∧(((Fs done).map AG).length+[AG t].length)*48≤140737488355328∧((Fs done).map AG).length+[AG t].length≤9223372036854775807 :=
     ⟨⟨rfl,trivial⟩,by rw[Lm],by rw[Lm,AC];omega,by rw[Lm,AC];omega⟩
    refine Yi (Nz rfl) ?_;refine Yi GI ?_;have hk:Fs (done++[t])=Fs done++[t]:=by unfold Fs;rw[E8,Et,AB (by rw[h2];rfl)];rfl
    have e1:AV.msl 4 (((Fs done).map AG).length+[AG t].length)=.msl 4 (Fs (done++[t])).length:=by rw[hk];simp
    have e2:HO.arr 3 ((Fs done).map AG++[AG t])=Sb (Fs (done++[t])):=by rw[hk];simp
    refine Xi ⟨(done++[t],r,some (MO t)),T3,zi⟩ ?_;exact⟨hrl,⟨⟨e1,rfl⟩,Zr,Tv⟩,⟨⟨e2,rfl⟩,Zr,Tv⟩,Fh,Tv⟩
   ·rw[h2]at ha;refine Xi .pure (Xi _ (Yi (ha) ?_));have hk:Fs (done++[t])=Fs done:=by unfold Fs;rw[E8,Et,Ar (by rw[h2];decide)];simp
    have e1:AV.msl 4 (Fs done).length=.msl 4 (Fs (done++[t])).length:=by rw[hk]
    have e2:Sb (Fs done)=Sb (Fs (done++[t])):=by rw[hk]
    refine Xi ⟨(done++[t],r,some (MO t)),T3,zi⟩ ?_;exact⟨hrl,⟨⟨e1,rfl⟩,Zr,Tv⟩,⟨⟨e2,rfl⟩,Zr,Tv⟩,Fh,Tv⟩
end Go.Eng

namespace Go.Eng
open Go.Proofs
theorem nl(l:List Tm)(hl:CK l)(hs:∀t∈l,CK t.set):PC 187 [sl AG l] (sl AG (PZ l)):=by
 refine Ps EI Tryz.func187 rfl (Nz rfl) ?_;refine Xi .pure (Xi _ (Yi (ta l hl hs) ?_));exact .refl _
theorem PH(s:A9):CK (En s):=by
 unfold CK;have:=H8 (Hf s);omega
theorem nw{α:Type}(x:α):CK [x]:=by unfold CK;simp
theorem vq{α:Type}(x y:α):CK [x,y]:=by unfold CK;simp
theorem uD(q:Rq)(hq:CK q.set):PC 133 [.agg (Ap q)] (sl AG (JC q)):=by
 have hc:PC 187 [sl AG [DG q]] (sl AG (JC q)):=nl [DG q] (nw _) fun t ht=>by rw[Au.1 ht];exact PH _
 refine Ps EI Tryz.func133 rfl (Nz rfl) ?_;refine Yi (Nz rfl) ?_;refine Xi .pure (Xi _ (Yi (qt q hq) ?_));refine Xi .pure (Xi _ (Yi (hc) ?_));exact .refl _
theorem uE(p:ByteArray)(pl:Int)(q:Rq)(hp:Bf (pl+1))(hq:CK q.set):PC 134 [vs p,vi pl,.agg (Ap q)] (sl AG (El p pl q)):=by
 have hc:PC 187 [sl AG [⟨p,false,[(pl,pl+1)]⟩,DG q]] (sl AG (El p pl q)):=nl [⟨p,false,[(pl,pl+1)]⟩,DG q] (vq _ _) fun t ht=>by
  rcases AF.1 ht with rfl | ht
  ·exact nw _
  ·rw[Au.1 ht];exact PH _
 refine Ps EI Tryz.func134 rfl (Nz rfl) ?_;refine Yi hp ?_;refine Yi (Nz rfl) ?_;refine Xi .pure (Xi _ (Yi (qt q hq) ?_));refine Xi .pure (Xi _ (Yi (hc) ?_));exact .refl _
theorem qo(p:ByteArray)(s:A9)(hs:CK s):PC 137 [vs p,sl Ae s] (sl AG (H1 p s)):=by
 have hc:PC 187 [sl AG [⟨p,false,En s⟩]] (sl AG (H1 p s)):=nl [⟨p,false,En s⟩] (nw _) fun t ht=>by rw[Au.1 ht];exact PH _
 refine Ps EI Tryz.func137 rfl (Nz rfl) ?_;refine Xi .pure (Xi _ (Yi (m5 s hs) ?_));refine Xi .pure (Xi _ (Yi (hc) ?_));exact .refl _
end Go.Eng

namespace Go.Eng
open Go.Proofs Go.Shelf Go.RowKit Go.Lib Go.Sort
theorem oA(F:Array Value)(i n:Nat)(hF:F.size=n*3)(hi:i<n)(z:List Value)(hz:z.length=3):(lay (lay F (i*3) (F.toList.drop ((i+1)*3))) ((n-1)*3) z).toList=F.toList.take (i*3)++F.toList.drop ((i+1)*3)++z:=by
 have l1:(F.toList.take (i*3)).length=i*3:=by simp;omega
 have l2:(F.toList.drop ((i+1)*3)).length=(n-(i+1))*3:=by simp;omega
 apply Dq
 intro t
 rw[AO,lay_get? _ _ _ _ (by rw[Lib.lay_size];omega),lay_get? _ _ _ _ (by rw[l2];omega)]
 rw[hz,l2]
 by_cases c1:t<i*3
 ·rw[Ar (by omega),Ar (by omega),AZ (by rw[Ad];omega),AZ (by omega),JH,AB c1,AO]
 ·by_cases c2:t<(n-1)*3
  ·rw[Ar (by omega),AB (by omega),AZ (by rw[Ad];omega),AR (by omega),l1]
  ·rw[AR (by rw[Ad];omega),Ad,l1,l2]
   by_cases c3:t<n*3
   ·rw[AB (by omega)];congr 1;omega
   ·rw[Ar (by omega),Ar (by omega),T6 (by omega),A4 (by omega)]
abbrev jK:List Value:=[.string ⟨#[]⟩,.bool false,.slice none 0 0]
set_option maxHeartbeats 4000000 in
set_option maxRecDepth 1000000 in
theorem ft(w:World)(b cap i n:Nat)(F:Array Value)(hF:F.size=n*3)(hi:i<n)(M3:n≤cap)(hH:Holds id w b 0 F)(h1:∀x∈F.toList,x.oneCell'=true) :
  Calls Tryz.prog 225 #[.slice (some ⟨b,0,none⟩) n cap,.int .i64 i,.int .i64 ((i:Int)+1)] w fun e w'=>e=.returned (.slice (some ⟨b,0,none⟩) (n-1) cap) ∧
   w'=putRow id (Sort.ahead w 1) b 0 (lay (lay F (i*3) (F.toList.drop ((i+1)*3))) ((n-1)*3) jK):=by
 obtain⟨i0,nU,rY⟩:∃i0,Tryz.prog.info? 208=some i0∧i0.size=3:=by
  obtain⟨i,z,h1,_,h2,_⟩:=Hv (P:=Tryz.prog) (T:=jI) CG (e:=208) (n:=2) (by kernel_rfl)
  exact⟨i,h1,h2.trans (by kernel_rfl)⟩
 obtain⟨news,IR⟩:∃news,news=F.toList.drop ((i+1)*3):=⟨_,rfl⟩
 have CW:news.length=(n-(i+1))*3:=by rw[IR];simp;omega
 have EN:∀t,t<(n-(i+1))*3→news[t]?=some F[(i+1)*3+t]!:=by
  intro t ht
  rw[IR,DE,AO,DN F ((i+1)*3+t) (by omega),Be (by omega)]
 obtain⟨A,hA,cu⟩:∃A:Addr,(if cap=i+1 then some (⟨b,0,none⟩:Addr)else some ⟨b,(i+1)*3,none⟩)=some A∧Hid (∀t u,news[t]?=some u→w.drew.cell? (A.add t)=some u):=by
  by_cases h:cap=i+1
  ·refine⟨⟨b,0,none⟩,by simp[h],fun t u hu=>?_⟩
   have h0:news.length=0:=by rw[CW];omega
   rw[List.length_eq_zero_iff.1 h0]at hu
   simp at hu
  ·refine⟨⟨b,(i+1)*3,none⟩,by simp[h],fun t u hu=>?_⟩
   have ht:t<(n-(i+1))*3:=by
    have:=(Aw.1 hu).1
    rwa [CW]at this
   rw[EN t ht]at hu
   rw[Addr.add_lit]
   have:=(hH ((i+1)*3+t) (by omega)).1
   rw[Bc]at this
   exact this.trans hu
 have s1:Hid (news.length=(n-(i+1))*3):=CW
 have s2:Hid (∀u∈news,u.oneCell'=true):=by
  intro u hu
  rw[IR]at hu
  exact h1 u (In hu)
 have s3:Hid (∀t,t<news.length→(w.drew.cell? ⟨b,0+i*3+t,none⟩).isSome=true∧w.drew.frozen? ⟨b,0+i*3+t,none⟩=false):=by
  intro t ht
  rw[CW]at ht
  have:=hH (i*3+t) (by omega)
  rw[GG]
  exact⟨by show(w.cell? _).isSome=true;rw[this.1];rfl,this.2⟩
 obtain⟨W1,vT⟩:∃W1,W1=w.drew.setCells b (0+i*3) news:=⟨_,rfl⟩
 have nJ : W1=putRow id (Sort.ahead w 1) b 0 (lay F (i*3) news):=by
  have:=putRow_setCells id (Sort.ahead w 1) b 0 news F (i*3) (by omega)
  rw[putRow_self id (Sort.ahead w 1) b 0 F (holds_ahead id w 1 b 0 F hH),LZ]at this
  rw[vT,←this]
  rfl
 have vF:Holds id W1 b 0 (lay F (i*3) news):=by rw[nJ];exact holds_putRow id _ b 0 F _ (holds_ahead id w 1 b 0 F hH) (Lib.lay_size _ _ _)
 have Gy:(storeCells ⟨b,0+(n-1)*3,none⟩ jK 0).run Tryz.prog W1=.ok () (W1.setCells b (0+(n-1)*3) jK):=by
  have:=run_storeCells_cells (P:=Tryz.prog) b (0+(n-1)*3) jK 0 W1 (fun j hj=>by
   have hj:j<3:=hj
   have:=vF ((n-1)*3+j) (by rw[Lib.lay_size];omega)
   rw[show 0+(n-1)*3+0+j=0+((n-1)*3+j) by omega,this.1];rfl) (fun j hj=>by
   have hj:j<3:=hj
   have:=vF ((n-1)*3+j) (by rw[Lib.lay_size];omega)
   rw[show 0+(n-1)*3+0+j=0+((n-1)*3+j) by omega];exact this.2) (fun v hv=>by
   simp only[AF,LN,or_false]at hv
   rcases hv with rfl | rfl | rfl<;>rfl)
  exact this
 have hcl:∀ty c,(Builtin.clear_ #[149] ty #[.slice (some ⟨b,(n-1)*3,none⟩) 1 c]).run Tryz.prog W1=.ok (.tuple #[]) (W1.setCells b (0+(n-1)*3) jK):=fun ty c=>by
  have hv:=Tryz.zeroValue208
  rw[Bc]at Gy⊢
  have hz:(Builtin.zeroCells (Value.agg #[Value.string { data:=#[] },Value.bool false,Value.slice none 0 0]).cells 1).toList=jK:=by kernel_rfl
  simp[Builtin.clear_,run_underlying Tryz.underlying149,hv,hz,Gy]
 have AaQ:∀ty,(Builtin.clear_ #[149] ty #[.slice (some ⟨b,(i+(n-(i+1)))*3,none⟩) (n-(i+(n-(i+1)))) (cap-(i+(n-(i+1))))]).run Tryz.prog W1=.ok (.tuple #[]) (W1.setCells b (0+(n-1)*3) jK):=fun ty=>by
  have e1:i+(n-(i+1))=n-1:=by omega
  have e2:n-(n-1)=1:=by omega
  rw[e1,e2];exact hcl ty _
 have X:Aside (W1=putRow id (Sort.ahead w 1) b 0 (lay F (i*3) news)):=nJ
 have hW:Hid (W1=w.drew.setCells b (0+i*3) news):=vT
 have Y:Aside (news=F.toList.drop ((i+1)*3)):=IR
 have Z:Aside (news.length=(n-(i+1))*3):=CW
 have rv:i≤cap:=by omega
 have hjc:i+1≤cap:=by omega
 have mixed:=Go.Eng.hm
 have hb1:(0:Int)≤(i:Int)+1:=by omega
 have Uj:(i:Int)+1≤(n:Int):=by omega
 clear vT nJ vF hH EN IR CW Gy hcl
 go_enter Tryz.func225,Tryz.ntmps225
 go_wp2_with fail
 go_region_law_o (refine step_append_room rfl (.tmp 22) (.tmp 25) 149 rfl 208 i0 3 Tryz.underlying149 nU rY b 0 i cap (by simp[Act.eval,Act.put]) A (n-(i+1)) (cap-(i+1)) news (by simp[Act.eval,Act.put]) s1.out cu.out s2.out (by omega) s3.out ?_;rw[←hW.out])
 go_wp2
 go_ret
 refine⟨by rw[show i+(n-(i+1))=n-1 by omega];rfl,?_⟩
 rw[X.out]
 have e1:=Y.out
 have e2:=Z.out
 rw[←e1]
 have:=putRow_setCells id (Sort.ahead w 1) b 0 jK (lay F (i*3) news) ((n-1)*3) (by rw[Lib.lay_size];show _+3≤_;omega)
 rw[LZ,Bc]at this
 exact this
abbrev Uw:List AV:=[Go.Eng.vs ⟨#[]⟩,vb false,.v (.slice none 0 0)]
theorem uV(l:List Tm)(i:Nat)(hi:i<l.length) :
  Bo Tryz.prog 225 [.msl 1000 l.length,vi i,vi ((i:Int)+1)] (Af [(1000,.arr 3 (l.map AG))] Aa) fun r h'=>r=.msl 2000 (l.length-1)∧h'=Af [(1000,.dead),(2000,.arr 3 ((l.eraseIdx i).map AG))] Aa:=by
 have hE:Gd Tryz.prog 225:=fA 225 Tryz.func225 (by kernel_rfl) rfl
 have CW:(l.eraseIdx i).length=l.length-1:=List.length_eraseIdx_of_lt hi
 have Iu:=bz (P:=Tryz.prog) (f:=225) (es:=l.map AG) (sz:=3) (rest:=[.int .i64 i,.int .i64 ((i:Int)+1)]) (n':=l.length-1) (Q:=fun EM=>EM=(l.eraseIdx i).map AG++[Uw]) hE (fun e=>by
  rw[EQ]at e;subst e;simp at hi) (by rw[Bx];omega) ?_
 ·rw[Bx]at Iu
  refine⟨hE,fun g w vals q1 q2 q3=>(Iu.2 g w vals q1 q2 q3).mono fun _ _ ⟨v,r,h',g',e1,⟨e2,EM,p1,p2⟩,rest⟩=>⟨v,r,h',g',e1,⟨e2,by rw[p2,p1,D8 (by rw[Bx,CW];exact Ao _),Az (by rw[Bx,CW];exact Ao _)]⟩,rest⟩⟩
 ·intro g w b cap F hr hF hH hb hc
  rw[Bx]at hF hc⊢
  have hu:∀e∈l.map AG,e.length=3:=fun e he=>by
   obtain⟨t,_,rfl⟩:=Aq.1 he;rfl
  refine(ft w b cap i l.length F hF hi hc hH hr.2.1).mono ?_
  rintro e w' ⟨rfl,rfl⟩
  refine⟨rfl,_,_,1,#[],?_,rfl,?_,fun cs hcs=>?_,fun g w hr=>?_,rfl⟩
  ·rw[Lib.lay_size,Lib.lay_size]
  ·rw[Ad,Bx,CW,AC];omega
  ·rcases A5.1 hcs with h | h
   ·obtain⟨t,_,rfl⟩:=Aq.1 h;rfl
   ·rw[Au.1 h];rfl
  ·rw[oA F i l.length hF hi jK rfl,List.eraseIdx_eq_take_drop_succ,Cc,AA,Cc,Rg,List.map_drop,←I2 _ i hu,←OE _ (i+1) hu]
   refine CT.append (CT.append (hr.take _) (hr.drop _)) ?_
   exact Qf g w Fj jK fun x hx=>by
    simp only[AF,LN,or_false]at hx
    rcases hx with rfl | rfl | rfl<;>rfl
end Go.Eng

namespace Go.Eng
open Go.Proofs
theorem qu(l:List Tm)(hl:CK l)(Dy:l≠[]):Bo Tryz.prog 226 [sl AG l] (Af [] Aa) fun r h'=>r=.msl 2000 l.length∧h'=Af [(2000,.arr 3 (l.map AG))] Aa:=by
 refine CF (MG (zz [(5,3)] [])) [(5,2000)] rfl CG hm rfl Tryz.func226 (by kernel_rfl) rfl (Nz rfl) (by kernel_rfl) rfl ?_;have GI:B1 3 (l.map AG)∧([]:List (List AV)).length=0∧(([]:List (List AV)).length+(l.map AG).length)*48≤140737488355328∧([]:List (List AV)).length+(l.map AG).length≤9223372036854775807:=by
  refine⟨DQ (enc:=AG) (n:=3) (fun _=>rfl) l,rfl,?_,?_⟩<;>simp only[Al,Lm]<;>unfold CK at hl<;>omega
 refine Yi ?_ ?_
 ·intro _;refine Yi GI ?_;have e1:AV.msl 2000 (([]:List (List AV)).length+(l.map AG).length)=.msl 2000 l.length:=by simp
  refine Xi (.msl 2000 (([]:List (List AV)).length+(l.map AG).length)) (Yi (.refl _) (Yi e1 ?_))
  rfl
 ·intro h;have h:l.map AG=[]:=h;exact absurd (EQ.1 h) Dy
theorem np(x:Tm)(p:ByteArray):PC 224 [.agg (AG x),.cptr [vs p]] (vb (decide (x.path=p))):=by
 refine Ps EI Tryz.func224 rfl (Nz rfl) ?_;refine Yi ?_ ?_
 ·intro h;have h:x.path=p:=h;rw[Av h];exact .refl _
 ·intro h;have h:¬x.path=p:=h;rw[At h];exact .refl _
theorem Ni{p:ByteArray}:∀{c:List Tm} {i:Nat},(EC c).Nodup→∀(hi:i<c.length),c[i].path=p→c.eraseIdx i=FR c p
 |t::c,0,hn,_,h=>by
  have h:t.path=p:=h;unfold EC at hn;rw[AN,CZ]at hn;unfold FR;rw[Et,Ar (by simp[h])];show c=_;rw[List.filter_eq_self.2 fun u hu=>by
   have:u.path≠p:=fun e=>hn.1 (h▸e▸Aq.2 ⟨u,hu,rfl⟩)
   simp[this]]
 |t::c,i+1,hn,hi,h=>by
  have hi:i<c.length:=by simpa using hi
  have h:c[i].path=p:=h;unfold EC at hn;rw[AN,CZ]at hn
  have:t.path≠p:=fun e=>hn.1 (by rw[e,←h];exact Aq.2 ⟨_,Aj hi,rfl⟩)
  have ih:=Ni hn.2 hi h;unfold FR at ih⊢;rw[List.eraseIdx_cons_succ,Et,AB (by simp[this]),ih]
theorem PG{l c:List Tm}(hl:CK l)(h:CV l=some c):CK c:=by
 have h1:=NQ l l.length (Ao _);rw[Do]at h1;have h2:c=(E3 l).filter fun t=>!GH t:=by
  unfold CV at h;split at h
  ·cases h
  ·exact(Ch h).symm
 have h3:c.length≤(E3 l).length:=by rw[h2];exact By _ _
 have h4:(E3 l).length=(De l).length:=by
  have:=(List.perm_ext_iff_of_nodup (HM (HH l)) (HM (HR (Er l)))).2 (Je l)
  exact this.length_eq.symm
 unfold CK at hl⊢;omega
abbrev ll:AV:=.tup [.agg Uw,.v (.slice none 0 0),vb false]
abbrev mG:QA:=⟨[3],[],[],[],[],[],[],[],[(30,0),(34,1)],[],[3]⟩
theorem eU(l:List Tm)(p:ByteArray)(hl:CK l)(hs:∀t∈l,CK t.set)(hn:FB l p=none):PC 191 [sl AG l,vs p] ll:=by
 have hc:=ta l hl hs;unfold FB at hn;cases e:CV l with
 |none =>
  have e1:GR l=.tup [sl AG [],vb false]:=by unfold GR PZ;rw[e];rfl
  rw[e1]at hc;have hi:=jZ (E1.ptr [vs p]) [] (fun x=>decide (x.path=p)) (fun x _=>np x p) (by simp);refine Ps mG Tryz.func191 rfl (Nz rfl) ?_;refine Xi .pure (Xi _ (Yi (hc) ?_));refine Xi .pure (Xi _ (Yi (hi) ?_));refine Xi ⟨[(4,.ref 4 0),(7,sl AG []),(8,vb false),(9,vi (-1))],[(4,.cells Uw)],Aa⟩ (Yi ⟨Z4,Z1,Fh,Tv⟩ ?_)
  refine Yi (Nz rfl) (Yi (Nz rfl) ?_);exact .refl _
 |some c =>
  rw[e]at hn;have hn:(match Du c p with | none=>none | some t=>some (t,FR c p))=none:=hn;have rt:Du c p=none:=by
   cases h:Du c p with
   |none=>rfl
   |some t=>rw[h]at hn;cases hn
  have e1:GR l=.tup [sl AG c,vb true]:=by unfold GR PZ;rw[e];rfl
  rw[e1]at hc;have rn:=PG hl e;have hi:=jZ (E1.ptr [vs p]) c (fun x=>decide (x.path=p)) (fun x _=>np x p) (by unfold CK at rn;omega);have hid:Kb (fun x:Tm=>decide (x.path=p)) c 0=-1:=by
   rcases OO (p:=fun x:Tm=>decide (x.path=p)) c 0 with ⟨h1,_⟩ | ⟨i,x,_,_,h3⟩
   ·exact h1
   ·unfold Du at rt;rw[h3]at rt;cases rt
  rw[hid]at hi;refine Ps mG Tryz.func191 rfl (Nz rfl) ?_;refine Xi .pure (Xi _ (Yi (hc) ?_));refine Xi .pure (Xi _ (Yi (hi) ?_));refine Xi ⟨[(4,.ref 4 0),(7,sl AG c),(8,vb true),(9,vi (-1))],[(4,.cells Uw)],Aa⟩ (Yi ⟨Z4,Z1,Fh,Tv⟩ ?_)
  refine Yi ?_ ?_
  ·intro _;refine Yi (Nz rfl) (Yi (Nz rfl) ?_);exact .refl _
  ·intro h;exact absurd (show(-1:Int)<0 by decide) h
abbrev oK:QA:=⟨[3],[],[],[],[],[],[],[],[(30,0),(34,2)],[],[]⟩
theorem eX(l:List Tm)(p:ByteArray)(hl:CK l)(hs:∀t∈l,CK t.set){t:Tm}{r:List Tm}(hn:FB l p=some (t,r)) :
  Bo Tryz.prog 191 [sl AG l,vs p] (Af [] Aa) fun v h'=>v=.tup [.agg (AG t),.msl 2000 r.length,vb true]∧h'=Af [(2000,.arr 3 (r.map AG))] Aa:=by
 have hc:=ta l hl hs;unfold FB at hn;cases e:CV l with
 |none=>rw[e]at hn;cases hn
 |some c =>
  rw[e]at hn;have hn:(match Du c p with | none=>none | some t=>some (t,FR c p))=some (t,r):=hn;have gq:Du c p=some t∧FR c p=r:=by
   cases h:Du c p with
   |none=>rw[h]at hn;cases hn
   |some t=>rw[h]at hn;cases hn;exact Zr
  have e1:GR l=.tup [sl AG c,vb true]:=by unfold GR PZ;rw[e];rfl
  rw[e1]at hc;have rn:=PG hl e;have hi:=jZ (E1.ptr [vs p]) c (fun x=>decide (x.path=p)) (fun x _=>np x p) (by unfold CK at rn;omega);rcases OO (p:=fun x:Tm=>decide (x.path=p)) c 0 with ⟨_,h2⟩ | ⟨i,x,h1,h2,h3⟩
  ·unfold Du at gq;rw[h2]at gq;cases gq.1
  have hx:x=t:=by
   have:=gq.1
   unfold Du at this;rw[h3]at this;exact Ch this
  subst hx;rw[h1,Kn]at hi;obtain⟨rv,hie⟩:=Aw.1 h2;have yZ:c.eraseIdx i=r:=by
   rw[←gq.2];exact Ni (HR (EV e)) rv (by rw[hie];exact G9 gq.1)
  have ml:c.length-1=r.length:=by rw[←yZ,List.length_eraseIdx_of_lt rv]
  have Dy:c≠[]:=fun h=>by subst h;simp at rv
  have AaW:c.length≤1073741824:=rn;refine CF (MG oK) [(13400,2000)] rfl CG hm rfl Tryz.func191 (by kernel_rfl) rfl (Nz rfl) (by kernel_rfl) rfl ?_;refine Xi .pure (Xi _ (Yi (hc) ?_));refine Xi .pure (Xi _ (Yi (hi) ?_));refine Yi ?_ ?_
  ·intro h;have h:(i:Int)<0:=h;omega
  intro _;have hg:(c.map AG)[((i:Nat):Int).toNat]?=some (AG x):=by rw[A6,AI,h2];rfl
  refine Xi (AG x) (Yi (Yi (Nn i) hg) (Yi rfl (Yi (Nz rfl) ?_)));refine Xi c.length (Xi 3 (Xi (c.map AG) (Yi rfl (Yi (qu c rn Dy) ?_))));refine Yi (Ii i (by omega)) ?_;refine Xi (c.length-1) (Xi ((c.eraseIdx i).map AG) (Yi rfl (Yi (uV c i rv) ?_)));refine Yi (Nz rfl) ?_;refine Yi (by kernel_rfl) ?_;refine Yi (Nz rfl) ?_;have e2:AV.tup [.agg (AG x),.msl 2000 (c.length-1),vb true]=.tup [.agg (AG x),.msl 2000 r.length,vb true]:=by rw[ml]
  have e3:Af [(2000,HO.arr 3 ((c.eraseIdx i).map AG))] Aa=Af [(2000,.arr 3 (r.map AG))] Aa:=by rw[yZ]
  exact Xi _ (Yi (.refl _) (Yi e2 e3))
end Go.Eng

namespace Go.Eng
open Go.Proofs
abbrev be:QA:=⟨[],[],[],[],[],[],[],[],[],[(24,9),(30,12)],[2,3,5,6]⟩
abbrev oR(a b:List Tm)(p:ByteArray):AV:=.tup [sl AG (BE a b p).1,vi (BE a b p).2]
theorem Vv{l r:List Tm}{p:ByteArray}{t:Tm}(h:FB l p=some (t,r)):∃c,CV l=some c∧t∈c∧r=FR c p:=by
 unfold FB at h;cases e:CV l with
 |none=>rw[e]at h;cases h
 |some c =>
  rw[e]at h;have h:(match Du c p with | none=>none | some t=>some (t,FR c p))=some (t,r):=h;cases e2:Du c p with
  |none=>rw[e2]at h;cases h
  |some u=>rw[e2]at h;cases h;exact⟨c,rfl,Fl e2,rfl⟩
theorem Vw{l r:List Tm}{p:ByteArray}{t:Tm}(hl:CK l)(h:FB l p=some (t,r)):CK t.set∧CK r∧∀u∈r,CK u.set:=by
 obtain⟨c,h1,h2,rfl⟩:=Vv h;have hs:=EV h1;refine⟨Oz (hs.canon t h2),?_,fun u hu=>Oz (hs.canon u (BL.1 hu).1)⟩
 have:=PG hl h1
 have h3:(FR c p).length≤c.length:=By _ _;unfold CK at *;omega
theorem fb{l c:List Tm}(h:CV l=some c):c.length≤l.length:=by
 have h1:=NQ l l.length (Ao _);rw[Do]at h1;have h2:c=(E3 l).filter fun t=>!GH t:=by
  unfold CV at h;split at h
  ·cases h
  ·exact(Ch h).symm
 have h3:c.length≤(E3 l).length:=by rw[h2];exact By _ _
 have h4:(E3 l).length=(De l).length:=by
  have:=(List.perm_ext_iff_of_nodup (HM (HH l)) (HM (HR (Er l)))).2 (Je l)
  exact this.length_eq.symm
 omega
theorem Vx{l r:List Tm}{p:ByteArray}{t:Tm}(h:FB l p=some (t,r)):r.length≤l.length:=by
 obtain⟨c,h1,h2,rfl⟩:=Vv h;have h3:(FR c p).length≤c.length:=By _ _
 have:=fb h1
 omega
theorem bW(a b:A9):CK (Ph a b):=by
 unfold CK;have:=H8 (Yz a b);omega
theorem uG(a b:List Tm)(p:ByteArray)(ha:a.length≤500000000)(hb:b.length≤500000000)(zn:∀t∈a,CK t.set)(kL:∀t∈b,CK t.set):PC 138 [sl AG a,sl AG b,vs p] (oR a b p):=by
 have rm:CK a:=by unfold CK;omega
 have nQ:CK b:=by unfold CK;omega
 have er:∀{l:List Tm} {e:Int},BE a b p=(l,e)→oR a b p=.tup [sl AG l,vi e]:=fun h=>by unfold oR;rw[h]
 have e0:GU (.tup [.v (.slice none 0 0),vi 1]) (.tup [.slice .none [],vi 1]):=GU.tup ⟨.nil,.refl _,trivial⟩;cases h1:FB a p with
 |none =>
  have hr:BE a b p=([],1):=by unfold BE;rw[h1]
  have c1:=eU a p rm zn h1;cases h2:FB b p with
  |none =>
   have c2:=eU b p nQ kL h2;refine Ps be Tryz.func138 rfl (Nz rfl) ?_;refine Xi .pure (Xi _ (Yi (c1) ?_));refine Yi (Nz rfl) ?_;refine Xi ⟨[(1,sl AG b),(2,vs p),(8,.ref 8 0),(9,.v (.slice none 0 0)),(10,vb false)],[(8,.cells Uw)],Aa⟩ (Yi ⟨Z5,Z1,Fh,Tv⟩ ?_)
   refine Xi .pure (Xi _ (Yi (c2) ?_));refine Yi (Nz rfl) ?_;refine Xi ⟨[(8,.ref 8 0),(9,.v (.slice none 0 0)),(10,vb false),(11,.ref 11 0),(12,.v (.slice none 0 0)),(13,vb false)],[(8,.cells Uw),(11,.cells Uw)],Aa⟩ (Yi ⟨Z6,Z2,Fh,Tv⟩ ?_)
   exact e0.trans (.of_eq (er hr).symm)
  |some q2 =>
   obtain⟨t2,r2⟩:=q2;have c2:=eX b p nQ kL h2;refine Ps be Tryz.func138 rfl (Nz rfl) ?_;refine Xi .pure (Xi _ (Yi (c1) ?_));refine Yi (Nz rfl) ?_;refine Xi ⟨[(1,sl AG b),(2,vs p),(8,.ref 8 0),(9,.v (.slice none 0 0)),(10,vb false)],[(8,.cells Uw)],Aa⟩ (Yi ⟨Z5,Z1,Fh,Tv⟩ ?_)
   have z2:r2.length=(r2.map AG).length:=by rw[Lm]
   refine Xi (.gen [] 1) (Yi rfl (c2.imp ?_));intro v2 g2 q2;have xo:=q2.1;have pP:=q2.2;subst xo;subst pP;refine Yi (Nz rfl) ?_;refine Xi ⟨[(8,.ref 8 0),(9,.v (.slice none 0 0)),(10,vb false),(11,.ref 11 0),(12,.msl 12600 r2.length),(13,vb true)],[(8,.cells Uw),(11,.cells (AG t2)),(12600,.arr 3 (r2.map AG))],Aa⟩ (Yi ⟨Z6,Z3,Fh,Tv⟩ ?_)
   refine Yi z2 ?_;exact e0.trans (.of_eq (er hr).symm)
 |some q1 =>
  obtain⟨t1,r1⟩:=q1;have c1:=eX a p rm zn h1;obtain⟨f1,f2,f3⟩:=Vw rm h1;cases h2:FB b p with
  |none =>
   have hr:BE a b p=([],1):=by unfold BE;rw[h1,h2]
   have c2:=eU b p nQ kL h2;refine Ps be Tryz.func138 rfl (Nz rfl) ?_;refine Xi (.gen [] 1) (Yi rfl (c1.imp ?_));intro v1 g1 q1;have xh:=q1.1;have YH:=q1.2;subst xh;subst YH;refine Yi (Nz rfl) ?_;refine Xi ⟨[(1,sl AG b),(2,vs p),(8,.ref 8 0),(9,.msl 11900 r1.length),(10,vb true)],[(8,.cells (AG t1)),(11900,.arr 3 (r1.map AG))],Aa⟩ (Yi ⟨Z5,Z2,Fh,Tv⟩ ?_)
   have z1:r1.length=(r1.map AG).length:=by rw[Lm]
   refine Yi z1 ?_;refine Xi .pure (Xi _ (Yi (c2) ?_));refine Yi (Nz rfl) ?_;refine Xi ⟨[(8,.ref 8 0),(9,.slice (.id 11900 3) (r1.map AG)),(10,vb true),(11,.ref 11 0),(12,.v (.slice none 0 0)),(13,vb false)],[(8,.cells (AG t1)),(11,.cells Uw),(11900,.tok 3 (r1.map AG).length)],Aa⟩ (Yi ⟨Z6,Z3,Fh,Tv⟩ ?_)
   exact e0.trans (.of_eq (er hr).symm)
  |some q2 =>
   obtain⟨t2,r2⟩:=q2;have c2:=eX b p nQ kL h2;obtain⟨g1,g2,g3⟩:=Vw nQ h2;refine Ps be Tryz.func138 rfl (Nz rfl) ?_;refine Xi (.gen [] 1) (Yi rfl (c1.imp ?_));intro v1 g1 q1;have xh:=q1.1;have YH:=q1.2;subst xh;subst YH;refine Yi (Nz rfl) ?_;refine Xi ⟨[(1,sl AG b),(2,vs p),(8,.ref 8 0),(9,.msl 11900 r1.length),(10,vb true)],[(8,.cells (AG t1)),(11900,.arr 3 (r1.map AG))],Aa⟩ (Yi ⟨Z5,Z2,Fh,Tv⟩ ?_)
   have z1:r1.length=(r1.map AG).length:=by rw[Lm]
   have z2:r2.length=(r2.map AG).length:=by rw[Lm]
   refine Yi z1 ?_;refine Xi (.gen [] 1) (Yi rfl (c2.imp ?_));intro v2 g2 q2;have xo:=q2.1;have pP:=q2.2;subst xo;subst pP;refine Yi (Nz rfl) ?_;refine Xi ⟨[(8,.ref 8 0),(9,.slice (.id 11900 3) (r1.map AG)),(10,vb true),(11,.ref 11 0),(12,.msl 12600 r2.length),(13,vb true)],[(8,.cells (AG t1)),(11,.cells (AG t2)),(11900,.tok 3 (r1.map AG).length),(12600,.arr 3 (r2.map AG))],Aa⟩ (Yi ⟨Z6,Z4,Fh,Tv⟩ ?_)
   refine Yi z2 ?_;refine Xi ⟨[(8,.ref 8 0),(9,.slice (.id 11900 3) (r1.map AG)),(11,.ref 11 0),(12,.slice (.id 12600 3) (r2.map AG))],[(8,.cells (AG t1)),(11,.cells (AG t2)),(11900,.tok 3 (r1.map AG).length),(12600,.tok 3 (r2.map AG).length)],Aa⟩ (Yi ⟨Z4,Z4,Fh,Tv⟩ ?_)
   have l1:=Vx h1;have l2:=Vx h2;have b1:B1 3 (r2.map AG)∧(r1.map AG).length=(r1.map AG).length∧((r1.map AG).length+(r2.map AG).length)*48≤140737488355328∧(r1.map AG).length+(r2.map AG).length≤9223372036854775807 :=
    ⟨DQ (enc:=AG) (n:=3) (fun _=>rfl) r2,rfl,by rw[Lm,Lm];omega,by rw[Lm,Lm];omega⟩
   refine Yi b1 ?_;refine Yi (Nz rfl) (Yi (Nz rfl) ?_);refine Xi _ (Yi (uO t1 t2 f1 g1) ?_);have b2:B1 3 [AG (Ds t1 t2)]∧(r1.map AG++r2.map AG).length=(r1.map AG).length+(r2.map AG).length∧((r1.map AG++r2.map AG).length+[AG (Ds t1 t2)].length)*48≤140737488355328∧(r1.map AG++r2.map AG).length+[AG (Ds t1 t2)].length≤9223372036854775807 :=
    ⟨⟨rfl,trivial⟩,by rw[Ad],by rw[Ad,Lm,Lm,AC];omega,by rw[Ad,Lm,Lm,AC];omega⟩
   refine Yi b2 ?_;have nN:=ta (r1++r2++[Ds t1 t2]) (by unfold CK;simp only[Ad,AC];omega) (fun u hu=>by
    rcases A5.1 hu with hu | hu
    ·rcases A5.1 hu with hu | hu
     ·exact f3 u hu
     ·exact g3 u hu
    ·rw[Au.1 hu];exact bW _ _)
   have e1:sl AG (r1++r2++[Ds t1 t2])=.slice .none (r1.map AG++r2.map AG++[AG (Ds t1 t2)]):=by simp
   have yV:PC 192 [.slice .none (r1.map AG++r2.map AG++[AG (Ds t1 t2)])] (GR (r1++r2++[Ds t1 t2])):=e1▸nN;cases pv:CV (r1++r2++[Ds t1 t2])with
   |none =>
    have hr:BE a b p=([],8):=by unfold BE;rw[h1,h2];dsimp only;rw[pv]
    have ec:GR (r1++r2++[Ds t1 t2])=.tup [sl AG [],vb false]:=by unfold GR PZ;rw[pv];rfl
    have hc:PC 192 [.slice .none (r1.map AG++r2.map AG++[AG (Ds t1 t2)])] (.tup [sl AG [],vb false]):=ec▸yV;have e8:GU (.tup [.v (.slice none 0 0),vi 8]) (.tup [.slice .none [],vi 8]):=GU.tup ⟨.nil,.refl _,trivial⟩;refine Xi _ (Yi (hc) ?_);refine Yi (by kernel_rfl) ?_;refine Xi ⟨[(14,sl AG []),(15,vb false)],[],Aa⟩ (Yi ⟨Z2,Tv,Fh,Tv⟩ ?_)
    exact e8.trans (.of_eq (er hr).symm)
   |some o =>
    have hr:BE a b p=(o,0):=by unfold BE;rw[h1,h2];dsimp only;rw[pv]
    have ec:GR (r1++r2++[Ds t1 t2])=.tup [sl AG o,vb true]:=by unfold GR PZ;rw[pv];rfl
    have hc:PC 192 [.slice .none (r1.map AG++r2.map AG++[AG (Ds t1 t2)])] (.tup [sl AG o,vb true]):=ec▸yV;refine Xi _ (Yi (hc) ?_);refine Yi (by kernel_rfl) ?_;refine Xi ⟨[(14,sl AG o),(15,vb true)],[],Aa⟩ (Yi ⟨Z2,Tv,Fh,Tv⟩ ?_)
    exact .of_eq (er hr).symm
end Go.Eng

namespace Go.Eng
open Go.Proofs
def az(h s:Nat→HO):Nat→Bool
 |0=>true
 |n+1=>(match h (1000+n)with |.free=>true |_=>(match s (1000+n)with |.free=>false |_=>true))&&az h s n
theorem Sx{h s:Nat→HO}:∀{n:Nat},az h s n=true→∀j,j<n→h (1000+j)≠.free→s (1000+j)≠.free
 |n+1,hd,j,hj,hn=>by
  simp only[az,Ag]at hd;rcases BV j n with h1 | h1
  ·exact Sx hd.2 j h1 hn
  ·have:j=n:=by omega
   subst this
   have:=hd.1
   intro e;split at this
   ·rename_i q;exact hn q
   ·rw[e]at this;cases this
theorem As{h s:Nat→HO}(hd:az h s 1000=true):∀j,1000≤j→j<2000→h j≠.free→s j≠.free:=fun j h1 h2=>by
 have:=Sx hd (j-1000) (by omega)
 rw[show 1000+(j-1000)=j by omega]at this;exact this
abbrev yt:List AV:=[vs ⟨#[]⟩,vi 0,vi 0,vi 0,.v (.slice none 0 0),vs ⟨#[]⟩,vs ⟨#[]⟩,vs ⟨#[]⟩,vb false]
abbrev Yo:Option Rl→AV
 |some r=>.tup [.agg (AY r),vb true]
 |none=>.tup [.agg yt,vb false]
theorem fE{α:Type}{p:α→Bool}{l:List α}{i:Nat}(hi:i<l.length)(hb:∀j (hj:j<l.length),j<i→p l[j]=false)(h:p l[i]=true):l.find? p=some l[i]:=by
 rw[List.find?_eq_some_iff_getElem];exact⟨h,i,hi,rfl,fun j hj=>by rw[hb j (by omega) hj];rfl⟩
theorem bZ{α:Type}{p:α→Bool}{l:List α}(hb:∀j (hj:j<l.length),p l[j]=false):l.find? p=none:=by
 rw[Ep];intro x hx;obtain⟨j,hj,rfl⟩:=BY hx;rw[hb j hj];decide
end Go.Eng

namespace Go.Eng
open Go.Proofs
end Go.Eng

namespace Go.Eng
open Go.Proofs
theorem lC(v:Ver):0≤plc v∧plc v<1000000:=by
 unfold plc;cases h:CH v with
 |true=>exact JA h
 |false=>simp
end Go.Eng

namespace Go.Eng
open Go.Proofs
abbrev mL(t:List Tm):Prop:=t.length≤500000000∧∀u∈t,CK u.set
end Go.Eng

namespace Go.Eng
open Go.Proofs
end Go.Eng

namespace Go.Eng
open Go.Proofs
theorem qn(s:ByteArray):PC 214 [vs s] (vb false):=by
 refine Ps EI Tryz.func214 rfl (Nz rfl) ?_;refine Yi ?_ ?_
 ·intro h;exact absurd rfl (show s≠s from h)
 ·intro _;exact .refl _
theorem qs(z:Int):PC 249 [vi z] (vb false):=by
 refine Ps EI Tryz.func249 rfl (Nz rfl) ?_;refine Yi ?_ ?_
 ·intro h;exact absurd rfl (show z≠z from h)
 ·intro _;exact .refl _
theorem ut(a b:ByteArray):PC 165 [vs a,vs b] (vi (LQ a b)):=by
 refine Ps EI Tryz.func165 rfl (Nz rfl) ?_;refine Xi .pure (Xi _ (Yi (qn a) ?_));refine Xi .pure (Xi _ (Yi (qn b) ?_));refine Yi ?_ ?_
 ·intro h;have h:Op.bytesLess a.toList b.toList=true:=h;exact .of_eq (Ac vi (show(-1:Int)=LQ a b by unfold LQ;rw[AB (by rw[Fi];exact h)]))
 ·intro h;have h:¬Op.bytesLess a.toList b.toList=true:=h;refine Yi ?_ ?_
  ·intro h2;have h2:Op.bytesLess b.toList a.toList=true:=h2;exact .of_eq (Ac vi (show(1:Int)=LQ a b by unfold LQ;rw[Ar (by rw[Fi];exact h),AB (by rw[Fi];exact h2)]))
  ·intro h2;have h2:¬Op.bytesLess b.toList a.toList=true:=h2;exact .of_eq (Ac vi (show(0:Int)=LQ a b by unfold LQ;rw[Ar (by rw[Fi];exact h),Ar (by rw[Fi];exact h2)]))
theorem nf(a b:Int):PC 215 [vi a,vi b] (vi (Fx a b)):=by
 refine Ps EI Tryz.func215 rfl (Nz rfl) ?_;refine Xi .pure (Xi _ (Yi (qs a) ?_));refine Xi .pure (Xi _ (Yi (qs b) ?_));refine Yi ?_ ?_
 ·intro h;have h:a<b:=h;exact .of_eq (Ac vi (show(-1:Int)=Fx a b by unfold Fx;rw[AB h]))
 ·intro h;have h:¬a<b:=h;refine Yi ?_ ?_
  ·intro h2;have h2:b<a:=h2;exact .of_eq (Ac vi (show(1:Int)=Fx a b by unfold Fx;rw[Ar h,AB h2]))
  ·intro h2;have h2:¬b<a:=h2;exact .of_eq (Ac vi (show(0:Int)=Fx a b by unfold Fx;rw[Ar h,Ar h2]))
theorem ur(a b:Int):PC 164 [.slice .none [[vi a],[vi b]]] (vi (if a≠0 then a else b)):=by
 refine Ps EI Tryz.func164 rfl (Nz rfl) ?_;refine Xi {i:Nat // i≤2∧(0<i→a=0)∧(1<i→b=0)} (Xi (fun i=>⟨[(3,vi 0),(6,.slice .none [[vi a],[vi b]]),(7,vi 2),(8,vi i.1)],[],Aa⟩) (Xi (fun i=>2-i.1) (Yi (Xi ⟨0,by omega,by omega,by omega⟩ ?_) ?_)))
 ·exact⟨Z4,Tv,Fh,Tv⟩
 intro⟨i,h1,h2,h3⟩;refine Yi ?_ ?_
 ·intro h;have h:(i:Int)<2:=h
  match i,h1,h2,h3,h with
  |0,h1,h2,h3,h =>
   refine Xi [vi a] (Yi (Yi (BQ _) rfl) (Yi rfl ?_));refine Yi ?_ ?_
   ·intro h4;have h4:a≠0:=h4;exact .of_eq (Ac vi (AB h4).symm)
   ·intro h4;have h4:¬a≠0:=h4;refine Yi (Ii 0 (by omega)) ?_;refine Xi ⟨1,by omega,fun _=>by omega,fun q=>absurd q (by decide)⟩ ?_;exact⟨by show 2-1<2-0;decide,Z4,Tv,Fh,Tv⟩
  |1,h1,h2,h3,h =>
   have ha:=h2 (by decide);refine Xi [vi b] (Yi (Yi (by show(0:Int)≤1;decide) rfl) (Yi rfl ?_));refine Yi ?_ ?_
   ·intro h4;exact .of_eq (Ac vi (Ar (by omega)).symm)
   ·intro h4;have h4:¬b≠0:=h4;refine Yi (Ii 1 (by omega)) ?_;refine Xi ⟨2,by omega,fun _=>ha,fun q=>by omega⟩ ?_;exact⟨by show 2-2<2-1;decide,Z4,Tv,Fh,Tv⟩
  |i+2,h1,h2,h3,h=>omega
 ·intro h;have h:¬(i:Int)<2:=h;have ha:=h2 (by omega);have hb:=h3 (by omega);exact .of_eq (Ac vi (show(0:Int)=if a≠0 then a else b by rw[Ar (by omega),hb]))
theorem Sp(a b:Ver)(i:Nat)(hi:i<3)(h:∀j,j<i→Fx (part a j) (part b j)=0)(hn:Fx (part a i) (part b i)≠0):IW a b=Fx (part a i) (part b i):=by
 unfold IW
 match i,hi,h,hn with
 |0,_,_,hn=>exact AB hn
 |1,_,h,hn =>
  have h0:Fx a.a b.a=0:=h 0 (by decide);rw[Ar (by omega)];exact AB hn
 |2,_,h,hn =>
  have h0:Fx a.a b.a=0:=h 0 (by decide);have h1:Fx a.b b.b=0:=h 1 (by decide);rw[Ar (by omega),Ar (by omega)];rfl
theorem fo(a b:Ver)(h:∀j,j<3→Fx (part a j) (part b j)=0):IW a b=0:=by
 unfold IW;have h0:Fx a.a b.a=0:=h 0 (by decide);have h1:Fx a.b b.b=0:=h 1 (by decide);have h2:Fx a.c b.c=0:=h 2 (by decide);rw[Ar (by omega),Ar (by omega),h2]
theorem uu(a b:Ver):PC 166 [.agg (Gi a),.agg (Gi b)] (vi (IW a b)):=by
 refine Ps EI Tryz.func166 rfl (Nz rfl) ?_;refine Yi (Nz rfl) ?_;refine Xi _ (Yi (m9 a) ?_);refine Yi (Nz rfl) ?_;refine Xi _ (Yi (m9 b) ?_);refine Yi (Nz rfl) (Yi (Nz rfl) ?_);refine Yi (by kernel_rfl) ?_;refine Xi {i:Nat // i≤3∧∀j,j<i→Fx (part a j) (part b j)=0} (Xi (fun i=>⟨[(5,.ref 5 0),(6,.ref 6 0),(13,vi i.1)],[(5,.cells (Gi a)),(6,.cells (Gi b))],Aa⟩) (Xi (fun i=>3-i.1) (Yi (Xi ⟨0,by omega,fun j h=>by omega⟩ ?_) ?_)))
 ·exact⟨Z3,Z2,Fh,Tv⟩
 intro⟨i,h1,h2⟩;refine Yi ?_ ?_
 ·intro h;have h:(i:Int)<3:=h;have next:Fx (part a i) (part b i)=0→∀j,j<i+1→Fx (part a j) (part b j)=0:=fun hz j hj=>by
   rcases BV j i with q | q
   ·exact h2 j q
   ·have:j=i:=by omega
    subst this;exact hz
  match i,h1,h2,h,next with
  |0,h1,h2,h,next =>
   refine Yi ⟨by show(0:Int)≤0;decide,by show(0:Int)<3;decide⟩ ?_;refine Yi ⟨by show(0:Int)≤0;decide,by show(0:Int)<3;decide⟩ ?_;refine Xi _ (Yi (nf (part a 0) (part b 0)) ?_);refine Yi (by kernel_rfl) ?_;refine Yi ?_ ?_
   ·intro h4;have h4:Fx (part a 0) (part b 0)≠0:=h4;exact .of_eq (Ac vi (Sp a b 0 (by decide) h2 h4).symm)
   ·intro h4;have h4:¬Fx (part a 0) (part b 0)≠0:=h4;refine Yi (Ii 0 (by omega)) ?_;refine Xi ⟨1,by omega,next (Gs h4)⟩ ?_
    exact⟨by show 3-1<3-0;decide,Z3,Z2,Fh,Tv⟩
  |1,h1,h2,h,next =>
   refine Yi ⟨by show(0:Int)≤1;decide,by show(1:Int)<3;decide⟩ ?_;refine Yi ⟨by show(0:Int)≤1;decide,by show(1:Int)<3;decide⟩ ?_;refine Xi _ (Yi (nf (part a 1) (part b 1)) ?_);refine Yi (by kernel_rfl) ?_;refine Yi ?_ ?_
   ·intro h4;have h4:Fx (part a 1) (part b 1)≠0:=h4;exact .of_eq (Ac vi (Sp a b 1 (by decide) h2 h4).symm)
   ·intro h4;have h4:¬Fx (part a 1) (part b 1)≠0:=h4;refine Yi (Ii 1 (by omega)) ?_;refine Xi ⟨2,by omega,next (Gs h4)⟩ ?_
    exact⟨by show 3-2<3-1;decide,Z3,Z2,Fh,Tv⟩
  |2,h1,h2,h,next =>
   refine Yi ⟨by show(0:Int)≤2;decide,by show(2:Int)<3;decide⟩ ?_;refine Yi ⟨by show(0:Int)≤2;decide,by show(2:Int)<3;decide⟩ ?_;refine Xi _ (Yi (nf (part a 2) (part b 2)) ?_);refine Yi (by kernel_rfl) ?_;refine Yi ?_ ?_
   ·intro h4;have h4:Fx (part a 2) (part b 2)≠0:=h4;exact .of_eq (Ac vi (Sp a b 2 (by decide) h2 h4).symm)
   ·intro h4;have h4:¬Fx (part a 2) (part b 2)≠0:=h4;refine Yi (Ii 2 (by omega)) ?_;refine Xi ⟨3,by omega,next (Gs h4)⟩ ?_
    exact⟨by show 3-3<3-2;decide,Z3,Z2,Fh,Tv⟩
  |i+3,h1,h2,h,next=>omega
 ·intro h;have h:¬(i:Int)<3:=h;exact .of_eq (Ac vi (fo a b fun j hj=>h2 j (by omega)).symm)
end Go.Eng

namespace Go.Eng
open Go.Proofs
theorem ue(a b:Rl):PC 114 [.agg (AY a),.agg (AY b)] (vi (Iq a b)):=by
 refine Ps EI Tryz.func114 rfl (Nz rfl) ?_;refine Xi _ (Yi (ut a.path b.path) ?_);refine Yi (Nz rfl) (Yi (Nz rfl) ?_);refine Xi _ (Yi (uu a.ver b.ver) ?_);refine Xi _ (Yi (ur (LQ a.path b.path) (IW a.ver b.ver)) ?_);refine Yi (by kernel_rfl) ?_;exact .refl _
abbrev FZ(s:ByteArray):Prop:=s.size≤1073741824
abbrev H4(q:Rq):Prop:=CK q.set∧FZ q.path
abbrev Gf(r:Rl):Prop:=FZ r.path∧∀q∈r.reqs,H4 q
abbrev Tn(nm:ByteArray→ByteArray)(p:ByteArray):AV:=match Bw p with
 |some m=>.tup [vs (nm p),vi m,vi 0]
 |none=>.tup [vs ⟨#[]⟩,vi 0,vi 4]
abbrev T8(nm:ByteArray→ByteArray):Prop:=∀p:ByteArray,FZ p→PC 163 [vs p] (Tn nm p)
theorem T8.none{nm:ByteArray→ByteArray}(h:T8 nm){p:ByteArray}(hp:FZ p)(e:Bw p=.none):PC 163 [vs p] (.tup [vs ⟨#[]⟩,vi 0,vi 4]):=by
 have:=h p hp;unfold Tn at this;rw[e]at this;exact this
theorem T8.some{nm:ByteArray→ByteArray}(h:T8 nm){p:ByteArray}{m:Int}(hp:FZ p)(e:Bw p=.some m):PC 163 [vs p] (.tup [vs (nm p),vi m,vi 0]):=by
 have:=h p hp;unfold Tn at this;rw[e]at this;exact this
theorem qh{nm:ByteArray→ByteArray}(hL:T8 nm)(q:Rq)(hq:CK q.set)(hp:FZ q.path):PC 115 [.agg (Ap q),.v (.pointer none)] (vi (F3 none q)):=by
 cases T3:Bw q.path with
 |none =>
  have e:(4:Int)=F3 none q:=by unfold F3;rw[T3];rfl
  have hl:=hL.none hp T3;refine Ps EI Tryz.func115 rfl (Nz rfl) ?_;refine Xi .pure (Xi _ (Yi (hl) ?_));refine Yi ?_ ?_
  ·intro _;exact .of_eq (Ac vi e)
  ·intro h;exact absurd (show(4:Int)≠0 by decide) h
 |some m =>
  have er:F3 none q=if(q.set.isEmpty||!decide (q.set=canon q.set)||false)=true then 1 else 0:=by unfold F3;rw[T3];rfl
  have hl:=hL.some hp T3;have hc:=W5 q.set hq;have he:=ql q.set (canon q.set) hq;have PJ:∀{n:Int},n=(q.set.map Ae).length→n=0→q.set.isEmpty=true:=fun h1 h2=>by
   rw[Lm]at h1;rw[F0];exact AJ (by omega)
  have gz:¬((q.set.map Ae).length:Int)=0→q.set.isEmpty=false:=fun h=>by
   cases hqs:q.set with
   |nil=>rw[hqs]at h;exact absurd rfl h
   |cons a l=>rfl
  rcases Bt (decide (q.set=canon q.set))with h2 | h2
  ·rw[h2]at he;refine Ps (H2 [2,4]) Tryz.func115 rfl (Nz rfl) ?_;refine Xi .pure (Xi _ (Yi (hl) ?_));refine Xi ⟨[(1,.v (.pointer none)),(2,.ref 2 0),(7,vi 0)],[(2,.cells (Ap q))],Aa⟩ (Yi ⟨Z3,Z1,Fh,Tv⟩ ?_)
   refine Yi ?_ ?_
   ·intro h;exact absurd rfl h
   intro _;refine Xi ⟨[(1,.v (.pointer none)),(2,.ref 2 0)],[(2,.cells (Ap q))],Aa⟩ (Yi ⟨Z2,Z1,Fh,Tv⟩ ?_)
   refine Yi ?_ ?_
   ·intro h;have h:((q.set.map Ae).length:Int)=0:=h;have e:(1:Int)=F3 none q:=by rw[er,PJ rfl h];rfl
    refine Yi (by kernel_rfl) ?_;exact .of_eq (Ac vi e)
   intro h;have h:¬((q.set.map Ae).length:Int)=0:=h;have hn:=gz h;refine Xi _ (Yi (hc) ?_);refine Xi _ (Yi (he) ?_);refine Yi (by kernel_rfl) ?_;have e:(0:Int)=F3 none q:=by rw[er,hn,h2];rfl
   exact .of_eq (Ac vi e)
  ·rw[h2]at he;refine Ps (H2 [2,4]) Tryz.func115 rfl (Nz rfl) ?_;refine Xi .pure (Xi _ (Yi (hl) ?_));refine Xi ⟨[(1,.v (.pointer none)),(2,.ref 2 0),(7,vi 0)],[(2,.cells (Ap q))],Aa⟩ (Yi ⟨Z3,Z1,Fh,Tv⟩ ?_)
   refine Yi ?_ ?_
   ·intro h;exact absurd rfl h
   intro _;refine Xi ⟨[(1,.v (.pointer none)),(2,.ref 2 0)],[(2,.cells (Ap q))],Aa⟩ (Yi ⟨Z2,Z1,Fh,Tv⟩ ?_)
   refine Yi ?_ ?_
   ·intro h;have h:((q.set.map Ae).length:Int)=0:=h;have e:(1:Int)=F3 none q:=by rw[er,PJ rfl h];rfl
    refine Yi (by kernel_rfl) ?_;exact .of_eq (Ac vi e)
   intro h;have h:¬((q.set.map Ae).length:Int)=0:=h;have hn:=gz h;refine Xi _ (Yi (hc) ?_);refine Xi _ (Yi (he) ?_);refine Yi (by kernel_rfl) ?_;have e:(1:Int)=F3 none q:=by rw[er,hn,h2];rfl
   exact .of_eq (Ac vi e)
theorem qi{nm:ByteArray→ByteArray}(hL:T8 nm)(q b:Rq)(hq:CK q.set)(hp:FZ q.path):PC 115 [.agg (Ap q),.cptr (Ap b)] (vi (F3 (some b.path) q)):=by
 cases T3:Bw q.path with
 |none =>
  have e:(4:Int)=F3 (some b.path) q:=by unfold F3;rw[T3];rfl
  have hl:=hL.none hp T3;refine Ps EI Tryz.func115 rfl (Nz rfl) ?_;refine Xi .pure (Xi _ (Yi (hl) ?_));refine Yi ?_ ?_
  ·intro _;exact .of_eq (Ac vi e)
  ·intro h;exact absurd (show(4:Int)≠0 by decide) h
 |some m =>
  have er:F3 (some b.path) q=if(q.set.isEmpty||!decide (q.set=canon q.set)||!EH b.path q.path)=true then 1 else 0:=by unfold F3;rw[T3];rfl
  have hl:=hL.some hp T3;have hc:=W5 q.set hq;have he:=ql q.set (canon q.set) hq;have PJ:∀{n:Int},n=(q.set.map Ae).length→n=0→q.set.isEmpty=true:=fun h1 h2=>by
   rw[Lm]at h1;rw[F0];exact AJ (by omega)
  have gz:¬((q.set.map Ae).length:Int)=0→q.set.isEmpty=false:=fun h=>by
   cases hqs:q.set with
   |nil=>rw[hqs]at h;exact absurd rfl h
   |cons a l=>rfl
  rcases Bt (decide (q.set=canon q.set))with h2 | h2
  ·rw[h2]at he;refine Ps (H2 [2,4]) Tryz.func115 rfl (Nz rfl) ?_;refine Xi .pure (Xi _ (Yi (hl) ?_));refine Xi ⟨[(1,.cptr (Ap b)),(2,.ref 2 0),(7,vi 0)],[(2,.cells (Ap q))],Aa⟩ (Yi ⟨Z3,Z1,Fh,Tv⟩ ?_)
   refine Yi ?_ ?_
   ·intro h;exact absurd rfl h
   intro _;refine Xi ⟨[(1,.cptr (Ap b)),(2,.ref 2 0)],[(2,.cells (Ap q))],Aa⟩ (Yi ⟨Z2,Z1,Fh,Tv⟩ ?_)
   refine Yi ?_ ?_
   ·intro h;have h:((q.set.map Ae).length:Int)=0:=h;have e:(1:Int)=F3 (some b.path) q:=by rw[er,PJ rfl h];rfl
    refine Yi (by kernel_rfl) ?_;exact .of_eq (Ac vi e)
   intro h;have h:¬((q.set.map Ae).length:Int)=0:=h;have hn:=gz h;refine Xi _ (Yi (hc) ?_);refine Xi _ (Yi (he) ?_);refine Yi ?_ ?_
   ·intro h3;have h3:Op.bytesLess b.path.toList q.path.toList=false:=h3;refine Yi (by kernel_rfl) ?_;have e:(1:Int)=F3 (some b.path) q:=by rw[er,hn,h2,Fi,h3];rfl
    exact .of_eq (Ac vi e)
   ·intro h3;have h3:¬Op.bytesLess b.path.toList q.path.toList=false:=h3;have h3:Op.bytesLess b.path.toList q.path.toList=true:=by simpa using h3
    refine Yi (by kernel_rfl) ?_;have e:(0:Int)=F3 (some b.path) q:=by rw[er,hn,h2,Fi,h3];rfl
    exact .of_eq (Ac vi e)
  ·rw[h2]at he;refine Ps (H2 [2,4]) Tryz.func115 rfl (Nz rfl) ?_;refine Xi .pure (Xi _ (Yi (hl) ?_));refine Xi ⟨[(1,.cptr (Ap b)),(2,.ref 2 0),(7,vi 0)],[(2,.cells (Ap q))],Aa⟩ (Yi ⟨Z3,Z1,Fh,Tv⟩ ?_)
   refine Yi ?_ ?_
   ·intro h;exact absurd rfl h
   intro _;refine Xi ⟨[(1,.cptr (Ap b)),(2,.ref 2 0)],[(2,.cells (Ap q))],Aa⟩ (Yi ⟨Z2,Z1,Fh,Tv⟩ ?_)
   refine Yi ?_ ?_
   ·intro h;have h:((q.set.map Ae).length:Int)=0:=h;have e:(1:Int)=F3 (some b.path) q:=by rw[er,PJ rfl h];rfl
    refine Yi (by kernel_rfl) ?_;exact .of_eq (Ac vi e)
   intro h;have h:¬((q.set.map Ae).length:Int)=0:=h;have hn:=gz h;refine Xi _ (Yi (hc) ?_);refine Xi _ (Yi (he) ?_);refine Yi (by kernel_rfl) ?_;have e:(1:Int)=F3 (some b.path) q:=by rw[er,hn,h2];rfl
   exact .of_eq (Ac vi e)
end Go.Eng

namespace Go.Eng
open Go.Proofs
abbrev ME(l:List Rq)(k:Nat):List AV:=((l.map Ap)[k]?).getD []
abbrev qe(l:List Rq):Nat→AV
 |0=>.v (.pointer none)
 |k+1=>.cptr (ME l k)
abbrev GY(l:List Rq):Nat→Option ByteArray
 |0=>none
 |k+1=>(l[k]?).map (·.path)
theorem NE{l:List Rq}{k:Nat}(h:k<l.length):ME l k=Ap l[k]:=by
 unfold ME;rw[AI,Ge h];rfl
theorem L0{l:List Rq}{k:Nat}(h:k<l.length):GY l (k+1)=some l[k].path:=by
 show(l[k]?).map _=_;rw[Ge h];rfl
theorem yA{nm:ByteArray→ByteArray}(hL:T8 nm)(l:List Rq)(hs:∀q∈l,H4 q):PC 60 [sl Ap l] (vi (Bm l)):=by
 refine Ps (H2 [8]) Tryz.func60 rfl (Nz rfl) ?_;refine Yi ?_ ?_
 ·intro h;have h:(16:Int)<(l.map Ap).length:=h;exact .of_eq (Ac vi (show(7:Int)=Bm l by unfold Bm;rw[AB (by rw[Lm]at h;omega)]))
 intro h;have h:¬(16:Int)<(l.map Ap).length:=h;have hl:l.length≤16:=by rw[Lm]at h;omega
 have N7:Bm l=D2 none l:=by unfold Bm;rw[Ar (by omega)]
 refine Xi {i:Nat // i≤l.length∧D2 none l=D2 (GY l i) (l.drop i)} (Xi (fun i=>⟨[(0,sl Ap l),(3,qe l i.1),(10,sl Ap l),(11,vi (l.map Ap).length),(12,vi i.1)],[],Aa⟩) (Xi (fun i=>l.length-i.1) (Yi (Xi ⟨0,AL _,rfl⟩ ?_) ?_)))
 ·exact⟨Z5,Tv,Fh,Tv⟩
 intro⟨i,h1,h2⟩;refine Yi ?_ ?_
 ·intro h;have h:(i:Int)<(l.map Ap).length:=h;have h:i<l.length:=by simpa using h
  have hg:l[i]?=some l[i]:=Ge h;have hd:l.drop i=l[i]::l.drop (i+1):=Bk h;have hq:=hs l[i] (Aj h);have hc:PC 115 [.agg (Ap l[i]),qe l i] (vi (F3 (GY l i) l[i])):=by
   cases i with
   |zero=>exact qh hL _ hq.1 hq.2
   |succ k =>
    rw[L0 (by omega:k<l.length)];show PC 115 [_,.cptr (ME l k)] _;rw[NE (by omega:k<l.length)];exact qi hL _ _ hq.1 hq.2
  have GV:D2 none l=if F3 (GY l i) l[i]=0 then D2 (some l[i].path) (l.drop (i+1))else F3 (GY l i) l[i]:=by rw[h2,hd];rfl
  match i,h1,h2,h,hg,hd,hc,GV with
  |0,h1,h2,h,hg,hd,hc,GV =>
   refine Xi (Ap l[0]) (Yi (Yi (by show(0:Int)≤((0:Nat):Int);omega) (by simp[hg])) (Yi rfl ?_));refine Yi (Nz rfl) (Yi (Nz rfl) (Yi (Nz rfl) ?_));refine Xi .pure (Xi _ (Yi (hc) ?_));refine Xi ⟨[(0,sl Ap l),(4,vi ((0:Nat):Int)),(6,vi (F3 (GY l (0)) l[0])),(10,sl Ap l),(11,vi (l.map Ap).length),(12,vi ((0:Nat):Int))],[],Aa⟩ (Yi ⟨Z6,Tv,Fh,Tv⟩ ?_)
   refine Yi ?_ ?_
   ·intro h4;have h4:F3 (GY l (0)) l[0]≠0:=h4;exact .of_eq (Ac vi (show F3 (GY l (0)) l[0]=Bm l by rw[N7,GV,Ar h4]))
   ·intro h4;have h4:¬F3 (GY l (0)) l[0]≠0:=h4;refine Xi (Ap l[0]) (Yi (Yi (by show(0:Int)≤((0:Nat):Int);omega) (by simp[hg])) (Yi rfl ?_));refine Yi (by show Bf (((0:Nat):Int)+1);unfold Bf;omega) ?_;refine Xi ⟨0+1,by omega,by rw[GV,AB (Gs h4),L0 h]⟩ ?_;have e1:AV.cptr (Ap l[0])=.cptr (ME l (0)):=by rw[NE h]
    exact⟨by show l.length-(0+1)<l.length-(0);omega,⟨Zr,⟨e1,rfl⟩,Zr,Zr,Zr,Tv⟩,Tv,Fh,Tv⟩
  |k+1,h1,h2,h,hg,hd,hc,GV =>
   refine Xi (Ap l[k+1]) (Yi (Yi (by show(0:Int)≤((k+1:Nat):Int);omega) (by simp[hg])) (Yi rfl ?_));refine Yi (Nz rfl) (Yi (Nz rfl) (Yi (Nz rfl) ?_));refine Xi .pure (Xi _ (Yi (hc) ?_));refine Xi ⟨[(0,sl Ap l),(4,vi ((k+1:Nat):Int)),(6,vi (F3 (GY l (k+1)) l[k+1])),(10,sl Ap l),(11,vi (l.map Ap).length),(12,vi ((k+1:Nat):Int))],[],Aa⟩ (Yi ⟨Z6,Tv,Fh,Tv⟩ ?_)
   refine Yi ?_ ?_
   ·intro h4;have h4:F3 (GY l (k+1)) l[k+1]≠0:=h4;exact .of_eq (Ac vi (show F3 (GY l (k+1)) l[k+1]=Bm l by rw[N7,GV,Ar h4]))
   ·intro h4;have h4:¬F3 (GY l (k+1)) l[k+1]≠0:=h4;refine Xi (Ap l[k+1]) (Yi (Yi (by show(0:Int)≤((k+1:Nat):Int);omega) (by simp[hg])) (Yi rfl ?_));refine Yi (by show Bf (((k+1:Nat):Int)+1);unfold Bf;omega) ?_;refine Xi ⟨k+1+1,by omega,by rw[GV,AB (Gs h4),L0 h]⟩ ?_;have e1:AV.cptr (Ap l[k+1])=.cptr (ME l (k+1)):=by rw[NE h]
    exact⟨by show l.length-(k+1+1)<l.length-(k+1);omega,⟨Zr,⟨e1,rfl⟩,Zr,Zr,Zr,Tv⟩,Tv,Fh,Tv⟩
 ·intro h;have h:¬(i:Int)<(l.map Ap).length:=h;have h:¬i<l.length:=by simpa using h
  have e:(0:Int)=Bm l:=by rw[N7,h2,Ho (by omega)];rfl
  exact .of_eq (Ac vi e)
end Go.Eng
