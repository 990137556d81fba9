/- Lemmas for the claims of this seat, without a condition: part 3 (Q3, Q4, Q5, Q6, Q7, P13, P14). -/
import Derived.Test.YtkmnnpmneamgoaaGreatDoorA02
namespace Go.Eng
theorem checkRqsGo_set:∀ {l:List Rq} {b:Option ByteArray},checkRqsGo b l=0→∀ q ∈ l,q.set≠[]∧Canon q.set
 | [],_,_,q,hq=>by cases hq
 | r :: l,b,h,q,hq=>by
  unfold checkRqsGo at h;split at h
  ·rename_i e;rcases List.mem_cons.1 hq with rfl | hq
   ·unfold rqOk at e
    by_cases h1:(pathMajor q.path).isNone=true
    ·rw [if_pos h1] at e; exact absurd e (by decide)
    rw [if_neg h1] at e;cases hE:q.set.isEmpty with
    | true=>rw [hE] at e; simp at e
    | false =>
     cases hD:decide (q.set=canon q.set) with
     | false=>rw [hD] at e; simp at e
     | true =>
      have h3:q.set=canon q.set:=of_decide_eq_true hD;exact ⟨by simpa using hE,by rw [h3]; exact canon_canon _⟩
   ·exact checkRqsGo_set h q hq
  ·rename_i e; exact absurd h e
theorem checkRqs_set {l:List Rq} (h:checkRqs l=0):∀ q ∈ l,q.set≠[]∧Canon q.set:=by
 unfold checkRqs at h;split at h
 ·cases h
 ·exact checkRqsGo_set h
abbrev vrK (k:Int):Ver:=⟨0,k / 1000,k % 1000⟩
theorem verK_place (k:Int):place (vrK k)=k:=by unfold place; show 1000*(k / 1000)+k % 1000=k; omega
theorem verK_valid {k:Int} (h:0≤k∧k<1000000):validB (vrK k)=true:=by
 unfold validB okPart;simp only [Bool.and_eq_true];exact ⟨⟨decide_eq_true (by omega),decide_eq_true (by omega)⟩,decide_eq_true (by omega)⟩
structure Opt (D:List Sl) (p:ByteArray) (S:List Sl):Prop where
 val:ValidS S
 same:∀ q,q≠p→findSl S q=findSl D q
abbrev optK (D:List Sl) (p:ByteArray) (v:Ver):List Sl:=D++[⟨p,v⟩]
theorem findSl_append (a b:List Sl) (p:ByteArray):findSl (a++b) p=(findSl a p).or (findSl b p):=by
 unfold findSl; rw [List.find?_append]
theorem hasPath_none {s:List Sl} {p:ByteArray} (h:hasPath s p=false):findSl s p=none:=by
 rw [hasPath_iff] at h;cases e:findSl s p with
 | none=>rfl
 | some y=>rw [e] at h; cases h
theorem Opt.self {D:List Sl} {p:ByteArray} (h:ValidS D):Opt D p D:=⟨h,fun _ _=>rfl⟩
theorem Opt.ver {D:List Sl} {p:ByteArray} (h:ValidS D) {v:Ver} (hv:validB v=true):Opt D p (optK D p v):=by
 refine ⟨fun y hy=>?_,fun q hq=>?_⟩
 ·rcases List.mem_append.1 hy with hy | hy
  ·exact h y hy
  ·rw [List.mem_singleton.1 hy]; exact hv
 ·rw [findSl_append]
  have:findSl [(⟨p,v⟩ : Sl)] q=none:=by unfold findSl; simp [Ne.symm hq]
  rw [this,Option.or_none]
theorem optK_find {D:List Sl} {p:ByteArray} (hp:hasPath D p=false) (v:Ver):findSl (optK D p v) p=some ⟨p,v⟩:=by
 rw [findSl_append,hasPath_none hp];unfold findSl; simp
theorem holds_place {D:List Sl} {p:ByteArray} (hp:hasPath D p=false) {v v' : Ver} (hv:validB v=true) (hv' : validB v'=true) (e:place v=place v') (q:ByteArray) (t:Tm) :
  holdsS t (findSl (optK D p v) q)=holdsS t (findSl (optK D p v') q):=by
 by_cases hq:q=p
 ·subst hq;rw [optK_find hp,optK_find hp];show (validB v&&has t.set (place v))=(validB v'&&has t.set (place v'));rw [hv,hv',e]
 ·have h1:∀ w:Ver,findSl (optK D p w) q=findSl D q:=fun w=>by
   rw [findSl_append]
   have:findSl [(⟨p,w⟩ : Sl)] q=none:=by unfold findSl; simp [Ne.symm hq]
   rw [this,Option.or_none]
  rw [h1,h1]
theorem viol_place {D:List Sl} {p:ByteArray} (hp:hasPath D p=false) {v v' : Ver} (hv:validB v=true) (hv' : validB v'=true) (e:place v=place v') (t:List Tm):violated t (optK D p v)=violated t (optK D p v'):=by
 rw [Bool.eq_iff_iff,violated_iff,violated_iff];exact ⟨fun h u hu=>by rw [← holds_place hp hv hv' e]; exact h u hu,fun h u hu=>by rw [holds_place hp hv hv' e]; exact h u hu⟩
theorem viol_same {D S S' : List Sl} {p:ByteArray} (h:Opt D p S) (h' : Opt D p S') {t:List Tm} (ht:∀ u ∈ t,u.path≠p):violated t S=violated t S':=by
 rw [Bool.eq_iff_iff,violated_iff,violated_iff];exact ⟨fun k u hu=>by rw [h'.same _ (ht u hu),← h.same _ (ht u hu)]; exact k u hu,fun k u hu=>by rw [h.same _ (ht u hu),← h'.same _ (ht u hu)]; exact k u hu⟩
theorem concB_false {t:List Tm} {p:ByteArray} (h:concB t p=false):∀ u ∈ t,u.path≠p:=fun u hu e=>by
 unfold concB at h;rw [List.any_eq_false] at h;exact h u hu (by simpa using e)
theorem concB_true {t:List Tm} {p:ByteArray} (h:concB t p=true):∃ u ∈ t,u.path=p:=by
 unfold concB at h;rw [List.any_eq_true] at h;obtain ⟨u,hu,e⟩:=h;exact ⟨u,hu,by simpa using e⟩
theorem split_some {t:List Tm} {p:ByteArray} (hf:Form t) (hc:concB t p=true):∃ u r,splitT t p=some (u,r)∧u.path=p∧∀ v ∈ r,v.path≠p:=by
 obtain ⟨u,hu,e⟩:=concB_true hc;have hs:=canonT_sorted hf;have hfd:=(findT_some_iff hs).1 hu;rw [e] at hfd;refine ⟨u,withoutT t p,?_,e,fun v hv=>?_⟩
 ·unfold splitT;rw [show canonT t=some t from hf];dsimp only;rw [hfd]
 ·have:=(List.mem_filter.1 hv).2
  simpa using this
theorem resolve_step {D:List Sl} {p:ByteArray} {t b:List Tm} (hft:Form t) (hfb:Form b) (hct:concB t p=true) (hcb:concB b p=true) {S1 S2:List Sl} (h1:Opt D p S1) (v1:violated t S1=true) (h2:Opt D p S2) (v2:violated b S2=true) :
  (resolveT t b p).2=0∧∀ S,Opt D p S→violated t S=true∨violated b S=true→violated (resolveT t b p).1 S=true:=by
 obtain ⟨u,r,e1,pu,nr⟩:=split_some hft hct;obtain ⟨w,m,e2,pw,nm⟩:=split_some hfb hcb;have key:∀ S,Opt D p S→violated t S=true∨violated b S=true→violated (r++m++[eitherT u w]) S=true:=fun S hS hv=>by
  have r1:violated r S=true:=by
   rw [viol_same hS h1 nr];rw [(violated_split h1.val e1).1,Bool.and_eq_true] at v1; exact v1.2
  have m1:violated m S=true:=by
   rw [viol_same hS h2 nm];rw [(violated_split h2.val e2).1,Bool.and_eq_true] at v2; exact v2.2
  rw [violated_append,violated_append,r1,m1];simp only [Bool.true_and];rw [violated_iff];intro y hy;rw [List.mem_singleton.1 hy,show (eitherT u w).path=p from pu,holdsS_either,Bool.or_eq_true];rcases hv with hv | hv
  ·rw [(violated_split hS.val e1).1,Bool.and_eq_true] at hv; exact .inl hv.1
  ·rw [(violated_split hS.val e2).1,Bool.and_eq_true] at hv; exact .inr hv.1
 unfold resolveT;rw [e1,e2];dsimp only;have c1:=violated_canonT (l:=r++m++[eitherT u w]) h1.val;rw [key S1 h1 (.inl v1)] at c1;cases hc:canonT (r++m++[eitherT u w]) with
 | none=>rw [hc] at c1; cases c1
 | some o =>
  dsimp only;refine ⟨rfl,fun S hS hv=>?_⟩;have c2:=violated_canonT (l:=r++m++[eitherT u w]) hS.val;rw [hc,key S hS hv] at c2;exact c2.symm
theorem not_conc {D:List Sl} {p:ByteArray} (hp:hasPath D p=false) {t:List Tm} (hf:Form t) (h0:violated t D=true) (hk:∀ k:Int,0≤k→k<1000000→violated t (optK D p (vrK k))=true):concB t p=false:=by
 rw [Bool.eq_false_iff];intro hc;obtain ⟨u,hu,e⟩:=concB_true hc;have ha:u.absent=true:=by
  have:=violated_iff.1 h0 u hu
  rw [e,hasPath_none hp] at this; exact this
 have hs:∀ k:Int,0≤k→k<1000000→has u.set k=true:=fun k k0 k1=>by
  have:=violated_iff.1 (hk k k0 k1) u hu
  rw [e,optK_find hp] at this;unfold holdsS at this;rw [Bool.and_eq_true] at this
  have:=this.2
  rw [show (⟨p,vrK k⟩ : Sl).ver=vrK k from rfl,verK_place] at this;exact this
 have hcn:Canon u.set:=SortedT.canon (canonT_sorted hf) u hu;have hfull:u.set=[(0,1000000)]:=by
  refine canon_unique hcn ⟨by decide,by decide,by decide,trivial⟩ fun k=>?_;rw [Bool.eq_iff_iff];constructor
  ·intro h
   have:=has_in h
   unfold has; simp [inSpan,this.1,this.2]
  ·intro h
   have:=has_in h
   exact hs k this.1 this.2
 have hal:alwaysT u=true:=by unfold alwaysT; rw [ha,hfull]; rfl
 have hf2:canonT t=some t:=hf;unfold canonT at hf2;split at hf2
 ·cases hf2
 ·have e2:=Option.some.inj hf2;rw [← e2] at hu
  have:=(List.mem_filter.1 hu).2
  rw [hal] at this; cases this
end Go.Eng

namespace Go.Eng
structure DecOk (x:List Rl) (dec:List Cd):Prop where
 cand:∀ c ∈ dec,c.rel ∈ x∧c.rel.yanked=false∧c.place=plc c.rel.ver
 nodup:(dec.map fun c=>c.rel.path).Nodup
theorem DecOk.nil (x:List Rl):DecOk x []:=⟨fun _ h=>(by cases h),List.nodup_nil⟩
theorem path_ne_mt {r:Rl} (h:RlOk r):r.path≠mt:=fun e=>by
 have:=h.maj
 rw [e] at this;have h2:pathMajor mt=none:=by decide
 rw [h2] at this; cases this
theorem RlOk.set {r:Rl} (h:RlOk r):∀ q ∈ r.reqs,q.set≠[]∧Canon q.set:=checkRqs_set h.reqs
theorem keysC_path (dec:List Cd):(keysC dec).map (·.path)=dec.map fun c=>c.rel.path:=by unfold keysC; rw [List.map_map]; rfl
theorem find_nodup:∀ {D:List Sl},(D.map (·.path)).Nodup→∀ {y:Sl},y ∈ D→findSl D y.path=some y
 | [],_,y,h=>by cases h
 | z :: D,hn,y,h=>by
  simp only [List.map_cons,List.nodup_cons] at hn;unfold findSl;rw [List.find?_cons];rcases List.mem_cons.1 h with rfl | h
  ·rw [decide_eq_true rfl]
  ·have:z.path≠y.path:=fun e=>hn.1 (List.mem_map.2 ⟨y,h,e.symm⟩)
   rw [decide_eq_false this];exact find_nodup hn.2 h
theorem DecOk.find {x:List Rl} {dec:List Cd} (h:DecOk x dec) {c:Cd} (hc:c ∈ dec):findSl (keysC dec) c.rel.path=some (keyC c) :=
 find_nodup (by rw [keysC_path]; exact h.nodup) (y:=keyC c) (List.mem_map.2 ⟨c,hc,rfl⟩)
theorem DecOk.valid {x:List Rl} (hx:checkIx x=0) {dec:List Cd} (h:DecOk x dec):ValidS (keysC dec):=fun y hy=>by
 obtain ⟨c,hc,rfl⟩:=List.mem_map.1 hy;exact ((checkIx_ok hx).1 _ (h.cand c hc).1).val
theorem DecOk.snoc {x:List Rl} {dec:List Cd} (h:DecOk x dec) {c:Cd} (hc:c.rel ∈ x∧c.rel.yanked=false∧c.place=plc c.rel.ver) (hd:doneC dec c.rel.path=false):DecOk x (dec++[c]):=by
 refine ⟨fun d hd=>?_,?_⟩
 ·rcases List.mem_append.1 hd with hd | hd
  ·exact h.cand d hd
  ·rw [List.mem_singleton.1 hd]; exact hc
 ·rw [List.map_append,List.nodup_append];refine ⟨h.nodup,by simp,fun a ha b hb e=>?_⟩;obtain ⟨d,hd',rfl⟩:=List.mem_map.1 ha;simp only [List.map_cons,List.map_nil,List.mem_singleton] at hb;unfold doneC at hd;rw [List.any_eq_false] at hd;exact hd d hd' (by simpa using e.trans hb)
theorem nd_cases {roots:List Rq} {E:List Cd} {n:Nd} (h:n ∈ needsN roots E):(∃ k q,roots[k]?=some q∧n=⟨q,mt,0,(k:Nat)⟩)∨∃ c ∈ E,∃ k q,c.rel.reqs[k]?=some q∧n=⟨q,c.rel.path,c.place,(k:Nat)⟩:=by
 unfold needsN at h;rcases List.mem_append.1 h with h | h
 ·obtain ⟨k,q,h1,h2⟩:=numG_mem h;exact .inl ⟨k,q,h1,h2⟩
 ·obtain ⟨l,hl,hn⟩:=List.mem_flatten.1 h;obtain ⟨c,hc,rfl⟩:=List.mem_map.1 hl;obtain ⟨k,q,h1,h2⟩:=numG_mem hn;exact .inr ⟨c,hc,k,q,h1,h2⟩
theorem needs_mono {roots:List Rq} {dec:List Cd} {c:Cd} {n:Nd} (h:n ∈ needsN roots dec):n ∈ needsN roots (dec++[c]):=by
 unfold needsN at *
 rw [List.map_append,List.flatten_append,← List.append_assoc];exact List.mem_append_left _ h
theorem needs_rel {roots:List Rq} {dec:List Cd} {c:Cd} {n:Nd} (h:n ∈ relN c):n ∈ needsN roots (dec++[c]):=by
 unfold needsN;rw [List.map_append,List.flatten_append,← List.append_assoc];exact List.mem_append_right _ (by simpa using h)
def rawN (n:Nd):List Tm:=if n.path=mt then [outside n.rq] else [⟨n.path,false,[(n.place,n.place+1)]⟩,outside n.rq]
theorem incN_raw (n:Nd):incN n=ofT (rawN n):=by unfold incN rawN rootT requiresT; split <;> rfl
theorem set_pos {s:SpanL} (h:s≠[]) (hc:Canon s):∃ k,has s k=true:=by
 match s,h,hc with
 | x :: r,_,hc =>
  have:=CanonF.low hc x (List.mem_cons_self ..)
  refine ⟨x.1,?_⟩;unfold has;have h1:inSpan x.1 x=true:=inSpan_iff.2 ⟨Int.le_refl _,this.2.1⟩;simp only [List.any_cons,h1,Bool.true_or,Bool.and_true,Bool.and_eq_true,decide_eq_true_eq];omega
theorem outside_out {q:Rq} {o:Option Sl} (h:o=none∨∃ y,o=some y∧validB y.ver=true∧has q.set (place y.ver)=false):holdsS (outside q) o=true:=by
 rcases h with rfl | ⟨y,rfl,hv,hq⟩
 ·rfl
 ·show (validB y.ver&&has (compl q.set) (place y.ver))=true
  have:=place_in hv
  rw [hv,has_compl,hq];unfold inPl;simp [this.1,this.2]
theorem outside_in {q:Rq} {y:Sl} (hq:has q.set (place y.ver)=true):holdsS (outside q) (some y)=false:=by
 show (validB y.ver&&has (compl q.set) (place y.ver))=false;rw [has_compl,hq]; simp
structure IncOk (x:List Rl) (roots:List Rq) (S:List Sl) (n:Nd):Prop where
 inf:∀ d,inferP x roots d (infN n)=some (incN n)
 viol:violated (incN n) S=true
 raw:∀ S',ValidS S'→violated (incN n) S'=violated (rawN n) S'
 form:Form (incN n)
 inU:∀ U:List ByteArray,(n.path≠mt→n.path ∈ U)→n.rq.path ∈ U→InU U (incN n)
 path:n.path≠mt→hasPath S n.path=true
theorem incN_ok {x:List Rl} {roots:List Rq} (hx:checkIx x=0) (hr:checkRqs roots=0) {E:List Cd} (hE:DecOk x E) {n:Nd} (hn:n ∈ needsN roots E)
  (hv:findSl (keysC E) n.rq.path=none∨∃ y,findSl (keysC E) n.rq.path=some y∧has n.rq.set (place y.ver)=false):IncOk x roots (keysC E) n:=by
 have hV:=hE.valid hx;have hout:holdsS (outside n.rq) (findSl (keysC E) n.rq.path)=true:=outside_out (hv.imp id fun ⟨y,h1,h2⟩=>⟨y,h1,hV y (findSl_mem h1),h2⟩)
 -- the raw list is violated here,and not elsewhere
 have hset:n.rq.set≠[]∧Canon n.rq.set:=by
  rcases nd_cases hn with ⟨k,q,h1,rfl⟩ | ⟨c,hc,k,q,h1,rfl⟩
  ·exact checkRqs_set hr q (List.mem_of_getElem? h1)
  ·exact ((checkIx_ok hx).1 _ (hE.cand c hc).1).set q (List.mem_of_getElem? h1)
 have hraw:violated (rawN n) (keysC E)=true∧(n.path≠mt→hasPath (keysC E) n.path=true):=by
  rcases nd_cases hn with ⟨k,q,h1,rfl⟩ | ⟨c,hc,k,q,h1,rfl⟩
  ·refine ⟨?_,fun h=>absurd rfl h⟩;unfold rawN;rw [if_pos rfl,violated_iff];intro u hu;rw [List.mem_singleton.1 hu]; exact hout
  ·have hne:=path_ne_mt ((checkIx_ok hx).1 _ (hE.cand c hc).1);refine ⟨?_,fun _=>by rw [hasPath_iff,hE.find hc]; rfl⟩;unfold rawN;rw [if_neg hne,violated_iff];intro u hu;rcases List.mem_cons.1 hu with rfl | hu
   ·show holdsS _ (findSl (keysC E) c.rel.path)=true;rw [hE.find hc];show (validB c.rel.ver&&has [(c.place,c.place+1)] (place c.rel.ver))=true;have hok:=(checkIx_ok hx).1 _ (hE.cand c hc).1;have hp:=place_in hok.val;rw [hok.val,(hE.cand c hc).2.2,hok.plc];unfold has;simp [inSpan,hp.1,hp.2];omega
   ·rw [List.mem_singleton.1 hu]; exact hout
 have hnot:∃ S',ValidS S'∧violated (rawN n) S'=false:=by
  unfold rawN;split
  ·obtain ⟨k,hk⟩:=set_pos hset.1 hset.2;have hin:=has_in hk;refine ⟨[⟨n.rq.path,vrK k⟩],fun y hy=>by rw [List.mem_singleton.1 hy]; exact verK_valid hin,?_⟩;rw [Bool.eq_false_iff];intro h
   have:=violated_iff.1 h (outside n.rq) (List.mem_singleton.2 rfl)
   rw [show (outside n.rq).path=n.rq.path from rfl,show findSl [(⟨n.rq.path,vrK k⟩ : Sl)] n.rq.path=some ⟨n.rq.path,vrK k⟩ by unfold findSl; simp,outside_in (by rw [show (⟨n.rq.path,vrK k⟩ : Sl).ver=vrK k from rfl,verK_place]; exact hk)] at this;cases this
  ·refine ⟨[],fun y hy=>(by cases hy),?_⟩;rw [Bool.eq_false_iff];intro h
   have:=violated_iff.1 h _ (List.mem_cons_self ..)
   cases this
 obtain ⟨hraw,hpath⟩:=hraw;have hne:ofT (rawN n)≠[]:=by
  obtain ⟨S',v',n'⟩:=hnot;have c1:=violated_canonT (l:=rawN n) hV;have c2:=violated_canonT (l:=rawN n) v';unfold ofT;cases hc:canonT (rawN n) with
  | none=>rw [hc,hraw] at c1; cases c1
  | some c =>
   rw [hc,n'] at c2;intro e;have e:c=[]:=e;rw [e] at c2; cases c2
 have hrawS:∀ S',ValidS S'→violated (incN n) S'=violated (rawN n) S':=fun S' v=>by rw [incN_raw]; exact ofT_sound v hne
 refine ⟨fun d=>?_,by rw [hrawS _ hV]; exact hraw,hrawS,by rw [incN_raw]; exact ofT_form _,fun U h1 h2=>?_,hpath⟩
 ·rcases nd_cases hn with ⟨k,q,h1,rfl⟩ | ⟨c,hc,k,q,h1,rfl⟩
  ·show inferP x roots d (if (mt:ByteArray)=mt then ⟨0,mt,0,(k:Nat),0,0⟩ else _)=some (if (mt:ByteArray)=mt then rootT q else _);rw [if_pos rfl,if_pos rfl];show (if mt=mt∧(0:Int)=0∧(0:Int)=0∧(0:Int)=0 then (nthZ roots (k:Nat)).map rootT else none)=some (rootT q);rw [if_pos ⟨rfl,rfl,rfl,rfl⟩];unfold nthZ;rw [if_neg (by omega),Int.toNat_natCast,h1]; rfl
  ·have hok:=(checkIx_ok hx).1 _ (hE.cand c hc).1;have hpm:=path_ne_mt hok;have hrel:releaseP x c.rel.path c.place=some c.rel:=by
    unfold releaseP;cases hf:x.find? fun r=>decide (r.path=c.rel.path)&&decide (plc r.ver=c.place) with
    | none =>
     rw [List.find?_eq_none] at hf;exact absurd (by simp [(hE.cand c hc).2.2]) (hf c.rel (hE.cand c hc).1)
    | some r =>
     have h2:=List.find?_some hf;simp only [Bool.and_eq_true,decide_eq_true_eq] at h2;have hr1:=List.mem_of_find?_eq_some hf;have hok1:=(checkIx_ok hx).1 r hr1;rw [same_rl (checkIx_ok hx) hr1 (hE.cand c hc).1 h2.1 (by rw [← hok1.plc,h2.2,(hE.cand c hc).2.2,hok.plc])]
   have e1:infN ⟨q,c.rel.path,c.place,(k:Nat)⟩=⟨1,c.rel.path,c.place,(k:Nat),0,0⟩:=by unfold infN; rw [if_neg hpm]
   have e2:incN ⟨q,c.rel.path,c.place,(k:Nat)⟩=requiresT c.rel.path c.place q:=by unfold incN; rw [if_neg hpm]
   rw [e1,e2];unfold inferP;rw [if_neg (show ¬ ((1:Int)=0) by decide),if_pos rfl,if_pos ⟨rfl,rfl⟩];dsimp only;rw [hrel];dsimp only;unfold nthZ;rw [if_neg (by omega),Int.toNat_natCast,h1];dsimp only;unfold ne0;rw [if_neg];rw [List.isEmpty_iff,← e2,incN_raw]; exact hne
 ·rw [incN_raw];refine ofT_in fun u hu=>?_;unfold rawN at hu;split at hu
  ·rw [List.mem_singleton.1 hu]; exact h2
  ·rename_i hm;rcases List.mem_cons.1 hu with rfl | hu
   ·exact h1 hm
   ·rw [List.mem_singleton.1 hu]; exact h2
structure RsOk (D:List Sl) (U:List ByteArray) (p:ByteArray) (t:List Tm) (C:Int→Prop):Prop where
 form:Form t
 inU:InU U t
 conc:concB t p=true
 one:∃ S,Opt D p S∧violated t S=true
 cov:∀ k:Int,0≤k→k<1000000→C k→violated t (optK D p (vrK k))=true
structure AtOk (D:List Sl) (U:List ByteArray) (p:ByteArray) (t:List Tm) (C:Int→Prop):Prop where
 form:Form t
 inU:InU U t
 none_:violated t D=true
 cov:∀ k:Int,0≤k→k<1000000→C k→violated t (optK D p (vrK k))=true
theorem DerOk.forms {x:List Rl} {roots:List Rq} {s:SS} (h:DerOk x roots s):∀ k,Form (atD s k):=fun k=>by
 unfold atD;rw [List.getD_eq_getElem?_getD];cases e:s.drv[k]? with
 | none=>exact form_nil
 | some t=>exact deriveGo_form (fun _ h=>by cases h) h.der t (List.mem_of_getElem? e)
theorem infer_res {x:List Rl} {roots:List Rq} {d:List (List Tm)} {k r:Nat} {p:ByteArray} (hk:k<d.length) (hr:r<d.length) (h0:(resolveT (d.getD k []) (d.getD r []) p).2=0) :
  inferP x roots d ⟨3,p,0,0,(k:Nat),(r:Nat)⟩=some (resolveT (d.getD k []) (d.getD r []) p).1:=by
 have e:∀ j:Nat,j<d.length→nthZ d (j:Nat)=some (d.getD j []):=fun j hj=>by
  unfold nthZ;rw [if_neg (by omega),Int.toNat_natCast,List.getD_eq_getElem?_getD,List.getElem?_eq_getElem hj]; rfl
 unfold inferP;rw [if_neg (show ¬ ((3:Int)=0) by decide),if_neg (show ¬ ((3:Int)=1) by decide),if_neg (show ¬ ((3:Int)=2) by decide),if_pos rfl,if_pos ⟨rfl,rfl⟩];dsimp only;rw [e k hk,e r hr];dsimp only;rw [if_pos h0]
theorem learnGo_ok {x:List Rl} {roots:List Rq} {D:List Sl} {U:List ByteArray} {p:ByteArray} (hD:ValidS D):∀ (l:List (Nat × (Int→Prop))) {k:Nat} {s:SS} {C:Int→Prop},DerOk x roots s→k<s.drv.length→(∀ y ∈ l,y.1<s.drv.length) →
  (s.full=false→AtOk D U p (atD s k) C∧∀ y ∈ l,RsOk D U p (atD s y.1) y.2) →
  DerOk x roots (learnGo p (l.map (·.1)) k s).2∧Grow s (learnGo p (l.map (·.1)) k s).2∧(learnGo p (l.map (·.1)) k s).1<(learnGo p (l.map (·.1)) k s).2.drv.length ∧
  ((learnGo p (l.map (·.1)) k s).2.full=false→∃ C',AtOk D U p (atD (learnGo p (l.map (·.1)) k s).2 (learnGo p (l.map (·.1)) k s).1) C' ∧
   (concB (atD (learnGo p (l.map (·.1)) k s).2 (learnGo p (l.map (·.1)) k s).1) p=false∨∀ j,C j∨(∃ y ∈ l,y.2 j)→C' j))
 | [],k,s,C,hd,hk,_,hA=>⟨hd,.refl s,hk,fun hf=>⟨C,(hA hf).1,.inr fun j hj=>hj.elim id fun ⟨y,hy,_⟩=>(by cases hy)⟩⟩
 | y :: l,k,s,C,hd,hk,hl,hA=>by
  rw [List.map_cons]
  by_cases h1:s.full=true∨concB (atD s k) p=false
  ·have e:learnGo p (y.1 :: l.map (·.1)) k s=(k,s):=by unfold learnGo; rw [if_pos h1]
   rw [e];refine ⟨hd,.refl s,hk,fun hf=>⟨C,(hA hf).1,.inl (h1.resolve_left fun e=>?_)⟩⟩;have hf:s.full=false:=hf;rw [e] at hf; cases hf
  simp only [not_or,Bool.not_eq_true,Bool.not_eq_false] at h1;obtain ⟨hf,hck⟩:=h1;obtain ⟨hA1,hA2⟩:=hA hf;have hy:=hA2 y (List.mem_cons_self ..);have hi:¬ (s.full=true∨concB (atD s k) p=false):=by rw [hf,hck]; simp
  by_cases h2:y.1=k
  ·have e:learnGo p (y.1 :: l.map (·.1)) k s=learnGo p (l.map (·.1)) k s:=by conv=>lhs; unfold learnGo; rw [if_neg hi,if_pos h2]
   rw [e];have hA' : AtOk D U p (atD s k) fun j=>C j∨y.2 j:=⟨hA1.form,hA1.inU,hA1.none_,fun j j0 j1 hj=>hj.elim (hA1.cov j j0 j1) fun h=>by rw [← h2]; exact hy.cov j j0 j1 h⟩;obtain ⟨i1,i2,i3,i4⟩:=learnGo_ok hD l hd hk (fun z hz=>hl z (List.mem_cons_of_mem _ hz)) (fun _=>⟨hA',fun z hz=>hA2 z (List.mem_cons_of_mem _ hz)⟩);refine ⟨i1,i2,i3,fun hf=>?_⟩;obtain ⟨C',j1,j2⟩:=i4 hf;refine ⟨C',j1,j2.imp id fun h j hj=>h j ?_⟩;rcases hj with hj | ⟨z,hz,hj⟩
   ·exact .inl (.inl hj)
   ·rcases List.mem_cons.1 hz with rfl | hz
    ·exact .inl (.inr hj)
    ·exact .inr ⟨z,hz,hj⟩
  ·obtain ⟨S2,o2,v2⟩:=hy.one;obtain ⟨r1,r2⟩:=resolve_step hA1.form hy.form hck hy.conc (.self hD) hA1.none_ o2 v2;have e:learnGo p (y.1 :: l.map (·.1)) k s=learnGo p (l.map (·.1)) (addI s ⟨3,p,0,0,k,y.1⟩ (resolveT (atD s k) (atD s y.1) p).1).1 (addI s ⟨3,p,0,0,k,y.1⟩ (resolveT (atD s k) (atD s y.1) p).1).2:=by
    conv=>lhs; unfold learnGo; rw [if_neg hi,if_neg h2,if_neg (fun h=>h r1)]
   rw [e];have hy1:=hl y (List.mem_cons_self ..);obtain ⟨a1,a2,a3⟩:=addI_der hd (infer_res (x:=x) (roots:=roots) hk hy1 r1);have hg:=addI_grow s ⟨3,p,0,0,(k:Nat),(y.1:Nat)⟩ (resolveT (atD s k) (atD s y.1) p).1;generalize hs' : addI s ⟨3,p,0,0,(k:Nat),(y.1:Nat)⟩ (resolveT (atD s k) (atD s y.1) p).1=s' at *
   have a3:s'.2.full=false→atD s'.2 s'.1=(resolveT (atD s k) (atD s y.1) p).1:=a3;obtain ⟨i1,i2,i3,i4⟩:=learnGo_ok hD (C:=fun j=>C j∨y.2 j) l a1 a2 (fun z hz=>Nat.lt_of_lt_of_le (hl z (List.mem_cons_of_mem _ hz)) hg.len) (fun hf'=>by
    refine ⟨?_,fun z hz=>by rw [hg.at (hl z (List.mem_cons_of_mem _ hz))]; exact hA2 z (List.mem_cons_of_mem _ hz)⟩;rw [a3 hf'];exact ⟨resolveT_form _ _ _,resolveT_in hA1.inU hy.inU,r2 D (.self hD) (.inl hA1.none_),fun j j0 j1 hj=>r2 _ (.ver hD (verK_valid ⟨j0,j1⟩)) (hj.imp (hA1.cov j j0 j1) (hy.cov j j0 j1))⟩)
   refine ⟨i1,hg.trans i2,i3,fun hf=>?_⟩;obtain ⟨C',j1,j2⟩:=i4 hf;refine ⟨C',j1,j2.imp id fun h j hj=>h j ?_⟩;rcases hj with hj | ⟨z,hz,hj⟩
   ·exact .inl (.inl hj)
   ·rcases List.mem_cons.1 hz with rfl | hz
    ·exact .inl (.inr hj)
    ·exact .inr ⟨z,hz,hj⟩
end Go.Eng

namespace Go.Eng
def SatOk (roots:List Rq) (dec:List Cd):Prop:=∀ q ∈ reqsC roots dec,∀ d ∈ dec,d.rel.path=q.path→has q.set d.place=true
theorem SatOk.nil (roots:List Rq):SatOk roots []:=fun _ _ d h=>by cases h
theorem reqsC_snoc (roots:List Rq) (dec:List Cd) (c:Cd):reqsC roots (dec++[c])=reqsC roots dec++c.rel.reqs:=by
 unfold reqsC; rw [List.map_append,List.flatten_append,List.append_assoc]; simp
theorem relN_rq (c:Cd):(relN c).map (·.rq)=c.rel.reqs:=numG_rq (fun _ _=>rfl) _ _
theorem clash_none {dec:List Cd} {c:Cd} (h:clashN dec c=none):∀ q ∈ c.rel.reqs,∀ d ∈ dec++[c],d.rel.path=q.path→has q.set d.place=true:=fun q hq d hd e=>by
 rw [← relN_rq] at hq;obtain ⟨n,hn,rfl⟩:=List.mem_map.1 hq;unfold clashN at h;rw [List.find?_eq_none] at h
 have:=h n hn
 unfold missB at this;rw [Bool.not_eq_true,List.any_eq_false] at this
 have:=this d hd
 rw [e] at this;simpa using this
theorem clash_some {dec:List Cd} {c:Cd} {n:Nd} (h:clashN dec c=some n):n ∈ relN c∧∃ d ∈ dec++[c],d.rel.path=n.rq.path∧has n.rq.set d.place=false:=by
 unfold clashN at h;have h1:=List.find?_some h;refine ⟨List.mem_of_find?_eq_some h,?_⟩;unfold missB at h1;rw [List.any_eq_true] at h1;obtain ⟨d,hd,e⟩:=h1;simp only [Bool.and_eq_true,decide_eq_true_eq,Bool.not_eq_true'] at e;exact ⟨d,hd,e⟩
theorem SatOk.snoc {roots:List Rq} {dec:List Cd} (h:SatOk roots dec) {p:ByteArray} {needs:List Nd} (hN:Nxt roots dec p needs) {c:Cd} (hc:c.rel.path=p) (hn:∀ n ∈ needs,has n.rq.set c.place=true) (hk:clashN dec c=none):SatOk roots (dec++[c]):=by
 intro q hq d hd e;rw [reqsC_snoc] at hq;rcases List.mem_append.1 hq with hq | hq
 ·rcases List.mem_append.1 hd with hd | hd
  ·exact h q hq d hd e
  ·rw [List.mem_singleton.1 hd] at e ⊢;rw [← needsN_rq] at hq;obtain ⟨n,hn',rfl⟩:=List.mem_map.1 hq;exact hn n ((hN.mem n).2 ⟨hn',by rw [← e,hc]⟩)
 ·exact clash_none hk q hq d hd e
def insP (y:Sl):List Sl→List Sl
 | []=>[y]
 | z :: l=>if blt y.path z.path then y :: z :: l else z :: insP y l
def sortP:List Sl→List Sl
 | []=>[]
 | y :: l=>insP y (sortP l)
theorem insP_mem {y z:Sl} : ∀ {l:List Sl},z ∈ insP y l↔z=y∨z ∈ l
 | []=>by simp [insP]
 | u :: l=>by
  unfold insP;split
  ·simp
  ·rw [List.mem_cons,insP_mem,List.mem_cons];constructor
   ·rintro (h | h | h)
    ·exact .inr (.inl h)
    ·exact .inl h
    ·exact .inr (.inr h)
   ·rintro (h | h | h)
    ·exact .inr (.inl h)
    ·exact .inl h
    ·exact .inr (.inr h)
theorem sortP_mem {z:Sl} : ∀ {l:List Sl},z ∈ sortP l↔z ∈ l
 | []=>by simp [sortP]
 | u :: l=>by unfold sortP; rw [insP_mem,sortP_mem,List.mem_cons]
theorem insP_inc {y:Sl} : ∀ {l:List Sl},IncS l→(∀ z ∈ l,z.path≠y.path)→IncS (insP y l)
 | [],_,_=>by simp [insP,IncS]
 | u :: l,h,hn=>by
  obtain ⟨h1,h2⟩:=List.pairwise_cons.1 h;unfold insP;split
  ·rename_i hb;refine List.pairwise_cons.2 ⟨fun z hz=>?_,h⟩;rcases List.mem_cons.1 hz with rfl | hz
   ·exact hb
   ·exact blt_trans hb (h1 z hz)
  ·rename_i hb;refine List.pairwise_cons.2 ⟨fun z hz=>?_,insP_inc h2 fun z hz=>hn z (List.mem_cons_of_mem _ hz)⟩;rcases insP_mem.1 hz with rfl | hz
   ·cases e:blt u.path z.path with
    | true=>rfl
    | false =>
     have hb:blt z.path u.path=false:=by simpa using hb
     exact absurd (blt_tri e hb) (hn u (List.mem_cons_self ..))
   ·exact h1 z hz
theorem sortP_inc:∀ {l:List Sl},(l.map (·.path)).Nodup→IncS (sortP l)
 | [],_=>List.Pairwise.nil
 | y :: l,h=>by
  simp only [List.map_cons,List.nodup_cons] at h;exact insP_inc (sortP_inc h.2) fun z hz e=>h.1 (List.mem_map.2 ⟨z,sortP_mem.1 hz,e⟩)
theorem incGo_of:∀ {l:List Sl} {b:Option ByteArray},IncS l→(∀ c,b=some c→∀ y ∈ l,blt c y.path=true)→incGo b l=true
 | [],_,_,_=>by unfold incGo; rfl
 | y :: l,b,h,hb=>by
  obtain ⟨h1,h2⟩:=List.pairwise_cons.1 h;unfold incGo;cases b with
  | none=>simpa using incGo_of h2 fun c e z hz=>by cases e; exact h1 z hz
  | some c =>
   have:=hb c rfl y (List.mem_cons_self ..)
   simp only [this,Bool.true_and];exact incGo_of h2 fun c e z hz=>by cases e; exact h1 z hz
theorem inc_of {l:List Sl} (h:IncS l):increasing l=true:=incGo_of h fun _ e=>by cases e
theorem findRl_of {x:List Rl} (hx:checkIx x=0) {r:Rl} (hr:r ∈ x):findRl x (keyR r)=some r:=by
 unfold findRl;rw [if_neg (fun h=>h hx)];cases h:x.find? fun s=>decide (keyR s=keyR r) with
 | none =>
  rw [List.find?_eq_none] at h;exact absurd (by simp) (h r hr)
 | some s =>
  have h1:=List.find?_some h;simp only [decide_eq_true_eq] at h1;rw [key_unique (checkIx_ok hx).2 (List.mem_of_find?_eq_some h) hr h1]
theorem DecOk.sorted {x:List Rl} {dec:List Cd} (h:DecOk x dec):IncS (sortP (keysC dec)):=sortP_inc (by rw [keysC_path]; exact h.nodup)
theorem DecOk.findS {x:List Rl} {dec:List Cd} (h:DecOk x dec) {c:Cd} (hc:c ∈ dec):findSl (sortP (keysC dec)) c.rel.path=some (keyC c) :=
 findSl_of_mem h.sorted (y:=keyC c) (sortP_mem.2 (List.mem_map.2 ⟨c,hc,rfl⟩))
theorem leaf_sol {x:List Rl} {roots:List Rq} (hx:checkIx x=0) {dec:List Cd} (h:DecOk x dec) (hs:SatOk roots dec) (hl:nextP (reqsC roots dec) (keysC dec)=none):Sol x roots (sortP (keysC dec)):=by
 have hall:∀ q ∈ reqsC roots dec,∃ y,findSl (sortP (keysC dec)) q.path=some y∧has q.set (place y.ver)=true:=fun q hq=>by
  have:=nextP_none hl q hq
  rw [hasPath_true] at this;obtain ⟨y,hy,e⟩:=this;obtain ⟨d,hd,rfl⟩:=List.mem_map.1 hy;have e:d.rel.path=q.path:=e;refine ⟨keyC d,by rw [← e]; exact h.findS hd,?_⟩;have h1:=hs q hq d hd e;have hok:=(checkIx_ok hx).1 _ (h.cand d hd).1;rw [(h.cand d hd).2.2,hok.plc] at h1;exact h1
 refine ⟨hx,inc_of h.sorted,fun y hy=>?_,fun q hq=>hall q (List.mem_append_left _ hq),fun y hy r hr q hq=>?_⟩
 ·obtain ⟨d,hd,rfl⟩:=List.mem_map.1 (sortP_mem.1 hy);exact ⟨d.rel,findRl_of hx (h.cand d hd).1,(h.cand d hd).2.1⟩
 ·obtain ⟨d,hd,rfl⟩:=List.mem_map.1 (sortP_mem.1 hy)
  have:findRl x (keyC d)=some d.rel:=findRl_of hx (h.cand d hd).1
  rw [this] at hr;cases hr;exact hall q (List.mem_append_right _ (List.mem_flatten.2 ⟨_,List.mem_map.2 ⟨d,hd,rfl⟩,hq⟩))
def okC (dec:List Cd) (needs:List Nd) (c:Cd):Bool:=(needs.all fun n=>has n.rq.set c.place)&&(clashN dec c).isNone
def leaves (x:List Rl) (roots:List Rq):Nat→List Cd→List (List Cd)
 | 0,_=>[]
 | n+1,dec=>match (nextN roots dec).2 with
  | []=>[dec]
  | n0 :: l=>((candsP x (nextN roots dec).1).map fun c=>if okC dec (n0 :: l) c then leaves x roots n (dec++[c]) else []).flatten
structure Lf (x:List Rl) (roots:List Rq) (dec d:List Cd):Prop where
 pre:dec <+: d
 ok:DecOk x d
 sat:SatOk roots d
 stop:nextP (reqsC roots d) (keysC d)=none
theorem cand_ok {x:List Rl} {p:ByteArray} {c:Cd} (h:c ∈ candsP x p):c.rel.path=p∧(c.rel ∈ x∧c.rel.yanked=false∧c.place=plc c.rel.ver):=by
 obtain ⟨r,h1,h2,h3,rfl⟩:=candsP_mem.1 h;exact ⟨h2,h1,h3,rfl⟩
theorem okC_iff {dec:List Cd} {needs:List Nd} {c:Cd} : okC dec needs c=true↔(∀ n ∈ needs,has n.rq.set c.place=true)∧clashN dec c=none:=by
 unfold okC;rw [Bool.and_eq_true,List.all_eq_true,Option.isNone_iff_eq_none]
theorem leaves_lf {x:List Rl} {roots:List Rq} : ∀ {n:Nat} {dec:List Cd},DecOk x dec→SatOk roots dec→∀ d ∈ leaves x roots n dec,Lf x roots dec d
 | 0,_,_,_,d,hd=>by cases hd
 | n+1,dec,h,hs,d,hd=>by
  unfold leaves at hd;split at hd
  ·rename_i e;rw [List.mem_singleton.1 hd];exact ⟨List.prefix_rfl,h,hs,nextN_none.1 e⟩
  ·rename_i n0 l e;have hN:=nextN_some e;obtain ⟨L,hL,hd⟩:=List.mem_flatten.1 hd;obtain ⟨c,hc,rfl⟩:=List.mem_map.1 hL;split at hd
   ·rename_i hok;obtain ⟨h1,h2⟩:=okC_iff.1 hok;obtain ⟨c1,c2⟩:=cand_ok hc;have hd0:doneC dec c.rel.path=false:=by rw [c1]; exact hN.undone
    have:=leaves_lf (n:=n) (h.snoc c2 hd0) (hs.snoc hN c1 h1 h2) d hd
    exact ⟨(List.prefix_append _ _).trans this.pre,this.ok,this.sat,this.stop⟩
   ·cases hd
theorem Lf.sol {x:List Rl} {roots:List Rq} (hx:checkIx x=0) {dec d:List Cd} (h:Lf x roots dec d):Sol x roots (sortP (keysC d)):=leaf_sol hx h.ok h.sat h.stop
theorem no_leaf {x:List Rl} {roots:List Rq} (hx:checkIx x=0) {s:SS} (hd:DerOk x roots s) {k:Nat} (hk:k<s.drv.length) {dec d:List Cd} (he:entailed (atD s k) (keysC dec)=true) (h:Lf x roots dec d):False:=by
 have hS:=h.sol hx;have hv:=entailed_sub (s:=sortP (keysC d)) hS.inc (fun y hy=>sortP_mem.2 (by
  obtain ⟨c,hc,rfl⟩:=List.mem_map.1 hy;obtain ⟨t,e⟩:=h.pre;exact List.mem_map.2 ⟨c,by rw [← e]; exact List.mem_append_left _ hc,rfl⟩)) he
 have hn:=deriveGo_sound hS (d:=[]) (fun _ h=>by cases h) hd.der (atD s k) (by
  unfold atD;rw [List.getD_eq_getElem?_getD,List.getElem?_eq_getElem hk];exact List.getElem_mem hk)
 rw [hv] at hn; cases hn
end Go.Eng

namespace Go.Eng
theorem ix_len {x:List Rl} (h:checkIx x=0):x.length≤256:=by
 unfold checkIx at h;split at h
 ·cases h
 ·omega
theorem has_span {l:List Rl} {k:Int} : (l.map fun r=>(plc r.ver,plc r.ver+1)).any (inSpan k)=true↔∃ r ∈ l,plc r.ver=k:=by
 rw [List.any_eq_true];constructor
 ·rintro ⟨y,hy,h⟩
  obtain ⟨r,hr,rfl⟩:=List.mem_map.1 hy
  have:=inSpan_iff.1 h
  exact ⟨r,hr,by have h1:=this.1; have h2:=this.2; dsimp only at h1 h2; omega⟩
 ·rintro ⟨r,hr,rfl⟩
  exact ⟨_,List.mem_map.2 ⟨r,hr,rfl⟩,inSpan_iff.2 ⟨Int.le_refl _,by dsimp only; omega⟩⟩
theorem avail_iff {x:List Rl} (hx:checkIx x=0) {p:ByteArray} {k:Int} : has (availP x p) k=true↔∃ c ∈ candsP x p,c.place=k:=by
 unfold availP;rw [has_canon];unfold has ofPath;rw [if_neg (fun h=>h hx)];simp only [Bool.and_eq_true,decide_eq_true_eq];rw [has_span];constructor
 ·rintro ⟨_,r,hr,rfl⟩
  simp only [List.mem_filter,decide_eq_true_eq,Bool.not_eq_true'] at hr;exact ⟨⟨plc r.ver,r⟩,candsP_mem.2 ⟨r,hr.1.1,hr.1.2,hr.2,rfl⟩,rfl⟩
 ·rintro ⟨c,hc,rfl⟩
  obtain ⟨r,h1,h2,h3,rfl⟩:=candsP_mem.1 hc;have hok:=(checkIx_ok hx).1 r h1
  have:=place_in hok.val
  rw [← hok.plc] at this;refine ⟨⟨this.1,this.2⟩,r,?_,rfl⟩;simp only [List.mem_filter,decide_eq_true_eq,Bool.not_eq_true'];exact ⟨⟨h1,h2⟩,h3⟩
theorem unavail {x:List Rl} (hx:checkIx x=0) (p:ByteArray):∃ k:Int,0≤k∧k<1000000∧has (availP x p) k=false:=by
 apply Classical.byContradiction;intro hn;have hall:∀ k ∈ (List.range 257).map fun i:Nat=>(i:Int),k ∈ x.map fun r=>plc r.ver:=by
  intro k hk;obtain ⟨i,hi,rfl⟩:=List.mem_map.1 hk;have hi:=List.mem_range.1 hi;have hh:has (availP x p) (i:Int)=true:=by
   cases e:has (availP x p) (i:Int) with
   | true=>rfl
   | false=>exact absurd ⟨(i:Int),by omega,by omega,e⟩ hn
  obtain ⟨c,hc,e⟩:=(avail_iff hx).1 hh;obtain ⟨r,h1,_,_,rfl⟩:=candsP_mem.1 hc;exact List.mem_map.2 ⟨r,h1,e⟩
 have:=nodup_sub_len (List.pairwise_map.2 (List.nodup_range.imp fun h e=>h (Int.ofNat.inj e))) hall
 rw [List.length_map,List.length_map,List.length_range] at this
 have:=ix_len hx
 omega
theorem keysC_snoc (dec:List Cd) (c:Cd):keysC (dec++[c])=optK (keysC dec) c.rel.path c.rel.ver:=by unfold keysC optK; rw [List.map_append]; rfl
theorem ent_iff {t:List Tm} {S:List Sl} : entailed t S=true↔violated t S=true∧∀ u ∈ t,hasPath S u.path=true:=by
 unfold entailed;rw [Bool.and_eq_true,Bool.not_eq_true',List.any_eq_false];simp
section
variable {x:List Rl} {roots:List Rq} {dec:List Cd} {p:ByteArray} {needs:List Nd}
abbrev pathsD (p:ByteArray) (dec:List Cd):List ByteArray:=p :: (keysC dec).map (·.path)
theorem ent_inU {c:Cd} {t:List Tm} (hf:Form t) (he:entailed t (keysC (dec++[c]))=true):InU (pathsD c.rel.path dec) t:=by
 refine ⟨canonT_sorted hf,fun u hu=>?_⟩
 have:=(ent_iff.1 he).2 u hu
 rw [hasPath_mem,keysC_snoc,List.map_append] at this;rcases List.mem_append.1 this with h | h
 ·exact List.mem_cons_of_mem _ h
 ·rw [List.map_cons,List.map_nil,List.mem_singleton] at h;rw [h]; exact List.mem_cons_self ..
theorem ent_drop (hx:checkIx x=0) (hd:DecOk x dec) {c:Cd} (hc:c.rel ∈ x) {t:List Tm} (he:entailed t (keysC (dec++[c]))=true) (hn:concB t c.rel.path=false):entailed t (keysC dec)=true:=by
 obtain ⟨h1,h2⟩:=ent_iff.1 he;have hne:=concB_false hn;rw [keysC_snoc] at h1 h2;refine ent_iff.2 ⟨?_,fun u hu=>?_⟩
 ·rw [viol_same (.self (hd.valid hx)) (.ver (hd.valid hx) ((checkIx_ok hx).1 _ hc).val) hne]; exact h1
 ·have:=h2 u hu
  rw [hasPath_append,Bool.or_eq_true] at this;rcases this with h | h
  ·exact h
  ·rw [hasPath_true] at h;obtain ⟨y,hy,e⟩:=h;rw [List.mem_singleton.1 hy] at e;exact absurd e.symm (hne u hu)
theorem rs_of_ent (hx:checkIx x=0) (hd:DecOk x dec) {c:Cd} (hc:c.rel ∈ x∧c.rel.yanked=false∧c.place=plc c.rel.ver) (hu:doneC dec c.rel.path=false) {t:List Tm} (hf:Form t) (he:entailed t (keysC (dec++[c]))=true) (hn:concB t c.rel.path=true) :
  RsOk (keysC dec) (pathsD c.rel.path dec) c.rel.path t fun k=>k=c.place:=by
 have hok:=(checkIx_ok hx).1 _ hc.1;have hV:=hd.valid hx;have h1:=(ent_iff.1 he).1;rw [keysC_snoc] at h1;refine ⟨hf,ent_inU hf he,hn,⟨_,.ver hV hok.val,h1⟩,fun k k0 k1 e=>?_⟩;subst e;rw [viol_place (by rw [doneC_path]; exact hu) (verK_valid ⟨k0,k1⟩) hok.val (by rw [verK_place,hc.2.2,hok.plc])];exact h1
theorem need_ent (hx:checkIx x=0) (hr:checkRqs roots=0) {E:List Cd} (hE:DecOk x E) {n:Nd} (hn:n ∈ needsN roots E) (hv:∃ d ∈ E,d.rel.path=n.rq.path∧has n.rq.set d.place=false) :
  (∀ d,inferP x roots d (infN n)=some (incN n))∧entailed (incN n) (keysC E)=true∧Form (incN n):=by
 obtain ⟨d,hd,e,hs⟩:=hv;have hok:=(checkIx_ok hx).1 _ (hE.cand d hd).1;have hf:=hE.find hd;have hI:=incN_ok hx hr hE hn (.inr ⟨keyC d,by rw [← e]; exact hf,by rw [show (keyC d).ver=d.rel.ver from rfl,← hok.plc,← (hE.cand d hd).2.2]; exact hs⟩);refine ⟨hI.inf,ent_iff.2 ⟨hI.viol,fun u hu=>?_⟩,hI.form⟩
 have:=(hI.inU ((keysC E).map (·.path)) (fun h=>hasPath_mem.1 (hI.path h)) (hasPath_mem.1 (by rw [hasPath_iff,← e,hf]; rfl))).2 u hu
 exact hasPath_mem.2 this
theorem need_conc (hx:checkIx x=0) (hr:checkRqs roots=0) (hd:DecOk x dec) (hN:Nxt roots dec p needs) {c:Cd} (hc:c ∈ candsP x p) {n:Nd} (hn:n ∈ needs) (hs:has n.rq.set c.place=false):concB (incN n) p=true:=by
 obtain ⟨c1,c2⟩:=cand_ok hc;have hu:doneC dec c.rel.path=false:=by rw [c1]; exact hN.undone
 have hE:=hd.snoc c2 hu;obtain ⟨hn1,hn2⟩:=(hN.mem n).1 hn;have hok:=(checkIx_ok hx).1 _ c2.1;have hI:=incN_ok hx hr hE (needs_mono hn1) (.inr ⟨keyC c,by rw [hn2,← c1]; exact hE.find (by simp),by rw [show (keyC c).ver=c.rel.ver from rfl,← hok.plc,← c2.2.2]; exact hs⟩);cases hcc:concB (incN n) p with
 | true=>rfl
 | false =>
  exfalso
  have hset:n.rq.set≠[]∧Canon n.rq.set:=by
   rcases nd_cases hn1 with ⟨k,q,h1,rfl⟩ | ⟨c,hc,k,q,h1,rfl⟩
   ·exact checkRqs_set hr q (List.mem_of_getElem? h1)
   ·exact ((checkIx_ok hx).1 _ (hd.cand c hc).1).set q (List.mem_of_getElem? h1)
  obtain ⟨k,hk⟩:=set_pos hset.1 hset.2;have hin:=has_in hk;have hV:=hd.valid hx;have o1:Opt (keysC dec) p (optK (keysC dec) p (vrK k)):=.ver hV (verK_valid hin);have o2:Opt (keysC dec) p (keysC (dec++[c])):=by rw [keysC_snoc,c1]; exact .ver hV hok.val
  have h1:=viol_same o1 o2 (concB_false hcc);rw [hI.viol,hI.raw _ o1.val,violated_iff] at h1
  have:=h1 (outside n.rq) (by unfold rawN; split <;> simp)
  rw [show (outside n.rq).path=p from hn2,optK_find (by rw [doneC_path]; exact hN.undone),outside_in (by rw [show (⟨p,vrK k⟩ : Sl).ver=vrK k from rfl,verK_place]; exact hk)] at this;cases this
theorem learnS_ok (hx:checkIx x=0) (hr:checkRqs roots=0) (hd:DecOk x dec) (hN:Nxt roots dec p needs) {n0:Nd} (h0:n0 ∈ needs) (L:List (Nat × Cd)) (hL:L.map (·.2)=candsP x p) {s:SS} (hs:DerOk x roots s) (hlt:∀ y ∈ L,y.1<s.drv.length)
  (hre:s.full=false→∀ y ∈ L,entailed (atD s y.1) (keysC (dec++[y.2]))=true∧concB (atD s y.1) p=true) :
  DerOk x roots (learnS x p n0 (L.map (·.1)) s).2∧Grow s (learnS x p n0 (L.map (·.1)) s).2∧(learnS x p n0 (L.map (·.1)) s).1<(learnS x p n0 (L.map (·.1)) s).2.drv.length ∧
  ((learnS x p n0 (L.map (·.1)) s).2.full=false→entailed (atD (learnS x p n0 (L.map (·.1)) s).2 (learnS x p n0 (L.map (·.1)) s).1) (keysC dec)=true):=by
 have hV:=hd.valid hx;have hpD:hasPath (keysC dec) p=false:=by rw [doneC_path]; exact hN.undone
 obtain ⟨hm0,hp0⟩:=(hN.mem n0).1 h0;have hI:=incN_ok hx hr hd hm0 (.inl (by rw [hp0]; exact hasPath_none hpD));unfold learnS;obtain ⟨a1,a2,a3⟩:=addI_der hs (hI.inf s.drv);have ag:=addI_grow s (infN n0) (incN n0);have a3:(infS s n0).2.full=false→atD (infS s n0).2 (infS s n0).1=incN n0:=a3
 change DerOk x roots (infS s n0).2 at a1
 change (infS s n0).1<(infS s n0).2.drv.length at a2
 change Grow s (infS s n0).2 at ag
 generalize infS s n0=s1 at *
 -- the incompatibility of the places that are not available
 obtain ⟨u,u0,u1,hu⟩:=unavail hx p;have hraw:∀ k:Int,0≤k→k<1000000→has (availP x p) k=false→violated [(⟨p,false,compl (availP x p)⟩ : Tm)] (optK (keysC dec) p (vrK k))=true:=fun k k0 k1 hk=>by
  rw [violated_iff];intro t ht;rw [List.mem_singleton.1 ht];show holdsS _ (findSl (optK (keysC dec) p (vrK k)) p)=true;rw [optK_find hpD];show (validB (vrK k)&&has (compl (availP x p)) (place (vrK k)))=true;rw [verK_valid ⟨k0,k1⟩,verK_place,has_compl,hk];unfold inPl;simp [k0,k1]
 have hrawD:violated [(⟨p,false,compl (availP x p)⟩ : Tm)] (keysC dec)=false:=by
  rw [Bool.eq_false_iff];intro h
  have:=violated_iff.1 h _ (List.mem_cons_self ..)
  rw [show (⟨p,false,compl (availP x p)⟩ : Tm).path=p from rfl,hasPath_none hpD] at this;cases this
 have ou:Opt (keysC dec) p (optK (keysC dec) p (vrK u)):=.ver hV (verK_valid ⟨u0,u1⟩);have hne:noneT p (availP x p)≠[]:=by
  have c1:=violated_canonT (l:=[(⟨p,false,compl (availP x p)⟩ : Tm)]) ou.val;have c2:=violated_canonT (l:=[(⟨p,false,compl (availP x p)⟩ : Tm)]) hV;rw [hraw u u0 u1 hu] at c1;rw [hrawD] at c2;unfold noneT ofT;cases hc:canonT [(⟨p,false,compl (availP x p)⟩ : Tm)] with
  | none=>rw [hc] at c1; cases c1
  | some c =>
   rw [hc] at c2;intro e;have e:c=[]:=e;rw [e] at c2; cases c2
 have hsame:∀ S,ValidS S→violated (noneT p (availP x p)) S=violated [(⟨p,false,compl (availP x p)⟩ : Tm)] S:=fun S v=>ofT_sound v hne;have hconc:concB (noneT p (availP x p)) p=true:=by
  cases h:concB (noneT p (availP x p)) p with
  | true=>rfl
  | false =>
   have:=viol_same ou (.self hV) (concB_false h)
   rw [hsame _ ou.val,hsame _ hV,hraw u u0 u1 hu,hrawD] at this;cases this
 have hinf:inferP x roots s1.2.drv ⟨2,p,0,0,0,0⟩=some (noneT p (availP x p)):=by
  unfold inferP;rw [if_neg (show ¬ ((2:Int)=0) by decide),if_neg (show ¬ ((2:Int)=1) by decide),if_pos rfl,if_pos ⟨rfl,rfl,rfl,rfl⟩];unfold ne0;rw [if_neg (by rw [List.isEmpty_iff]; exact hne)]
 obtain ⟨b1,b2,b3⟩:=addI_der a1 hinf;have bg:=addI_grow s1.2 ⟨2,p,0,0,0,0⟩ (noneT p (availP x p));have b3:(noneS x p s1.2).2.full=false→atD (noneS x p s1.2).2 (noneS x p s1.2).1=noneT p (availP x p):=b3
 change DerOk x roots (noneS x p s1.2).2 at b1
 change (noneS x p s1.2).1<(noneS x p s1.2).2.drv.length at b2
 change Grow s1.2 (noneS x p s1.2).2 at bg
 generalize noneS x p s1.2=s2 at *
 have hback:s2.2.full=false→s1.2.full=false∧s.full=false:=fun h=>by
  have h1:s1.2.full=false:=by
   cases e:s1.2.full with
   | false=>rfl
   | true=>rw [bg.full e] at h; cases h
  refine ⟨h1,?_⟩;cases e:s.full with
  | false=>rfl
  | true=>rw [ag.full e] at h1; cases h1
 have main:=learnGo_ok (D:=keysC dec) (U:=pathsD p dec) (p:=p) hV ((s2.1,fun k=>has (availP x p) k=false) :: L.map fun y=>(y.1,fun k=>k=y.2.place)) (C:=fun k=>has n0.rq.set k=false) b1 (Nat.lt_of_lt_of_le a2 bg.len)
  (fun y hy=>by
   rcases List.mem_cons.1 hy with rfl | hy
   ·exact b2
   ·obtain ⟨z,hz,rfl⟩:=List.mem_map.1 hy;exact Nat.lt_of_lt_of_le (hlt z hz) (ag.trans bg).len) (fun hf=>by
   obtain ⟨f1,f0⟩:=hback hf;refine ⟨?_,fun y hy=>?_⟩
   ·rw [bg.at a2,a3 f1];refine ⟨hI.form,hI.inU _ (fun h=>List.mem_cons_of_mem _ (hasPath_mem.1 (hI.path h))) (by rw [hp0]; exact List.mem_cons_self ..),hI.viol,fun k k0 k1 hk=>?_⟩;have ok:Opt (keysC dec) p (optK (keysC dec) p (vrK k)):=.ver hV (verK_valid ⟨k0,k1⟩);rw [hI.raw _ ok.val,violated_iff];intro t ht;have hold:=violated_iff.1 ((hI.raw _ hV).symm.trans hI.viol) t ht;unfold rawN at ht;have hout:holdsS (outside n0.rq) (findSl (optK (keysC dec) p (vrK k)) (outside n0.rq).path)=true:=by
     rw [show (outside n0.rq).path=p from hp0,optK_find hpD];exact outside_out (.inr ⟨_,rfl,verK_valid ⟨k0,k1⟩,by rw [show (⟨p,vrK k⟩ : Sl).ver=vrK k from rfl,verK_place]; exact hk⟩)
    split at ht
    ·rw [List.mem_singleton.1 ht]; exact hout
    ·rename_i hm;rcases List.mem_cons.1 ht with rfl | ht
     ·have hne:n0.path≠p:=fun e=>by
       have:=hI.path hm
       rw [e,hpD] at this; cases this
      rw [show (⟨n0.path,false,[(n0.place,n0.place+1)]⟩ : Tm).path=n0.path from rfl] at hold ⊢;rw [ok.same _ hne]; exact hold
     ·rw [List.mem_singleton.1 ht]; exact hout
   ·rcases List.mem_cons.1 hy with rfl | hy
    ·show RsOk _ _ p (atD s2.2 s2.1) _;rw [b3 hf];refine ⟨ofT_form _,ofT_in (fun t ht=>by rw [List.mem_singleton.1 ht]; exact List.mem_cons_self ..),hconc,⟨_,ou,by rw [hsame _ ou.val]; exact hraw u u0 u1 hu⟩,fun k k0 k1 hk=>?_⟩;rw [hsame _ (Opt.ver hV (verK_valid ⟨k0,k1⟩)).val]; exact hraw k k0 k1 hk
    ·obtain ⟨z,hz,rfl⟩:=List.mem_map.1 hy;show RsOk _ _ p (atD s2.2 z.1) _;rw [(ag.trans bg).at (hlt z hz)];obtain ⟨e1,e2⟩:=hre f0 z hz;have hzc:z.2 ∈ candsP x p:=by rw [← hL]; exact List.mem_map.2 ⟨z,hz,rfl⟩
     obtain ⟨c1,c2⟩:=cand_ok hzc
     have:=rs_of_ent hx hd c2 (by rw [c1]; exact hN.undone) (hs.forms z.1) e1 (by rw [c1]; exact e2)
     rw [c1] at this; exact this)
 have hmap:((s2.1,fun k=>has (availP x p) k=false) :: L.map fun y=>(y.1,fun k=>k=y.2.place)).map (·.1)=s2.1 :: L.map (·.1):=by
  rw [List.map_cons,List.map_map]; rfl
 rw [hmap] at main;obtain ⟨m1,m2,m3,m4⟩:=main;refine ⟨m1,(ag.trans bg).trans m2,m3,fun hf=>?_⟩;obtain ⟨C',q1,q2⟩:=m4 hf;have hnc:concB (atD (learnGo p (s2.1 :: L.map (·.1)) s1.1 s2.2).2 (learnGo p (s2.1 :: L.map (·.1)) s1.1 s2.2).1) p=false:=by
  rcases q2 with q2 | q2
  ·exact q2
  ·refine not_conc hpD q1.form q1.none_ fun k k0 k1=>q1.cov k k0 k1 (q2 k ?_);cases hn0:has n0.rq.set k with
   | false=>exact .inl rfl
   | true =>
    cases ha:has (availP x p) k with
    | false=>exact .inr ⟨_,List.mem_cons_self ..,ha⟩
    | true =>
     obtain ⟨c,hc,e⟩:=(avail_iff hx).1 ha;rw [← hL] at hc;obtain ⟨z,hz,rfl⟩:=List.mem_map.1 hc;exact .inr ⟨_,List.mem_cons_of_mem _ (List.mem_map.2 ⟨z,hz,rfl⟩),e.symm⟩
 refine ent_iff.2 ⟨q1.none_,fun t ht=>?_⟩
 have:=q1.inU.2 t ht
 rcases List.mem_cons.1 this with e | h
 ·exact absurd e (concB_false hnc t ht)
 ·exact hasPath_mem.2 h
end
end Go.Eng

namespace Go.Eng
def skRel (s:SS) (b:List Cd) (p:ByteArray) (needs:List Nd):List Cd→List Sk→Prop
 | [],sk=>sk=[]
 | c :: cs,sk=>if (needs.all fun n=>has n.rq.set c.place)=true then ∃ (k:Nat) (rest:List Sk),sk=⟨p,c.place,k⟩ :: rest∧(k<s.drv.length∧entailed (atD s k) (keysC (b++[c]))=true)∧skRel s b p needs cs rest
  else skRel s b p needs cs sk
section
variable {s s' : SS} {b:List Cd} {p:ByteArray} {needs:List Nd}
theorem skRel.out {c:Cd} (hc:¬ (needs.all fun n=>has n.rq.set c.place)=true):∀ {cs:List Cd} {sk:List Sk},skRel s b p needs cs sk→skRel s b p needs (cs++[c]) sk
 | [],sk,h=>by
  show (if _ then _ else _);rw [if_neg hc]; exact h
 | d :: cs,sk,h=>by
  have h:if (needs.all fun n=>has n.rq.set d.place)=true then _ else _:=h
  show (if _ then _ else _)
  by_cases hd:(needs.all fun n=>has n.rq.set d.place)=true
  ·rw [if_pos hd] at h ⊢;obtain ⟨k,rest,h1,h2,h3⟩:=h;exact ⟨k,rest,h1,h2,skRel.out hc h3⟩
  ·rw [if_neg hd] at h ⊢;exact skRel.out hc h
theorem skRel.add {c:Cd} (hc:(needs.all fun n=>has n.rq.set c.place)=true) {k:Nat} (hk:k<s.drv.length∧entailed (atD s k) (keysC (b++[c]))=true):∀ {cs:List Cd} {sk:List Sk},skRel s b p needs cs sk→skRel s b p needs (cs++[c]) (sk++[⟨p,c.place,k⟩])
 | [],sk,h=>by
  have h:sk=[]:=h;subst h;show (if _ then _ else _);rw [if_pos hc];exact ⟨k,[],rfl,hk,rfl⟩
 | d :: cs,sk,h=>by
  have h:if (needs.all fun n=>has n.rq.set d.place)=true then _ else _:=h
  show (if _ then _ else _)
  by_cases hd:(needs.all fun n=>has n.rq.set d.place)=true
  ·rw [if_pos hd] at h ⊢;obtain ⟨j,rest,rfl,h2,h3⟩:=h;exact ⟨j,_,rfl,h2,skRel.add hc hk h3⟩
  ·rw [if_neg hd] at h ⊢;exact skRel.add hc hk h
theorem skRel.mono (hg:Grow s s'):∀ {cs:List Cd} {sk:List Sk},skRel s b p needs cs sk→skRel s' b p needs cs sk
 | [],_,h=>h
 | d :: cs,sk,h=>by
  have h:if (needs.all fun n=>has n.rq.set d.place)=true then _ else _:=h
  show (if _ then _ else _)
  by_cases hd:(needs.all fun n=>has n.rq.set d.place)=true
  ·rw [if_pos hd] at h ⊢;obtain ⟨j,rest,rfl,h2,h3⟩:=h;exact ⟨j,rest,rfl,⟨Nat.lt_of_lt_of_le h2.1 hg.len,by rw [hg.at h2.1]; exact h2.2⟩,h3.mono hg⟩
  ·rw [if_neg hd] at h ⊢;exact h.mono hg
end
structure StepOk (x:List Rl) (roots:List Rq) (s:SS) (b:List Cd) (c:Cd) (sk:List Sk) (p:ByteArray) (needs:List Nd) (pre post:List Cd):Prop where
 next:Nxt roots b p needs
 cands:candsP x p=pre++c :: post
 fit:∀ n ∈ needs,has n.rq.set c.place=true
 noclash:clashN b c=none
 skips:skRel s b p needs pre sk
def Chain (x:List Rl) (roots:List Rq) (s:SS):List Cd→List Cd→List (List Sk)→Prop
 | b,[],[]=>nextP (reqsC roots b) (keysC b)=none
 | b,c :: t,sk :: st=>(∃ p needs pre post,StepOk x roots s b c sk p needs pre post)∧Chain x roots s (b++[c]) t st
 | _,_,_=>False
structure SRes (x:List Rl) (roots:List Rq) (ls:List (List Cd)) (dec:List Cd) (s:SS) (st:List (List Sk)) (o:SOut):Prop where
 der:DerOk x roots o.ss
 grow:Grow s o.ss
 no:o.found=false→o.dec=dec∧o.stack=st∧(o.ss.full=false→o.res<o.ss.drv.length∧entailed (atD o.ss o.res) (keysC dec)=true)
 yes:o.found=true→o.ss.full=false∧∃ t sl,o.dec=dec++t∧o.stack=st++sl∧Chain x roots o.ss dec t sl∧ls.head?=some o.dec
section
variable {rec:List Cd→SS→List (List Sk)→SOut} {x:List Rl} {roots:List Rq} {p:ByteArray} {needs:List Nd} {n0:Nd} {dec:List Cd} {st:List (List Sk)}
def aftGo (rec:List Cd→SS→List (List Sk)→SOut) (x:List Rl) (p:ByteArray) (needs:List Nd) (n0:Nd) (dec:List Cd) (st:List (List Sk)) (c:Cd) (cs:List Cd) (reasons:List Nat) (skips:List Sk) (k:Nat) (s:SS):SOut :=
 if concB (atD s k) p=false then ⟨k,false,s,dec,st⟩ else candGo rec x p needs n0 dec st cs s (reasons++[k]) (skips++[⟨p,c.place,k⟩])
theorem candGo_cons (c:Cd) (cs:List Cd) (s:SS) (reasons:List Nat) (skips:List Sk):candGo rec x p needs n0 dec st (c :: cs) s reasons skips =
  if s.full=true then ⟨0,false,s,dec,st⟩
  else match needs.find? fun n=>!has n.rq.set c.place with
   | some n=>candGo rec x p needs n0 dec st cs (infS s n).2 (reasons++[(infS s n).1]) skips
   | none=>match entN s.drv (keysC (dec++[c])) with
    | some k=>aftGo rec x p needs n0 dec st c cs reasons skips k s
    | none=>match clashN dec c with
     | some n=>aftGo rec x p needs n0 dec st c cs reasons skips (infS s n).1 (infS s n).2
     | none=>if (rec (dec++[c]) s (st++[skips])).found=true then ⟨0,true,(rec (dec++[c]) s (st++[skips])).ss,(rec (dec++[c]) s (st++[skips])).dec,(rec (dec++[c]) s (st++[skips])).stack⟩
      else if (rec (dec++[c]) s (st++[skips])).ss.full=true then ⟨0,false,(rec (dec++[c]) s (st++[skips])).ss,dec,st⟩
      else aftGo rec x p needs n0 dec st c cs reasons skips (rec (dec++[c]) s (st++[skips])).res (rec (dec++[c]) s (st++[skips])).ss:=rfl
theorem infS_ok {s:SS} (hs:DerOk x roots s) {n:Nd} (h:∀ d,inferP x roots d (infN n)=some (incN n)):DerOk x roots (infS s n).2∧(infS s n).1<(infS s n).2.drv.length∧((infS s n).2.full=false→atD (infS s n).2 (infS s n).1=incN n)∧Grow s (infS s n).2:=by
 obtain ⟨a1,a2,a3⟩:=addI_der hs (h s.drv);exact ⟨a1,a2,a3,addI_grow _ _ _⟩
theorem SRes.grown {ls:List (List Cd)} {s s' : SS} {o:SOut} (hg:Grow s s') (h:SRes x roots ls dec s' st o):SRes x roots ls dec s st o:=⟨h.der,hg.trans h.grow,h.no,h.yes⟩
theorem candGo_ok (hx:checkIx x=0) (hr:checkRqs roots=0) (hd:DecOk x dec) (hsat:SatOk roots dec) (hN:Nxt roots dec p needs) (h0:n0 ∈ needs) {lv:List Cd→List (List Cd)} (hlv:∀ c ∈ candsP x p,okC dec needs c=true→∀ d ∈ lv (dec++[c]),Lf x roots (dec++[c]) d)
  (hrec:∀ c ∈ candsP x p,okC dec needs c=true→∀ s st,DerOk x roots s→s.full=false→SRes x roots (lv (dec++[c])) (dec++[c]) s st (rec (dec++[c]) s st)) :
  ∀ (cs:List Cd) {s:SS} (L:List (Nat × Cd)) {skips:List Sk},L.map (·.2)++cs=candsP x p→DerOk x roots s→(∀ y ∈ L,y.1<s.drv.length)→(s.full=false→(∀ y ∈ L,entailed (atD s y.1) (keysC (dec++[y.2]))=true∧concB (atD s y.1) p=true)∧skRel s dec p needs (L.map (·.2)) skips) →
   SRes x roots (((candsP x p).map fun c=>if okC dec needs c then lv (dec++[c]) else []).flatten) dec s st (candGo rec x p needs n0 dec st cs s (L.map (·.1)) skips)
 | [],s,L,skips,hL,hs,hlt,hre=>by
  rw [List.append_nil] at hL;obtain ⟨l1,l2,l3,l4⟩:=learnS_ok hx hr hd hN h0 L hL hs hlt (fun hf=>(hre hf).1);exact ⟨l1,l2,fun _=>⟨rfl,rfl,fun hf=>⟨l3,l4 hf⟩⟩,fun h=>(by cases h)⟩
 | c :: cs,s,L,skips,hL,hs,hlt,hre=>by
  rw [candGo_cons]
  by_cases hf:s.full=true
  ·rw [if_pos hf];exact ⟨hs,.refl s,fun _=>⟨rfl,rfl,fun h=>by rw [show (⟨0,false,s,dec,st⟩ : SOut).ss=s from rfl,hf] at h; cases h⟩,fun h=>(by cases h)⟩
  rw [if_neg hf];have hf:s.full=false:=by simpa using hf
  obtain ⟨hre1,hre2⟩:=hre hf;have hc:c ∈ candsP x p:=by rw [← hL]; simp
  obtain ⟨c1,c2⟩:=cand_ok hc;have hu:doneC dec c.rel.path=false:=by rw [c1]; exact hN.undone
  have hE:=hd.snoc c2 hu
  -- on to the next candidate
  have go:∀ (s' : SS) (k:Nat) (skips' : List Sk),DerOk x roots s'→Grow s s'→k<s'.drv.length→(s'.full=false→(entailed (atD s' k) (keysC (dec++[c]))=true∧concB (atD s' k) p=true)∧skRel s' dec p needs (L.map (·.2)++[c]) skips') →
    SRes x roots (((candsP x p).map fun c=>if okC dec needs c then lv (dec++[c]) else []).flatten) dec s st (candGo rec x p needs n0 dec st cs s' (L.map (·.1)++[k]) skips'):=fun s' k skips' hs' hg hk hne=>by
   have:=candGo_ok hx hr hd hsat hN h0 hlv hrec cs (s:=s') (L++[(k,c)]) (skips:=skips') (by rw [List.map_append,List.append_assoc]; exact hL) hs'
    (fun y hy=>by
     rcases List.mem_append.1 hy with hy | hy
     ·exact Nat.lt_of_lt_of_le (hlt y hy) hg.len
     ·rw [List.mem_singleton.1 hy]; exact hk)
    (fun hf'=>by
     obtain ⟨e1,e2⟩:=hne hf';refine ⟨fun y hy=>?_,by rw [List.map_append]; exact e2⟩;rcases List.mem_append.1 hy with hy | hy
     ·rw [hg.at (hlt y hy)]; exact hre1 y hy
     ·rw [List.mem_singleton.1 hy]; exact e1)
   rw [List.map_append] at this;exact this.grown hg
  cases hfd:needs.find? fun n=>!has n.rq.set c.place with
  | some n =>
   dsimp only;have hn1:=List.mem_of_find?_eq_some hfd;have hn2:=List.find?_some hfd;have hn2:has n.rq.set c.place=false:=by simpa using hn2
   obtain ⟨hn3,hn4⟩:=(hN.mem n).1 hn1;obtain ⟨e1,e2,e3⟩:=need_ent hx hr hE (needs_mono hn3) ⟨c,by simp,by rw [c1,hn4],hn2⟩;obtain ⟨i1,i2,i3,i4⟩:=infS_ok hs e1;refine go _ _ _ i1 i4 i2 fun hf'=>?_;rw [i3 hf'];exact ⟨⟨e2,need_conc hx hr hd hN hc hn1 hn2⟩,skRel.out (by
    intro h;rw [List.all_eq_true] at h;rw [h n hn1] at hn2; cases hn2) (hre2.mono i4)⟩
  | none =>
   dsimp only;have hfit:∀ n ∈ needs,has n.rq.set c.place=true:=fun n hn=>by
    rw [List.find?_eq_none] at hfd;simpa using hfd n hn
   have hall:(needs.all fun n=>has n.rq.set c.place)=true:=by rw [List.all_eq_true]; exact hfit
   have aft:∀ (s' : SS) (k:Nat),DerOk x roots s'→Grow s s'→k<s'.drv.length→(s'.full=false→entailed (atD s' k) (keysC (dec++[c]))=true) →
     SRes x roots (((candsP x p).map fun c=>if okC dec needs c then lv (dec++[c]) else []).flatten) dec s st (aftGo rec x p needs n0 dec st c cs (L.map (·.1)) skips k s'):=fun s' k hs' hg hk he=>by
    unfold aftGo;cases hcc:concB (atD s' k) p with
    | false =>
     rw [if_pos rfl];exact ⟨hs',hg,fun _=>⟨rfl,rfl,fun hf'=>⟨hk,ent_drop hx hd c2.1 (he hf') (by rw [c1]; exact hcc)⟩⟩,fun h=>(by cases h)⟩
    | true =>
     rw [if_neg (by decide)];exact go _ _ _ hs' hg hk fun hf'=>⟨⟨he hf',hcc⟩,skRel.add hall ⟨hk,he hf'⟩ (hre2.mono hg)⟩
   cases hen:entN s.drv (keysC (dec++[c])) with
   | some k =>
    dsimp only;obtain ⟨k1,k2⟩:=entN_some hen;exact aft s k hs (.refl s) k1 fun _=>k2
   | none =>
    dsimp only;cases hcl:clashN dec c with
    | some n =>
     dsimp only;obtain ⟨m1,m2⟩:=clash_some hcl;obtain ⟨e1,e2,e3⟩:=need_ent hx hr hE (needs_rel m1) m2;obtain ⟨i1,i2,i3,i4⟩:=infS_ok hs e1;exact aft _ _ i1 i4 i2 fun hf'=>by rw [i3 hf']; exact e2
    | none =>
     dsimp only;have hok:okC dec needs c=true:=okC_iff.2 ⟨hfit,hcl⟩;have hR:=hrec c hc hok s (st++[skips]) hs hf;generalize rec (dec++[c]) s (st++[skips])=o at hR
     by_cases hfo:o.found=true
     ·rw [if_pos hfo];obtain ⟨y1,t,sl,y2,y3,y4,y5⟩:=hR.yes hfo;refine ⟨hR.der,hR.grow,fun h=>(by cases h),fun _=>⟨y1,c :: t,skips :: sl,by show o.dec=_; rw [y2]; simp,by show o.stack=_; rw [y3]; simp,⟨⟨p,needs,L.map (·.2),cs,hN,hL.symm,hfit,hcl,hre2.mono hR.grow⟩,y4⟩,?_⟩⟩;show _=some o.dec;rw [← hL,List.map_append,List.flatten_append,List.map_cons,List.flatten_cons];have hnil:((L.map (·.2)).map fun c=>if okC dec needs c then lv (dec++[c]) else []).flatten=[]:=by
       rw [List.flatten_eq_nil_iff];intro l hl;obtain ⟨d,hd',rfl⟩:=List.mem_map.1 hl;obtain ⟨y,hy,rfl⟩:=List.mem_map.1 hd';split
       ·rename_i hoy;have hyc:y.2 ∈ candsP x p:=by rw [← hL]; exact List.mem_append_left _ hd'
        refine List.eq_nil_iff_forall_not_mem.2 fun d hd''=>no_leaf hx hs (hlt y hy) (hre1 y hy).1 (hlv y.2 hyc hoy d hd'')
       ·rfl
      rw [hnil,List.nil_append,if_pos hok,List.head?_append,y5]; rfl
     ·rw [if_neg hfo];have hfo:o.found=false:=by simpa using hfo
      obtain ⟨n1,n2,n3⟩:=hR.no hfo
      by_cases hfu:o.ss.full=true
      ·rw [if_pos hfu];exact ⟨hR.der,hR.grow,fun _=>⟨rfl,rfl,fun h=>by rw [show (⟨0,false,o.ss,dec,st⟩ : SOut).ss=o.ss from rfl,hfu] at h; cases h⟩,fun h=>(by cases h)⟩
      ·rw [if_neg hfu];have hfu:o.ss.full=false:=by simpa using hfu
       exact aft _ _ hR.der hR.grow (n3 hfu).1 fun _=>(n3 hfu).2
end
theorem freeN_snoc {x:List Rl} {dec:List Cd} {c:Cd} (h:c.rel ∈ x∧c.rel.yanked=false) (hu:doneC dec c.rel.path=false):freeN x (dec++[c])<freeN x dec:=by
 have key:∀ l:List Rl,(l.filter fun r=>!r.yanked&&!doneC (dec++[c]) r.path).length≤(l.filter fun r=>!r.yanked&&!doneC dec r.path).length ∧
   (c.rel ∈ l→(l.filter fun r=>!r.yanked&&!doneC (dec++[c]) r.path).length<(l.filter fun r=>!r.yanked&&!doneC dec r.path).length):=by
  intro l
  induction l with
  | nil=>exact ⟨Nat.le_refl _,fun h=>(by cases h)⟩
  | cons r l ih =>
   have hsub:(!r.yanked&&!doneC (dec++[c]) r.path)=true→(!r.yanked&&!doneC dec r.path)=true:=fun e=>by
    simp only [Bool.and_eq_true,Bool.not_eq_true'] at e ⊢;refine ⟨e.1,?_⟩
    have:=e.2
    unfold doneC at this ⊢;rw [List.any_append,Bool.or_eq_false_iff] at this;exact this.1
   rw [List.filter_cons,List.filter_cons];refine ⟨?_,fun hm=>?_⟩
   ·by_cases e:(!r.yanked&&!doneC (dec++[c]) r.path)=true
    ·rw [if_pos e,if_pos (hsub e)]; simp; exact ih.1
    ·rw [if_neg e];split
     ·simp; have:=ih.1; omega
     ·exact ih.1
   ·rcases List.mem_cons.1 hm with rfl | hm
    ·have e1:¬ (!c.rel.yanked&&!doneC (dec++[c]) c.rel.path)=true:=by
      have:doneC (dec++[c]) c.rel.path=true:=by unfold doneC; simp
      rw [this]; simp
     have e2:(!c.rel.yanked&&!doneC dec c.rel.path)=true:=by rw [h.2,hu]; rfl
     rw [if_neg e1,if_pos e2];simp; have:=ih.1; omega
    ·have:=ih.2 hm
     by_cases e:(!r.yanked&&!doneC (dec++[c]) r.path)=true
     ·rw [if_pos e,if_pos (hsub e)]; simp; exact this
     ·rw [if_neg e];split
      ·simp; omega
      ·exact this
 exact (key x).2 h.1
theorem solveS_ok {x:List Rl} {roots:List Rq} (hx:checkIx x=0) (hr:checkRqs roots=0):∀ (n:Nat) {dec:List Cd} {s:SS} {st:List (List Sk)},DecOk x dec→SatOk roots dec→DerOk x roots s→s.full=false→freeN x dec<n →
  SRes x roots (leaves x roots n dec) dec s st (solveS x roots n dec s st)
 | 0,_,_,_,_,_,_,_,h=>by omega
 | n+1,dec,s,st,hd,hsat,hs,hf,hn=>by
  unfold solveS leaves;cases e:(nextN roots dec).2 with
  | nil =>
   exact ⟨hs,.refl s,fun h=>(by cases h),fun _=>⟨hf,[],[],by simp,by simp,nextN_none.1 e,rfl⟩⟩
  | cons n0 l =>
   have hN:=nextN_some e;have next:∀ c ∈ candsP x (nextN roots dec).1,okC dec (n0 :: l) c=true→DecOk x (dec++[c])∧SatOk roots (dec++[c])∧freeN x (dec++[c])<n:=fun c hc hok=>by
    obtain ⟨c1,c2⟩:=cand_ok hc;have hu:doneC dec c.rel.path=false:=by rw [c1]; exact hN.undone
    obtain ⟨k1,k2⟩:=okC_iff.1 hok;exact ⟨hd.snoc c2 hu,hsat.snoc hN c1 k1 k2,by have:=freeN_snoc (dec:=dec) ⟨c2.1,c2.2.1⟩ hu; omega⟩
   exact candGo_ok hx hr hd hsat hN (List.mem_cons_self ..) (lv:=leaves x roots n) (fun c hc hok d hd'=>leaves_lf (next c hc hok).1 (next c hc hok).2.1 d hd')
    (fun c hc hok s st hs hf=>solveS_ok hx hr n (next c hc hok).1 (next c hc hok).2.1 hs hf (next c hc hok).2.2) _ [] rfl hs (fun y hy=>by cases hy) (fun _=>⟨fun y hy=>(by cases hy),rfl⟩)
theorem freeN_le (x:List Rl) (dec:List Cd):freeN x dec≤x.length:=List.length_filter_le _ _
theorem solveX_ok {x:List Rl} {roots:List Rq} (hx:checkIx x=0) (hr:checkRqs roots=0):SRes x roots (leaves x roots (x.length+1) []) [] ss0 [] (solveX x roots) :=
 solveS_ok hx hr _ (.nil x) (.nil roots) (.nil x roots) rfl (by have:=freeN_le x []; omega)
end Go.Eng

namespace Go.Eng
end Go.Eng

namespace Go.Eng
end Go.Eng
