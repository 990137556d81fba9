/- Lemmas for the claims of this seat, without a condition: part 9 (EngR, EngS). -/
import Derived.Test.YtkmnnpmneamgoaaGreatDoorA08
namespace Go.Eng

theorem RepL.app {g:Gh} {w:World} {U:Nat→Prop} {as1 bs:List AV} {xs ys:List Value} (h:RepL g w U as1 xs) (k:RepL g w U bs ys):RepL g w U (as1++bs) (xs++ys):=by
 refine ⟨by simp [h.1,k.1],fun x hx=>(List.mem_append.1 hx).elim (h.2.1 x) (k.2.1 x),fun i av x h1 h2=>?_⟩
 by_cases hi:i<as1.length
 ·rw [List.getElem?_append_left hi] at h1;rw [List.getElem?_append_left (by rw [h.1]; exact hi)] at h2;exact h.2.2 i av x h1 h2
 ·rw [List.getElem?_append_right (by omega)] at h1;rw [List.getElem?_append_right (by rw [h.1]; omega),h.1] at h2;exact k.2.2 _ av x h1 h2

section
variable {P:Program} {w0:World} {g0:Gh} {h0 h:Nat→HO} {g:Gh} {w:World} (hI:Inv w0 g0 h0 h g w)
include hI

omit hI in
theorem run_append_room' (t ty e:TypeId) (i:TypeInfo) (ht:P.underlying t=some (.slice e)) (hi:P.info? e=some i) {E:TypeId}
  (g sLen sCap:Nat) (cur:Array Value) (hg:w.heap[g]?=some (.cells cur E (0,0)))
  (a:Addr) (m c:Nat) (news:List Value) (hl:news.length=m*i.size) (hnews:∀ j u,news[j]?=some u→w.cell? (a.add j)=some u) (h1:∀ u ∈ news,u.oneCell'=true)
  (hroom:sLen+m≤sCap) (hfit:sLen*i.size+news.length≤cur.size) :
  (Builtin.append_ #[t,t] ty #[.slice (some ⟨g,0,none⟩) sLen sCap,.slice (some a) m c]).run P w =
   .ok (.slice (some ⟨g,0,none⟩) (sLen+m) sCap) (w.setRow g (cur.toList.take (sLen*i.size)++news++cur.toList.drop (sLen*i.size+news.length)).toArray):=by
 have hf:=run_firstCells_some (P:=P) w i.size m a m c news hl hnews;have hst:=run_storeCells_at P g (sLen*i.size) E news 0 cur w hg (by simpa using hfit) h1;simp only [Nat.add_zero] at hst;simp [Builtin.append_,run_underlying ht,sizeOf,typeInfo,hi,Builtin.lenOf,hroom,hf,Addr.add_lit,hst]

omit hI in
theorem run_append_off (t ty e:TypeId) (i:TypeInfo) (ht:P.underlying t=some (.slice e)) (hi:P.info? e=some i) {E:TypeId}
  (g off sLen sCap:Nat) (cur:Array Value) (hg:w.heap[g]?=some (.cells cur E (0,0)))
  (a:Addr) (m c:Nat) (news:List Value) (hl:news.length=m*i.size) (hnews:∀ j u,news[j]?=some u→w.cell? (a.add j)=some u) (h1:∀ u ∈ news,u.oneCell'=true)
  (hroom:sLen+m≤sCap) (hfit:off+sLen*i.size+news.length≤cur.size) :
  (Builtin.append_ #[t,t] ty #[.slice (some ⟨g,off,none⟩) sLen sCap,.slice (some a) m c]).run P w =
   .ok (.slice (some ⟨g,off,none⟩) (sLen+m) sCap) (w.setRow g (cur.toList.take (off+sLen*i.size)++news++cur.toList.drop (off+sLen*i.size+news.length)).toArray):=by
 have hf:=run_firstCells_some (P:=P) w i.size m a m c news hl hnews;have hst:=run_storeCells_at P g (off+sLen*i.size) E news 0 cur w hg (by simpa using hfit) h1;simp only [Nat.add_zero] at hst;simp [Builtin.append_,run_underlying ht,sizeOf,typeInfo,hi,Builtin.lenOf,hroom,hf,Addr.add_lit,hst]

omit hI in
theorem row_off {b off n m sz cap:Nat} {cur:Array Value} {E:TypeId} {olds news:List Value} (hb:w.heap[b]?=some (.cells cur E (0,0))) (hcur:cur.size=off+cap*sz) (hn:n≤cap) (hm:n+m≤cap) (hnl:news.length=m*sz) (hol:olds.length=n*sz)
  (holds:∀ j u,olds[j]?=some u→w.cell? ⟨b,off+j,none⟩=some u) :
  (cur.toList.take (off+n*sz)++news++cur.toList.drop (off+n*sz+news.length)).length=off+cap*sz ∧
  ((cur.toList.take (off+n*sz)++news++cur.toList.drop (off+n*sz+news.length)).drop off).take ((n+m)*sz)=olds++news ∧
  ∀ o,o<off+n*sz→(cur.toList.take (off+n*sz)++news++cur.toList.drop (off+n*sz+news.length)).toArray[o]?=cur[o]?:=by
 have hcl:cur.toList.length=off+cap*sz:=by rw [Array.length_toList]; exact hcur
 have hmul:(n+m)*sz≤cap*sz:=Nat.mul_le_mul_right _ hm;have hmul2:n*sz≤cap*sz:=Nat.mul_le_mul_right _ hn;rw [Nat.add_mul] at hmul;have htake:(cur.toList.take (off+n*sz)).drop off=olds:=by
  apply List.ext_getElem?;intro j
  by_cases hj:j<n*sz
  ·rw [List.getElem?_drop,List.getElem?_take_of_lt (by omega)];have hx:olds[j]?=some olds[j]:=List.getElem?_eq_getElem (by omega)
   have:=holds j _ hx
   rw [cell_row hb] at this;rw [Array.getElem?_toList,this,hx]
  ·rw [List.getElem?_eq_none (by rw [List.length_drop,List.length_take]; omega),List.getElem?_eq_none (by omega)]
 have htl:(cur.toList.take (off+n*sz)).length=off+n*sz:=by rw [List.length_take]; omega
 refine ⟨?_,?_,fun o ho=>?_⟩
 ·rw [List.length_append,List.length_append,htl,List.length_drop,hcl,hnl]; omega
 ·rw [List.append_assoc,List.drop_append_of_le_length (by rw [htl]; omega),htake,← List.append_assoc,List.take_left' (by rw [List.length_append,hol,hnl,Nat.add_mul])]
 ·rw [List.getElem?_toArray,List.append_assoc,List.getElem?_append_left (by rw [htl]; exact ho),List.getElem?_take_of_lt ho,Array.getElem?_toList]

omit hI in
theorem row_room {b n m sz cap:Nat} {cur:Array Value} {E:TypeId} {olds news:List Value} (hb:w.heap[b]?=some (.cells cur E (0,0))) (hcur:cur.size=cap*sz) (hn:n≤cap) (hm:n+m≤cap) (hnl:news.length=m*sz) (hol:olds.length=n*sz)
  (holds:∀ j u,olds[j]?=some u→w.cell? ⟨b,j,none⟩=some u) :
  (cur.toList.take (n*sz)++news++cur.toList.drop (n*sz+news.length)).length=cap*sz ∧
  (cur.toList.take (n*sz)++news++cur.toList.drop (n*sz+news.length)).take ((n+m)*sz)=olds++news ∧
  ∀ o,o<n*sz→(cur.toList.take (n*sz)++news++cur.toList.drop (n*sz+news.length)).toArray[o]?=cur[o]?:=by
 have hcl:cur.toList.length=cap*sz:=by rw [Array.length_toList]; exact hcur
 have hmul:(n+m)*sz≤cap*sz:=Nat.mul_le_mul_right _ hm;have hmul2:n*sz≤cap*sz:=Nat.mul_le_mul_right _ hn;rw [Nat.add_mul] at hmul;have htake:cur.toList.take (n*sz)=olds:=by
  apply List.ext_getElem?;intro j
  by_cases hj:j<n*sz
  ·rw [List.getElem?_take_of_lt hj];have hx:olds[j]?=some olds[j]:=List.getElem?_eq_getElem (by omega)
   have:=holds j _ hx
   rw [cell_row hb] at this;rw [Array.getElem?_toList,this,hx]
  ·rw [List.getElem?_eq_none (by rw [List.length_take]; omega),List.getElem?_eq_none (by omega)]
 have htl:(cur.toList.take (n*sz)).length=n*sz:=by rw [List.length_take]; omega
 refine ⟨?_,?_,fun o ho=>?_⟩
 ·rw [List.length_append,List.length_append,htl,List.length_drop,hcl,hnl]; omega
 ·rw [htake,List.take_left' (by rw [List.length_append,hol,hnl,Nat.add_mul])]
 ·rw [List.getElem?_toArray,List.append_assoc,List.getElem?_append_left (by rw [htl]; exact ho),List.getElem?_take_of_lt ho,Array.getElem?_toList]

theorem arr_shows {r n sz:Nat} {es:List (List AV)} {x:Value} (he:h r=.arr sz es) (hx:Rep g w (used h) (.msl r n) x) (hn:n=es.length) :
  x=g.ρ r∧∃ news,Shows w x es.length sz news∧RepL g w NoU es.flatten news:=by
 have ho:=hI.objs r;rw [he] at ho;obtain ⟨t1,l1,al,a1⟩:=ho;cases hx with
 | msl _ _ _ a cap hu ht hn' ha hx' =>
  have e:=hx' (hn.trans l1.symm);refine ⟨e,?_⟩;rw [e];rcases a1 with ⟨rfl,e2,e3⟩ | ⟨b,cap',E,vs,e1,e2,e3,e4,e5,e6,e7⟩
  ·exact ⟨[],⟨by simp,by simp,none,0,e2,.inl rfl⟩,by simp,by simp,fun i av x h1 h2=>by simp at h2⟩
  ·have hcur:vs.toList.length=cap'*sz:=by rw [Array.length_toList]; exact e5
   have hle:es.length*sz≤vs.toList.length:=by rw [hcur]; exact Nat.mul_le_mul_right _ e3
   refine ⟨vs.toList.take (es.length*sz),⟨by rw [List.length_take,Nat.min_eq_left hle],e6.2.1,_,_,e1,.inr ⟨_,rfl,fun j u hj=>?_⟩⟩,e6⟩;rw [Addr.add_lit,Nat.zero_add,cell_row e4];have hlt:=(List.getElem?_eq_some_iff.1 hj).1;rw [List.length_take] at hlt;rw [List.getElem?_take_of_lt (by omega),Array.getElem?_toList] at hj;exact hj

theorem elemsK_ok {sz:Nat} {x:AV} {vx:Value} {K:List (List AV)→Prop} (hx:Rep g w (used h) x vx) (hk:elemsK h x K) :
  ∃ es,K es∧((∀ c ∈ es,c.length=sz)→∃ news,Shows w vx es.length sz news∧RepL g w NoU es.flatten news):=by
 unfold elemsK at hk;split at hk
 ·exact ⟨_,hk,fun hl=>Shows.of_rep hx.slice_none hl⟩
 ·obtain rfl:=hx.v_eq;exact ⟨[],hk,fun _=>⟨[],⟨by simp,by simp,none,0,rfl,.inl rfl⟩,by simp,by simp,fun i av x h1 h2=>by simp at h2⟩⟩
 ·rename_i r n;split at hk
  ·rename_i sz' es e;obtain ⟨hn,hk⟩:=hk;refine ⟨es,hk,fun hl=>?_⟩;obtain ⟨_,news,n1,n2⟩:=arr_shows hI e hx hn;refine ⟨news,?_,n2⟩
   have:news.length=es.length*sz:=by rw [n2.1,flatten_len hl]
   exact ⟨this,n1.2.1,n1.2.2⟩
  ·exact hk.elim
 ·exact hk.elim

theorem newNil_ok {cx:Cx} {d:Option Nat} {sz:Nat} {K:HK} (hk:newSliceK cx d h sz [] K) :
  ∃ g' av h',K av h'∧Inv w0 g0 h0 h' g' w∧Le h g w h' g' w∧Rep g' w (used h') av (.slice none 0 0):=by
 have base:∀ (d:Nat) (o' : HO),h d=.free→o'≠.free→(∀ g' : Gh,g'.ρ d=.slice none 0 0→g'.ln d=0→g'.tk d=true→g'.own d=none→ObjRep g' w (used (hput h d o')) d o') →
   Inv w0 g0 h0 (hput h d o') (g.upd d (.slice none 0 0) 0 true none g.S) w∧Le h g w (hput h d o') (g.upd d (.slice none 0 0) 0 true none g.S) w:=by
  intro d o' hd hne hobj;refine hI.upd d o' _ _ _ _ _ w none ⟨rfl,rfl,rfl,Nat.le_refl _⟩ (fun _ _ _=>rfl) (fun b e=>by cases e) (fun _ _ h=>h) (fun _ _ h=>.inl h) (fun b o e=>by cases e) (fun b _ e=>by cases e) hne (fun hu=>absurd hd hu) (fun _ _=>?_);obtain ⟨u1,u2,u3,u4⟩:=upd_same g d (.slice none 0 0) 0 true none g.S;exact hobj _ u1 u2 u3 u4
 unfold newSliceK at hk;split at hk
 ·exact hk.elim
 ·rename_i d;generalize did cx d=d1 at hk;split at hk
  ·rename_i hd;split at hk
   ·obtain ⟨k1,k2⟩:=base d1 (.arr sz []) hd (by simp) (fun g' u1 u2 u3 u4=>⟨u3,u2,by simp,.inl ⟨rfl,u1,u4⟩⟩);exact ⟨_,_,_,hk,k1,k2,.msl _ d1 0 none 0 (by unfold used; rw [hput_same]; simp) (by simp [Gh.upd]) (Nat.zero_le _) (.inl rfl) (fun _=>by simp [Gh.upd])⟩
   ·obtain ⟨k1,k2⟩:=base d1 (.tok sz 0) hd (by simp) (fun g' u1 u2 u3 u4=>⟨u3,u2,none,0,u1,.inl ⟨rfl,u4⟩⟩);exact ⟨_,_,_,hk,k1,k2,.tok _ d1 sz [] _ (.snil _ _ _) (by simp) (by unfold used; rw [hput_same]; simp) (by simp [Gh.upd]) (Nat.zero_le _) (fun _=>by simp [Gh.upd])⟩
  ·exact hk.elim

theorem appendK_ok {cx:Cx} (hT:TabOk P cx.T) {d:Option Nat} {t ty:Nat} {s x:AV} {vs vx:Value} {K:HK} (hs:Rep g w (used h) s vs) (hx:Rep g w (used h) x vx) (hk:appendK cx d h t s x K) :
  Does P w0 g0 h0 h g w (Builtin.append_ #[t,t] ty #[vs,vx]) K:=by
 unfold appendK at hk;split at hk
 ·rename_i e ht;split at hk
  ·exact hk.elim
  ·rename_i hz;have hz:=Nat.eq_of_beq_eq_true hz;split at hk
   ·exact hk.elim
   ·rename_i k hsz;have h5:=elemsK_ok hI (sz:=(cx.T e).size) hx hk
    clear hk
    obtain ⟨es2,hk,h6⟩:=h5;split at hk
    ·obtain ⟨⟨q1,q2,q3⟩,hk⟩:=hk;obtain rfl:=hs.v_eq;obtain ⟨news,n1,n2⟩:=h6 (AllLen_mem q1);obtain ⟨m1,m2,a,c,rfl,m4⟩:=n1
     by_cases hm:es2.length=0
     ·obtain rfl:=List.eq_nil_of_length_eq_zero hm;obtain ⟨g',av,h',k1,k2,k3,k4⟩:=newNil_ok hI hk;exact ⟨_,w,g',av,h',run_append_zero hT w ht hsz none a 0 0 c (Nat.le_refl _),k1,k2,k3,k4⟩
     ·obtain ⟨nc,rest,r1,r2,r3⟩:=run_append_new hT w (ty:=ty) ht hsz hz (olds:=[]) (a:=none) (n:=0) (cap:=0) ⟨by simp,by simp,none,0,rfl,.inl rfl⟩ rfl (fun _=>rfl) ⟨m1,m2,a,c,rfl,m4⟩ rfl (by omega) (by omega) (by rw [Nat.zero_add]; exact q2) (by omega);obtain ⟨g',av,h',k1,k2,k3,k4⟩:=newSlice_ok hI hk (vs:=([]++news++rest).toArray) (cap:=nc) e (AllLen_mem q1) (by omega) (by simpa using r3) (by
       rw [List.nil_append,show (news++rest).toArray.toList=news++rest from rfl,List.take_left' m1]; exact n2) w.drew ⟨rfl,rfl,rfl,rfl⟩
      rw [Nat.zero_add] at r1;exact ⟨_,_,g',av,h',r1,k1,k2,k3,k4⟩
    ·rename_i sz' es;split at hk
     ·rename_i hse;obtain hse:=Nat.eq_of_beq_eq_true hse;obtain ⟨⟨q1,q2,q3,q4⟩,hk⟩:=hk;obtain ⟨news,n1,n2⟩:=h6 (AllLen_mem q1);obtain ⟨m1,m2,a2,c2,rfl,m4⟩:=n1;cases hs with
      | full _ _ _ _ hr hls hx' =>
       obtain ⟨a,rfl⟩:=hx';have hall:∀ c ∈ es++es2,c.length=(cx.T e).size:=fun c hc=>(List.mem_append.1 hc).elim (fun h=>(hls c h).trans hse) (AllLen_mem q1 c);obtain ⟨olds,o1,o2⟩:=Shows.of_rep hr (sz:=(cx.T e).size) (fun c hc=>(hls c hc).trans hse);have hrl:=o2.app n2;rw [← List.flatten_append] at hrl;have ha:a=none→es.length=0:=by
        rintro rfl
        obtain ⟨p1,p2,a',c',p3,p4⟩:=o1;cases p3;rcases p4 with h | ⟨b',h,_⟩
        ·exact h
        ·cases h
       obtain ⟨nc,rest,r1,r2,r3⟩:=run_append_new hT w (ty:=ty) ht hsz hz o1 rfl ha ⟨m1,m2,a2,c2,rfl,m4⟩ rfl q2 (by omega) q3 q4;obtain ⟨g',av,h',k1,k2,k3,k4⟩:=newSlice_ok hI hk (vs:=(olds++news++rest).toArray) (cap:=nc) e hall (by rw [List.length_append]; exact r2) (by rw [List.size_toArray]; exact r3) (by
        rw [show (olds++news++rest).toArray.toList=olds++news++rest from rfl,List.take_left' (by rw [List.length_append,List.length_append,o1.1,m1,Nat.add_mul])]; exact hrl) w.drew ⟨rfl,rfl,rfl,rfl⟩
       rw [List.length_append] at k4;exact ⟨_,_,g',av,h',r1,k1,k2,k3,k4⟩
     ·exact hk.elim
    ·rename_i r sz' es;have ho:=hI.objs r;split at hk
     ·rename_i sz n e0;rw [e0] at ho;split at hk
      ·rename_i hse hse2;obtain rfl:=Nat.eq_of_beq_eq_true hse2;obtain hse:=Nat.eq_of_beq_eq_true hse;obtain ⟨⟨q1,q2,q3,q4⟩,hk⟩:=hk;rw [hse] at q1;obtain ⟨news,n1,n2⟩:=h6 (AllLen_mem q1);obtain ⟨m1,m2,a2,c2,rfl,m4⟩:=n1;obtain ⟨t1,l1,a,cap,a1,a3⟩:=ho;have hl:(h r).live:=by rw [e0]; trivial
       have hall:∀ c ∈ es++es2,es.length=n→True:=fun _ _ _=>trivial;cases hs with
       | tok _ _ _ _ _ hr hls hu ht' hn hx' =>
        have hv:=hx' (q2.trans l1.symm);rw [a1] at hv;subst hv;subst q2;have hall:∀ c ∈ es++es2,c.length=sz':=fun c hc=>(List.mem_append.1 hc).elim (hls c) (fun h=>(AllLen_mem q1 c h).trans hse.symm);obtain ⟨olds,o1,o2⟩:=Shows.of_rep hr hls;have hrl:=o2.app n2;rw [← List.flatten_append] at hrl;have hcapn:es.length≤cap:=by rcases a3 with ⟨e1,_⟩ | ⟨e1,_⟩ <;> omega
        by_cases hm:es2.length=0
        ·obtain rfl:=List.eq_nil_of_length_eq_zero hm;have hobj:=hI.objs r;rw [e0] at hobj
         obtain ⟨k1,k2⟩:=hI.upd r (.tok sz' (es.length+([]:List (List AV)).length)) (g.ρ r) (g.ln r) (g.tk r) (g.own r) g.S w none ⟨rfl,rfl,rfl,Nat.le_refl _⟩ (fun _ _ _=>rfl) (fun b e=>by cases e) (fun _ _ h=>h) (fun _ _ h=>.inl h) (fun b o e=>by cases e)
          (fun b _ e=>⟨(hI.loc r b hl e).1,.inl ⟨hl,e⟩⟩) (by simp) (fun _=>⟨rfl,Nat.le_refl _,fun _=>rfl,fun _=>rfl⟩) (fun hg hkp=>by
           obtain ⟨u1,u2,u3,u4⟩:=upd_same g r (g.ρ r) (g.ln r) (g.tk r) (g.own r) g.S;rw [List.length_nil,Nat.add_zero];exact hobj.same hkp (fun i hi=>used_hput (by simp) i hi) hg u1 u2 u3 u4 (fun b _ _=>⟨rfl,fun _ h=>h⟩))
         refine ⟨_,w,_,_,_,run_append_zero hT w ht hsz a a2 es.length cap c2 hcapn,hk,k1,k2,?_⟩;rw [List.append_nil];exact (Rep.tok (used h) r sz' es _ hr hls hu ht' hn hx').le k2
        ·by_cases hroom:es.length+es2.length≤cap
         ·rcases a3 with ⟨e1,_⟩ | ⟨e1,b,E,cur,off,rfl,e3,e4,e5,e6⟩
          ·omega
          ·rcases m4 with h | ⟨ba,rfl,hnews⟩
           ·omega
           ·obtain ⟨i,z,i1,i2,i3,i4,i5⟩:=append_facts hT hsz;have hmul:(es.length+es2.length)*sz'≤cap*sz':=Nat.mul_le_mul_right _ hroom;have hm1:news.length=es2.length*sz':=by rw [hse]; exact m1
            have hisz:i.size=sz':=i3.trans hse.symm;have hrun:=run_append_off (P:=P) t ty e i (hT.slice ht) i1 b off es.length cap cur e4 ba es2.length c2 news (by rw [hisz]; exact hm1) hnews m2 hroom (by rw [hisz,hm1,e5]; rw [Nat.add_mul] at hmul; omega);rw [hisz] at hrun;have holds:∀ j u,olds[j]?=some u→w.cell? ⟨b,off+j,none⟩=some u:=by
             obtain ⟨p1,p2,a',c',p3,p4⟩:=o1;cases p3;intro j u hj;rcases p4 with h | ⟨b',h,h'⟩
             ·rw [h,Nat.zero_mul] at p1;rw [List.eq_nil_of_length_eq_zero p1] at hj; simp at hj
             ·cases h
              have:=h' j u hj
              rwa [Addr.add_lit] at this
            obtain ⟨p1,p2,p3⟩:=row_off e4 e5 e1 hroom hm1 o1.1 holds;generalize hnewd:cur.toList.take (off+es.length*sz')++news++cur.toList.drop (off+es.length*sz'+news.length)=new at hrun p1 p2 p3;have hnew:=setRow_heap w b cur new.toArray E (0,0) e4;have hblt:=(hI.loc r b hl e3).1
            obtain ⟨k1,k2⟩:=hI.upd r (.tok sz' (es.length+es2.length)) (.slice (some ⟨b,off,none⟩) (es.length+es2.length) cap) (es.length+es2.length) (g.tk r) (g.own r) (g.more b (off+(es.length+es2.length)*sz')) (w.setRow b new.toArray) (some b)
             ⟨rfl,rfl,rfl,by rw [size_setRow]; exact Nat.le_refl _⟩ (fun k _ hne=>setRow_other w b k _ (fun e=>hne (by rw [e]))) (fun b' e=>by cases e; exact ⟨hl,e3⟩) (fun _ _ h=>.inl h)
             (fun b' o hs=>hs.elim .inl (fun hs=>.inr ⟨by rw [size_setRow,hs.1]; exact hblt,.inr ⟨hl,by rw [hs.1]; exact e3⟩⟩))
             (fun b' o e hs=>by
              cases e
              refine ⟨?_,fun es ck he=>by rw [e4] at he; cases he⟩;rw [cell_row hnew,cell_row e4];exact p3 o (e6 o hs)) (fun b' _ e=>by
              rw [e3] at e; cases e;exact ⟨by rw [size_setRow]; exact hblt,.inl ⟨hl,e3⟩⟩) (by simp) (fun _=>⟨rfl,by omega,fun e=>(by rw [t1] at e; cases e),fun e=>by omega⟩) (fun hg hkp=>by
              obtain ⟨u1,u2,u3,u4⟩:=upd_same g r (.slice (some ⟨b,off,none⟩) (es.length+es2.length) cap) (es.length+es2.length) (g.tk r) (g.own r) (g.more b (off+(es.length+es2.length)*sz'));exact ⟨u3.trans t1,u2,_,cap,u1,  .inr ⟨hroom,b,E,_,off,rfl,u4.trans e3,hnew,by rw [List.size_toArray]; exact p1,fun o ho=>by
               rcases ho with ho | ⟨_,ho⟩
               ·have h1:=e6 o ho;have h2:es.length*sz'≤(es.length+es2.length)*sz':=Nat.mul_le_mul_right _ (by omega);omega
               ·exact ho⟩⟩)
            have hrep:=Rep.slice_off (g:=g.upd r (.slice (some ⟨b,off,none⟩) (es.length+es2.length) cap) (es.length+es2.length) (g.tk r) (g.own r) (g.more b (off+(es.length+es2.length)*sz'))) (U:=used (hput h r (.tok sz' (es.length+es2.length)))) (cap:=cap) (es:=es++es2) hnew hall (by rw [List.length_append]; exact hroom) (by
             rw [List.length_append,show new.toArray.toList=new from rfl,p2];exact hrl.mono k2.keeps (fun _ h=>h) (fun _ h=>h.elim)) (fun o ho=>.inr ⟨rfl,by rw [List.length_append] at ho; exact Nat.add_lt_add_left ho off⟩)
            rw [List.length_append] at hrep;exact ⟨_,_,_,_,_,hrun,hk,k1,k2,.tok _ r sz' _ _ hrep hall (by unfold used; rw [hput_same]; simp) (by simp [Gh.upd,t1]) (by simp [Gh.upd]) (fun _=>by simp [Gh.upd])⟩
         ·have hgrow:cap<es.length+es2.length:=by omega
          have ha:a=none→cap=0:=by
           rintro rfl
           rcases a3 with ⟨e1,_⟩ | ⟨_,b,_,_,_,e2,_⟩
           ·obtain ⟨p1,p2,a',c',p3,p4⟩:=o1;cases p3;rcases p4 with h | ⟨b',h,_⟩
            ·omega
            ·cases h
           ·cases e2
          obtain ⟨nc,rest,r1,r2,r3⟩:=run_append_new hT w (ty:=ty) ht hsz hz (by rw [← hse]; exact o1) rfl ha ⟨m1,m2,a2,c2,rfl,m4⟩ rfl (by omega) hgrow q3 q4;have hnew:=heap_new w.drew (.cells (olds++news++rest).toArray e (0,0)) (b:=w.heap.size) rfl
          obtain ⟨k1,k2⟩:=hI.upd r (.tok sz' (es.length+es2.length)) (.slice (some ⟨w.heap.size,0,none⟩) (es.length+es2.length) nc) (es.length+es2.length) (g.tk r) (some w.heap.size) (g.more w.heap.size ((es.length+es2.length)*sz'))
           (w.drew.alloc (.cells (olds++news++rest).toArray e (0,0))) none
           ⟨rfl,rfl,rfl,by rw [World.size_alloc]; exact Nat.le_succ _⟩ (fun k hk' _=>by rw [heap_alloc_old _ _ (by exact hk')]; rfl) (fun b' e=>by cases e) (fun _ _ h=>.inl h)
           (fun b' o hs=>hs.elim .inl (fun hs=>.inr ⟨by rw [World.size_alloc,hs.1]; exact Nat.lt_succ_self _,.inl (by rw [hs.1]; exact Nat.le_refl _)⟩))
           (fun b' o e=>by cases e) (fun b' _ e=>by cases e; exact ⟨by rw [World.size_alloc]; exact Nat.lt_succ_self _,.inr (Nat.le_refl _)⟩) (by simp) (fun _=>⟨rfl,by omega,fun e=>(by rw [t1] at e; cases e),fun e=>by omega⟩) (fun hg hkp=>by
            obtain ⟨u1,u2,u3,u4⟩:=upd_same g r (.slice (some ⟨w.heap.size,0,none⟩) (es.length+es2.length) nc) (es.length+es2.length) (g.tk r) (some w.heap.size) (g.more w.heap.size ((es.length+es2.length)*sz'));exact ⟨u3.trans t1,u2,_,nc,u1,.inr ⟨r2,w.heap.size,e,_,0,rfl,u4,hnew,by rw [List.size_toArray,hse,Nat.zero_add]; exact r3,fun o ho=>by
             rcases ho with ho | ⟨_,ho⟩
             ·have:=hI.slt _ _ ho; omega
             ·omega⟩⟩)
          have hrep:=Rep.slice_row (g:=g.upd r (.slice (some ⟨w.heap.size,0,none⟩) (es.length+es2.length) nc) (es.length+es2.length) (g.tk r) (some w.heap.size) (g.more w.heap.size ((es.length+es2.length)*sz'))) (U:=used (hput h r (.tok sz' (es.length+es2.length)))) (cap:=nc) (es:=es++es2) hnew hall (by rw [List.length_append]; exact r2) (by
           rw [List.length_append,show (olds++news++rest).toArray.toList=olds++news++rest from rfl,List.take_left' (by rw [List.length_append,o1.1,m1,hse,Nat.add_mul])];exact hrl.mono k2.keeps (fun _ h=>h) (fun _ h=>h.elim)) (fun o ho=>.inr ⟨rfl,by rw [List.length_append] at ho; exact ho⟩)
          rw [List.length_append] at hrep;exact ⟨_,_,_,_,_,r1,hk,k1,k2,.tok _ r sz' _ _ hrep hall (by unfold used; rw [hput_same]; simp) (by simp [Gh.upd,t1]) (by simp [Gh.upd]) (fun _=>by simp [Gh.upd])⟩
      ·exact hk.elim
     ·exact hk.elim
    ·rename_i r n;have ho:=hI.objs r;split at hk
     ·rename_i sz es e0;split at hk
      ·rename_i hse;obtain hse:=Nat.eq_of_beq_eq_true hse;obtain ⟨⟨q1,q2,q3,q4⟩,hk⟩:=hk;rw [hse] at q1;obtain ⟨news,n1,n2⟩:=h6 (AllLen_mem q1);obtain ⟨m1,m2,a2,c2,rfl,m4⟩:=n1;obtain ⟨hv,olds,o1,o2⟩:=arr_shows hI e0 hs q2.symm;have hobj:=ho;rw [e0] at ho;obtain ⟨t1,l1,al,a3⟩:=ho;have hl:(h r).live:=by rw [e0]; trivial
       subst hv;have hall:∀ c ∈ es++es2,c.length=sz:=fun c hc=>(List.mem_append.1 hc).elim (al c) (fun h=>(AllLen_mem q1 c h).trans hse.symm);have hrl:=o2.app n2;rw [← List.flatten_append] at hrl;obtain ⟨a,cap,hρ,hcapn,ha⟩ : ∃ a cap,g.ρ r=.slice a es.length cap∧es.length≤cap∧(a=none→cap=0):=by
        rcases a3 with ⟨rfl,e2,e3⟩ | ⟨b,cap,E,cur,e1,e2,e3,e4,e5,e6,e7⟩
        ·exact ⟨none,0,e2,Nat.le_refl _,fun _=>rfl⟩
        ·exact ⟨_,cap,e1,e3,fun e=>by cases e⟩
       by_cases hm:es2.length=0
       ·obtain rfl:=List.eq_nil_of_length_eq_zero hm;rw [e0] at hobj
        obtain ⟨k1,k2⟩:=hI.upd r (.arr sz (es++[])) (g.ρ r) (g.ln r) (g.tk r) (g.own r) g.S w none ⟨rfl,rfl,rfl,Nat.le_refl _⟩ (fun _ _ _=>rfl) (fun b e=>by cases e) (fun _ _ h=>h) (fun _ _ h=>.inl h) (fun b o e=>by cases e)
         (fun b _ e=>⟨(hI.loc r b hl e).1,.inl ⟨hl,e⟩⟩) (by simp) (fun _=>⟨rfl,Nat.le_refl _,fun _=>rfl,fun _=>rfl⟩) (fun hg hkp=>by
          obtain ⟨u1,u2,u3,u4⟩:=upd_same g r (g.ρ r) (g.ln r) (g.tk r) (g.own r) g.S;rw [List.append_nil];exact hobj.same hkp (fun i hi=>used_hput (by simp) i hi) hg u1 u2 u3 u4 (fun b _ _=>⟨rfl,fun _ h=>h⟩))
        refine ⟨g.ρ r,w,_,_,_,?_,hk,k1,k2,?_⟩
        ·rw [hρ]; exact run_append_zero hT w ht hsz a a2 es.length cap c2 hcapn
        ·have:=hs.le k2
         rw [← q2] at this;exact this
       ·by_cases hroom:es.length+es2.length≤cap
        ·rcases a3 with ⟨rfl,e2,e3⟩ | ⟨b,cap',E,cur,e1,e2,e3,e4,e5,e6,e7⟩
         ·rw [e2] at hρ; cases hρ; omega
         ·rw [e1] at hρ;simp only [Value.slice.injEq,true_and] at hρ;obtain ⟨rfl,rfl⟩:=hρ;rcases m4 with h | ⟨ba,rfl,hnews⟩
          ·omega
          ·obtain ⟨i,z,i1,i2,i3,i4,i5⟩:=append_facts hT hsz;have hmul:(es.length+es2.length)*sz≤cap'*sz:=Nat.mul_le_mul_right _ hroom;have hm1:news.length=es2.length*sz:=by rw [hse]; exact m1
           have hisz:i.size=sz:=i3.trans hse.symm;have hrun:=run_append_room' (P:=P) t ty e i (hT.slice ht) i1 b es.length cap' cur e4 ba es2.length c2 news (by rw [hisz]; exact hm1) hnews m2 hroom (by rw [hisz,hm1,← Nat.add_mul,e5]; exact hmul);rw [hisz] at hrun;have holds:∀ j u,olds[j]?=some u→w.cell? ⟨b,j,none⟩=some u:=by
            obtain ⟨p1,p2,a',c',p3,p4⟩:=o1;rw [e1] at p3;cases p3;intro j u hj;rcases p4 with h | ⟨b',h,h'⟩
            ·rw [h,Nat.zero_mul] at p1;rw [List.eq_nil_of_length_eq_zero p1] at hj; simp at hj
            ·cases h
             have:=h' j u hj
             rwa [Addr.add_lit,Nat.zero_add] at this
           obtain ⟨p1,p2,p3⟩:=row_room e4 e5 e3 hroom hm1 o1.1 holds;generalize hnewd:cur.toList.take (es.length*sz)++news++cur.toList.drop (es.length*sz+news.length)=new at hrun p1 p2 p3;have hnew:=setRow_heap w b cur new.toArray E (0,0) e4;have hblt:=(hI.loc r b hl e2).1
           obtain ⟨k1,k2⟩:=hI.upd r (.arr sz (es++es2)) (.slice (some ⟨b,0,none⟩) (es.length+es2.length) cap') (es.length+es2.length) (g.tk r) (g.own r) g.S (w.setRow b new.toArray) (some b)
            ⟨rfl,rfl,rfl,by rw [size_setRow]; exact Nat.le_refl _⟩ (fun k _ hne=>setRow_other w b k _ (fun e=>hne (by rw [e]))) (fun b' e=>by cases e; exact ⟨hl,e2⟩) (fun _ _ h=>h) (fun _ _ h=>.inl h)
            (fun b' o e hs=>by cases e; exact absurd hs (e7 o)) (fun b' _ e=>by
             rw [e2] at e; cases e;exact ⟨by rw [size_setRow]; exact hblt,.inl ⟨hl,e2⟩⟩) (by simp) (fun _=>⟨rfl,by omega,fun e=>(by rw [t1] at e; cases e),fun e=>by omega⟩) (fun hg hkp=>by
             obtain ⟨u1,u2,u3,u4⟩:=upd_same g r (.slice (some ⟨b,0,none⟩) (es.length+es2.length) cap') (es.length+es2.length) (g.tk r) (g.own r) g.S;refine ⟨u3.trans t1,by rw [u2,List.length_append],hall,.inr ⟨b,cap',E,_,by rw [u1,List.length_append],u4.trans e2,by rw [List.length_append]; exact hroom,hnew,by rw [List.size_toArray]; exact p1,?_,e7⟩⟩;rw [List.length_append,show new.toArray.toList=new from rfl,p2];exact hrl.mono hkp (fun _ h=>h) (fun _ h=>h.elim))
           rw [e1];exact ⟨_,_,_,_,_,hrun,hk,k1,k2,.msl _ r _ _ _ (by unfold used; rw [hput_same]; simp) (by simp [Gh.upd,t1]) (by simp [Gh.upd]) (.inr ⟨_,rfl⟩) (fun _=>by simp [Gh.upd])⟩
        ·have hgrow:cap<es.length+es2.length:=by omega
         obtain ⟨nc,rest,r1,r2,r3⟩:=run_append_new hT w (ty:=ty) ht hsz hz (by rw [← hse]; exact o1) hρ ha ⟨m1,m2,a2,c2,rfl,m4⟩ rfl (by omega) hgrow q3 q4;have hnew:=heap_new w.drew (.cells (olds++news++rest).toArray e (0,0)) (b:=w.heap.size) rfl
         obtain ⟨k1,k2⟩:=hI.upd r (.arr sz (es++es2)) (.slice (some ⟨w.heap.size,0,none⟩) (es.length+es2.length) nc) (es.length+es2.length) (g.tk r) (some w.heap.size) g.S
          (w.drew.alloc (.cells (olds++news++rest).toArray e (0,0))) none
          ⟨rfl,rfl,rfl,by rw [World.size_alloc]; exact Nat.le_succ _⟩ (fun k hk' _=>by rw [heap_alloc_old _ _ (by exact hk')]; rfl) (fun b' e=>by cases e) (fun _ _ h=>h) (fun _ _ h=>.inl h)
          (fun b' o e=>by cases e) (fun b' _ e=>by cases e; exact ⟨by rw [World.size_alloc]; exact Nat.lt_succ_self _,.inr (Nat.le_refl _)⟩) (by simp) (fun _=>⟨rfl,by omega,fun e=>(by rw [t1] at e; cases e),fun e=>by omega⟩) (fun hg hkp=>by
           obtain ⟨u1,u2,u3,u4⟩:=upd_same g r (.slice (some ⟨w.heap.size,0,none⟩) (es.length+es2.length) nc) (es.length+es2.length) (g.tk r) (some w.heap.size) g.S;refine ⟨u3.trans t1,by rw [u2,List.length_append],hall,.inr ⟨w.heap.size,nc,e,_,by rw [u1,List.length_append],u4,by rw [List.length_append]; exact r2,hnew,by rw [List.size_toArray,hse]; exact r3,?_,fun o ho=>by have:=hI.slt _ _ ho; omega⟩⟩;rw [List.length_append,show (olds++news++rest).toArray.toList=olds++news++rest from rfl,List.take_left' (by rw [List.length_append,o1.1,m1,hse,Nat.add_mul])];exact hrl.mono hkp (fun _ h=>h) (fun _ h=>h.elim))
         exact ⟨_,_,_,_,_,r1,hk,k1,k2,.msl _ r _ _ _ (by unfold used; rw [hput_same]; simp) (by simp [Gh.upd,t1]) (by simp [Gh.upd]) (.inr ⟨_,rfl⟩) (fun _=>by simp [Gh.upd])⟩
      ·exact hk.elim
     ·exact hk.elim
    ·exact hk.elim
 ·exact hk.elim
end
end Go.Eng

namespace Go.Eng

section
variable {P:Program} {w0:World} {g0:Gh} {h0 h:Nat→HO} {g:Gh} {w:World} (hI:Inv w0 g0 h0 h g w)
include hI

theorem newFull_ok {d sz n:Nat} {es:List (List AV)} {a:Option Addr} (hd:h d=.free) (hl:∀ c ∈ es,c.length=sz) (hn:es.length=n) (hr:Rep g w NoU (.slice .none es) (.slice a n n)) :
  ∃ g',Inv w0 g0 h0 (hput h d (.tok sz n)) g' w∧Le h g w (hput h d (.tok sz n)) g' w∧Rep g' w (used (hput h d (.tok sz n))) (.slice (.id d sz) es) (.slice a n n):=by
 obtain ⟨k1,k2⟩:=hI.upd d (.tok sz n) (.slice a n n) n true none g.S w none ⟨rfl,rfl,rfl,Nat.le_refl _⟩ (fun _ _ _=>rfl) (fun b e=>by cases e) (fun _ _ h=>h) (fun _ _ h=>.inl h) (fun b o e=>by cases e) (fun b _ e=>by cases e) (by simp)
  (fun hu=>absurd hd hu) (fun _ _=>by
   obtain ⟨u1,u2,u3,u4⟩:=upd_same g d (.slice a n n) n true none g.S;exact ⟨u3,u2,a,n,u1,.inl ⟨rfl,u4⟩⟩)
 exact ⟨_,k1,k2,.tok _ d sz es _ (((hr.up (used h)).le k2)) hl (by unfold used; rw [hput_same]; simp) (by simp [Gh.upd]) (by simp [Gh.upd,hn]) (fun _=>by simp [Gh.upd])⟩

theorem assignK_ok {cx:Cx} {d:Option Nat} {x:AV} {vx:Value} {K:HK} (hx:Rep g w (used h) x vx) (hk:assignK cx d h x K):∃ g' av h',K av h'∧Inv w0 g0 h0 h' g' w∧Le h g w h' g' w∧Rep g' w (used h') av vx:=by
 have plain:K x h→∃ g' av h',K av h'∧Inv w0 g0 h0 h' g' w∧Le h g w h' g' w∧Rep g' w (used h') av vx:=fun hk=>⟨g,x,h,hk,hI,.refl _ _ _,hx⟩;unfold assignK at hk;split at hk
 ·exact plain hk
 ·rename_i d;split at hk
  ·rename_i sz _;split at hk
   ·refine ⟨g,unT x,h,hk,hI,.refl _ _ _,?_⟩;cases x with
    | slice tk es=>exact (Rep.slice_none hx).up _
    | _=>exact hx
   ·split at hk
    ·split at hk
     ·rename_i hd;obtain rfl:=hx.v_eq;obtain ⟨g',k1,k2,k3⟩:=newFull_ok hI (sz:=sz) (es:=[]) (a:=none) hd (by simp) rfl (.snil _ _ _);exact ⟨g',_,_,hk,k1,k2,k3⟩
     ·exact hk.elim
    ·exact plain hk
  ·split at hk
   ·rename_i sz _;split at hk
    ·split at hk
     ·rename_i hd;obtain rfl:=hx.v_eq
      obtain ⟨k1,k2⟩:=hI.upd d (.arr sz []) (.slice none 0 0) 0 true none g.S w none ⟨rfl,rfl,rfl,Nat.le_refl _⟩ (fun _ _ _=>rfl) (fun b e=>by cases e) (fun _ _ h=>h) (fun _ _ h=>.inl h) (fun b o e=>by cases e) (fun b _ e=>by cases e) (by simp)
       (fun hu=>absurd hd hu) (fun _ _=>by
        obtain ⟨u1,u2,u3,u4⟩:=upd_same g d (.slice none 0 0) 0 true none g.S;exact ⟨u3,u2,by simp,.inl ⟨rfl,u1,u4⟩⟩)
      exact ⟨_,_,_,hk,k1,k2,.msl _ d 0 none 0 (by unfold used; rw [hput_same]; simp) (by simp [Gh.upd]) (Nat.zero_le _) (.inl rfl) (fun _=>by simp [Gh.upd])⟩
     ·exact hk.elim
    ·exact plain hk
   ·exact plain hk

theorem makeMapK_ok {T:Tab} {mku:List Nat} {d:Option Nat} {ty:Nat} {K:HK} (hk:makeMapK T mku d h ty K):Does P w0 g0 h0 h g w (Instr.makeMap ty none) K:=by
 unfold makeMapK at hk;split at hk
 ·exact hk.elim
 ·rename_i d;split at hk
  ·rename_i hd;split at hk
   ·split at hk
    ·rename_i sh _;split at hk
     ·obtain ⟨k1,k2⟩:=hI.newOwn hd (.mapU sh []) (.map #[] 0) (.map (some w.heap.size)) 0 false w ⟨rfl,rfl,rfl,rfl⟩ (by simp) (fun hg hkp=>by
       obtain ⟨u1,u2,u3,u4⟩:=upd_same g d (.map (some w.heap.size)) 0 false (some w.heap.size) g.S;exact ⟨u3,w.heap.size,#[],0,u4,u1,heap_new w _ rfl,⟨rfl,by simp,by simp,by simp,by simp,by simp⟩,by simp,fun o ho=>by have:=hI.slt _ _ ho; omega⟩)
      refine ⟨_,_,_,_,_,?_,hk,k1,k2,.mref _ d w.heap.size (by unfold used; rw [hput_same]; simp) ?_ ?_⟩
      ·simp [Instr.makeMap]
      ·simp [Gh.upd]
      ·simp [Gh.upd]
     ·obtain ⟨k1,k2⟩:=hI.newOwn hd (.map sh []) (.map #[] 0) (.map (some w.heap.size)) 0 false w ⟨rfl,rfl,rfl,rfl⟩ (by simp) (fun hg hkp=>by
       obtain ⟨u1,u2,u3,u4⟩:=upd_same g d (.map (some w.heap.size)) 0 false (some w.heap.size) g.S;exact ⟨u3,w.heap.size,#[],0,u4,u1,heap_new w _ rfl,⟨rfl,by simp,by simp,by simp,by simp,by simp⟩,by simp,fun o ho=>by have:=hI.slt _ _ ho; omega⟩)
      refine ⟨_,_,_,_,_,?_,hk,k1,k2,.mref _ d w.heap.size (by unfold used; rw [hput_same]; simp) ?_ ?_⟩
      ·simp [Instr.makeMap]
      ·simp [Gh.upd]
      ·simp [Gh.upd]
    ·exact hk.elim
   ·exact hk.elim
  ·exact hk.elim

omit hI in
theorem Rep.sub {es:List (List AV)} {sz l m:Nat} {x:Value} {a:Option Addr} {n cap:Nat} (hr:Rep g w NoU (.slice .none es) x) (hx:x=.slice a n cap) (hl:∀ c ∈ es,c.length=sz) (h1:l≤m) (h2:m≤es.length) (c' : Nat) (hc:m - l≤c') (a' : Option Addr)
  (ha:a'=a.map (·.add (l*sz))∨(m=l∧a'=a)):Rep g w NoU (.slice .none ((es.take m).drop l)) (.slice a' (m - l) c'):=by
 subst hx;have hlen:((es.take m).drop l).length=m - l:=by rw [List.length_drop,List.length_take]; omega
 by_cases h0:m - l=0
 ·have:(es.take m).drop l=[]:=List.eq_nil_of_length_eq_zero (by omega)
  rw [this,h0];exact .snil _ _ _
 ·cases hr with
  | snil=>simp at h2; omega
  | slice _ _ b off sz' cap val hc' hl' hcell hrep =>
   have hz:sz'=sz:=by
    have:(0:Nat)<es.length:=by omega
    have h3:=hl' 0 es[0] (List.getElem?_eq_getElem this);rw [← h3]; exact hl _ (List.getElem_mem this)
   subst hz;have ha' : a'=some ⟨b,off+l*sz',none⟩:=by
    rcases ha with h | ⟨h,_⟩
    ·rw [h]; simp [Addr.add_lit]
    ·omega
   subst ha';rw [← hlen];have hget:∀ (i:Nat) (cs:List AV),((es.take m).drop l)[i]?=some cs→es[l+i]?=some cs:=fun i cs h=>by
    rw [List.getElem?_drop] at h
    by_cases hi:l+i<m
    ·rwa [List.getElem?_take_of_lt hi] at h
    ·rw [List.getElem?_eq_none (by rw [List.length_take]; omega)] at h; cases h
   refine .slice _ _ b (off+l*sz') sz' c' (fun i j=>val (l+i) j) (by rw [hlen]; exact hc) (fun i cs h=>hl' _ _ (hget i cs h)) (fun i cs j av h1 h2=>?_) (fun i cs j av h1 h2=>hrep _ _ _ _ (hget i cs h1) h2)
   have:=hcell _ _ _ _ (hget i cs h1) h2
   rwa [show off+(l+i)*sz'+j=off+l*sz'+i*sz'+j by rw [Nat.add_mul]; omega] at this

omit hI in
theorem optInt_ok {t:Nat→AV} {ρ:Operand→Value} (ht:∀ x:Operand,Rep g w (used h) (ev t x) (ρ x)) {o:Option Operand} {i:Option Int} (hk:optInt t o=some i):o.map ρ=i.map fun n=>.int .i64 n:=by
 cases o with
 | none=>cases hk; rfl
 | some x =>
  unfold optInt at hk;dsimp only at hk;split at hk
  ·rename_i n e;cases hk
   have:=ht x
   rw [e] at this;simp [this.v_eq]
  ·cases hk
omit hI in
theorem run_bounds (b:Bool) (len cap:Nat) (lo hi mx:Option Int) (hmx:mx=none∨hi≠none) (h0:0≤lo.getD 0) (h1:lo.getD 0≤hi.getD len) (h2:hi.getD len≤mx.getD cap) (h3:mx.getD cap≤cap) :
  (Instr.sliceBounds b len cap (lo.map fun n=>.int .i64 n) (hi.map fun n=>.int .i64 n) (mx.map fun n=>.int .i64 n)).run P w=.ok ((lo.getD 0).toNat,(hi.getD len).toNat,(mx.getD cap).toNat) w:=by
 have e1:∀ n:Int,0≤n→(n.toNat:Int)=n:=fun n hn=>Int.toNat_of_nonneg hn;cases mx with
 | none =>
  cases hi with
  | none =>
   cases lo with
   | none=>simp [Instr.sliceBounds]
   | some l =>
    simp only [Option.getD_some,Option.getD_none] at h0 h1 h2;simp [Instr.sliceBounds,run_sliceBound,h0,h1]
  | some hh =>
   simp only [Option.getD_some,Option.getD_none] at h1 h2;have hh0:0≤hh:=by omega
   cases lo with
   | none=>simp [Instr.sliceBounds,run_sliceBound,hh0,h2]
   | some l =>
    simp only [Option.getD_some] at h0 h1;simp [Instr.sliceBounds,run_sliceBound,h0,h1,h2,hh0,e1]
 | some m =>
  cases hi with
  | none=>simp at hmx
  | some hh =>
   simp only [Option.getD_some] at h1 h2 h3;have hh0:0≤hh:=by omega
   have hm0:0≤m:=by omega
   cases lo with
   | none=>simp [Instr.sliceBounds,run_sliceBound,h2,h3,hh0,hm0,e1]
   | some l =>
    simp only [Option.getD_some] at h0 h1;simp [Instr.sliceBounds,run_sliceBound,h0,h1,h2,h3,hh0,hm0,e1]

omit hI in
theorem run_sliceVal {T:Tab} (hT:TabOk P T) {ty e k:Nat} (ht:(T ty).d=.slice e) (hk:(T e).size=k+1) (a:Option Addr) (len cap:Nat) (lo hi mx:Option Int) (hmx:mx=none∨hi≠none) (h0:0≤lo.getD 0) (h1:lo.getD 0≤hi.getD len) (h2:hi.getD len≤mx.getD cap) (h3:mx.getD cap≤cap) :
  (Instr.sliceAt ty (.slice a len cap) (lo.map fun n=>.int .i64 n) (hi.map fun n=>.int .i64 n) (mx.map fun n=>.int .i64 n)).run P w =
   .ok (.slice (if (mx.getD cap).toNat=(lo.getD 0).toNat then a else a.map (·.add ((lo.getD 0).toNat*(T e).size))) ((hi.getD len).toNat - (lo.getD 0).toNat) ((mx.getD cap).toNat - (lo.getD 0).toNat)) w:=by
 have hu:=hT.slice ht;have hb:=run_bounds (P:=P) (w:=w) true len cap lo hi mx hmx h0 h1 h2 h3;simp only [Instr.sliceAt,Sem.run_bind,run_underlying hu,Result.andThen_ok,Instr.slice,hb,hT.size1 w hk,Sem.run_pure];rw [hk]

theorem Inv.moveO (r r2:Nat) (hne:r2≠r) (hf:h r2=.free) (hl:(h r).live) {ob:Option Nat} (ho:∀ c,ob=some c→g.own r=some c) (o' : HO) (x:Value) (n:Nat) (t:Bool) (hn:o'≠.free)
  (hobj:Keeps g w (g.upd r2 x n t ob g.S) w→ObjRep (g.upd r2 x n t ob g.S) w (used (hput (hput h r .dead) r2 o')) r2 o') :
  Inv w0 g0 h0 (hput (hput h r .dead) r2 o') (g.upd r2 x n t ob g.S) w∧Le h g w (hput (hput h r .dead) r2 o') (g.upd r2 x n t ob g.S) w:=by
 have hGh:GhLe g (g.upd r2 x n t ob g.S) (used h):=by
  intro i hi;have e:i≠r2:=fun e=>hi (by rw [e]; exact hf);refine ⟨by simp [Gh.upd,e],by simp [Gh.upd,e],fun _=>by simp [Gh.upd,e],fun _=>by simp [Gh.upd,e]⟩
 have hK:Keeps g w (g.upd r2 x n t ob g.S) w:=fun b o hb=>⟨hb,rfl,fun _ _ h=>h⟩;have hus:∀ i,used h i→used (hput (hput h r .dead) r2 o') i:=fun i hi=>used_hput hn i (used_hput (by simp) i hi);have key:∀ i,i≠r2→(hput (hput h r .dead) r2 o' i).live→i≠r∧(h i).live:=fun i h2 hl=>by
  rw [hput_ne _ _ _ _ h2] at hl
  by_cases e:i=r
  ·subst e; rw [hput_same] at hl; exact hl.elim
  ·rw [hput_ne _ _ _ _ e] at hl; exact ⟨e,hl⟩
 have own:∀ i,i≠r2→(g.upd r2 x n t ob g.S).own i=g.own i:=fun i e=>by simp [Gh.upd,e]
 have own2:(g.upd r2 x n t ob g.S).own r2=ob:=by simp [Gh.upd]
 refine ⟨⟨hI.os,hI.tape,hI.output,hI.size,hI.frame,hI.slt,fun i=>?_,fun i j c hi hj ei ej=>?_,fun i c hi ei=>?_,hI.sg,hI.glob.keep hK⟩,hGh,hus,hK⟩
 ·by_cases e:i=r2
  ·subst e; rw [hput_same]; exact hobj hK
  ·rw [hput_ne _ _ _ _ e]
   by_cases e1:i=r
   ·subst e1; rw [hput_same]; trivial
   ·rw [hput_ne _ _ _ _ e1];exact (hI.objs i).same hK hus hGh (by simp [Gh.upd,e]) (by simp [Gh.upd,e]) (by simp [Gh.upd,e]) (by simp [Gh.upd,e]) (fun b hl hb=>⟨rfl,fun k hk=>hk⟩)
 ·by_cases e1:i=r2 <;> by_cases e2:j=r2
  ·exact e1.trans e2.symm
  ·subst e1;rw [own2] at ei; rw [own j e2] at ej;obtain ⟨a1,a2⟩:=key j e2 hj;exact absurd (hI.inj j r _ a2 hl ej (ho _ ei)) a1
  ·subst e2;rw [own2] at ej; rw [own i e1] at ei;obtain ⟨a1,a2⟩:=key i e1 hi;exact absurd (hI.inj i r _ a2 hl ei (ho _ ej)) a1
  ·rw [own i e1] at ei; rw [own j e2] at ej;exact hI.inj i j c (key i e1 hi).2 (key j e2 hj).2 ei ej
 ·by_cases e1:i=r2
  ·subst e1;rw [own2] at ei;exact hI.loc r _ hl (ho _ ei)
  ·rw [own i e1] at ei;exact hI.loc i c (key i e1 hi).2 ei

theorem resliceK_ok {cx:Cx} (hT:TabOk P cx.T) {d:Option Nat} {ty:Nat} {x:AV} {vx:Value} {t:Nat→AV} {ρ:Operand→Value} (ht:∀ x:Operand,Rep g w (used h) (ev t x) (ρ x)) {lo hi mx:Option Operand} {K:HK} (hx:Rep g w (used h) x vx)
  (hk:resliceK cx d h ty x (optInt t lo) hi mx K):Does P w0 g0 h0 h g w (Instr.sliceAt ty vx (lo.map ρ) (hi.map ρ) (mx.map ρ)) K:=by
 unfold resliceK at hk;split at hk
 ·rename_i d lo' e1;rw [optInt_ok ht e1];split at hk
  ·rename_i e hs;split at hk
   ·exact hk.elim
   ·rename_i k hsz;split at hk
    ·rename_i r sz es;split at hk
     ·rename_i sz' n e0;split at hk
      ·rename_i hd;split at hk
       ·rename_i q1 q2;obtain rfl:=Nat.eq_of_beq_eq_true q1;have q2:=Nat.eq_of_beq_eq_true q2;obtain ⟨⟨rfl,h1,h2⟩,hk⟩:=hk;have hl:(h r).live:=by rw [e0]; trivial
        have hne:did cx d≠r:=fun e=>by rw [e,e0] at hd; cases hd
        have ho:=hI.objs r;rw [e0] at ho;obtain ⟨t1,l1,a,cap,a1,a3⟩:=ho;have hr:=hx.slice_none;cases hx with
        | tok _ _ _ _ _ hr0 hls hu ht' hn hx' =>
         have hv:=hx' l1.symm;rw [a1] at hv;subst hv;have hcapn:es.length≤cap:=by rcases a3 with ⟨e1,_⟩ | ⟨e1,_⟩ <;> omega
         have hrun:=run_sliceVal (P:=P) (w:=w) hT hs hsz a es.length cap (some lo') none none (.inl rfl) h1 h2 (by simp only [Option.getD_none]; omega) (by simp);simp only [Option.getD_some,Option.getD_none,Int.toNat_natCast] at hrun;have hlen:(es.drop lo'.toNat).length=es.length - lo'.toNat:=List.length_drop;have hsub:=Rep.sub (c':=cap - lo'.toNat) hr rfl hls (l:=lo'.toNat) (m:=es.length) (by omega) (Nat.le_refl _) (by omega) (if cap=lo'.toNat then a else a.map (·.add (lo'.toNat*(cx.T e).size))) (by
          split
          ·exact .inr ⟨by omega,rfl⟩
          ·rw [q2]; exact .inl rfl)
         rw [List.take_length] at hsub
         have fin:∀ ob:Option Nat,(∀ c,ob=some c→g.own r=some c)→(es.length - lo'.toNat=cap - lo'.toNat∧ob=none∨es.length - lo'.toNat≤cap - lo'.toNat∧∃ b E vs off,(if cap=lo'.toNat then a else a.map (·.add (lo'.toNat*(cx.T e).size)))=some ⟨b,off,none⟩∧ob=some b∧w.heap[b]?=some (.cells vs E (0,0))∧vs.size=off+(cap - lo'.toNat)*sz'∧∀ o,g.S b o→o<off+(es.length - lo'.toNat)*sz') →
           Does P w0 g0 h0 h g w (Instr.sliceAt ty (.slice a es.length cap) ((some lo').map fun n=>.int .i64 n) ((none:Option Operand).map ρ) ((none:Option Operand).map ρ)) K:=fun ob ho hob=>by
          obtain ⟨k1,k2⟩:=hI.moveO r (did cx d) hne hd hl ho (.tok sz' (es.drop lo'.toNat).length) (.slice (if cap=lo'.toNat then a else a.map (·.add (lo'.toNat*(cx.T e).size))) (es.length - lo'.toNat) (cap - lo'.toNat)) (es.length - lo'.toNat) true (by simp) (fun hkp=>by
           obtain ⟨u1,u2,u3,u4⟩:=upd_same g (did cx d) (.slice (if cap=lo'.toNat then a else a.map (·.add (lo'.toNat*(cx.T e).size))) (es.length - lo'.toNat) (cap - lo'.toNat)) (es.length - lo'.toNat) true ob g.S;refine ⟨u3,u2.trans hlen.symm,_,_,by rw [hlen]; exact u1,?_⟩;rw [hlen,u4];exact hob)
          exact ⟨_,w,_,_,_,hrun,hk,k1,k2,.tok _ _ _ _ _ (((hsub.mono k2.keeps (fun _ h=>h) (fun _ h=>h.elim))).up _) (fun c hc=>hls c (List.mem_of_mem_drop hc)) (by unfold used; rw [hput_same]; simp) (by simp [Gh.upd]) (by simp [Gh.upd]) (fun _=>by simp [Gh.upd])⟩
         rcases a3 with ⟨e1,e2⟩ | ⟨e1,b,E,vs,off,rfl,e3,e4,e5,e6⟩
         ·exact fin none (fun c h=>by cases h) (.inl ⟨by omega,rfl⟩)
         ·by_cases hc:cap=lo'.toNat
          ·exact fin none (fun c h=>by cases h) (.inl ⟨by omega,rfl⟩)
          ·refine fin (some b) (fun c h=>by cases h; exact e3) (.inr ⟨by omega,b,E,vs,off+lo'.toNat*sz',?_,rfl,e4,?_,fun o ho=>?_⟩)
           ·rw [if_neg hc]; simp [Addr.add_lit,q2]
           ·rw [e5,Nat.sub_mul]
            have:=Nat.mul_le_mul_right sz' (show lo'.toNat≤cap by omega)
            omega
           ·have:=e6 o ho
            rw [Nat.sub_mul]
            have:=Nat.mul_le_mul_right sz' (show lo'.toNat≤es.length by omega)
            omega
       ·exact hk.elim
      ·exact hk.elim
     ·exact hk.elim
    ·exact hk.elim
  ·exact hk.elim
 ·exact hk.elim

omit hI in
theorem flatE_take {sz:Nat} : ∀ {es:List (List AV)},(∀ cs ∈ es,cs.length=sz)→∀ k,(es.take k).flatten=es.flatten.take (k*sz)
 | [],_,k=>by simp
 | c :: es,hl,0=>by simp
 | c :: es,hl,k+1=>by
  have h1:=hl c (List.mem_cons_self ..);have h2:c.length≤k*sz+sz:=by omega
  rw [List.take_succ_cons,List.flatten_cons,List.flatten_cons,flatE_take (fun x hx=>hl x (List.mem_cons_of_mem _ hx)) k,List.take_append,h1,Nat.succ_mul,
   List.take_of_length_le h2,show k*sz+sz - sz=k*sz by omega]
omit hI in
theorem RepL.takeE {U:Nat→Prop} {sz k:Nat} {es:List (List AV)} {vs:List Value} (hl:∀ cs ∈ es,cs.length=sz) (hk:k≤es.length) (h:RepL g w U es.flatten (vs.take (es.length*sz))):RepL g w U (es.take k).flatten (vs.take (k*sz)):=by
 have e:vs.take (k*sz)=(vs.take (es.length*sz)).take (k*sz):=by
  rw [List.take_take,Nat.min_eq_left (Nat.mul_le_mul_right _ hk)]
 rw [flatE_take hl,e];refine ⟨by rw [List.length_take (l:=vs.take (es.length*sz)),h.1,List.length_take],fun x hx=>h.2.1 x (List.mem_of_mem_take hx),fun i av x q1 q2=>?_⟩;have hi:i<k*sz:=by
  rcases Nat.lt_or_ge i (k*sz) with q | q
  ·exact q
  ·rw [List.getElem?_take,if_neg (by omega)] at q1; cases q1
 rw [List.getElem?_take,if_pos hi] at q1 q2;exact h.2.2 i av x q1 q2
theorem popK_ok {cx:Cx} (hT:TabOk P cx.T) {d:Option Nat} {ty:Nat} {x:AV} {vx:Value} {t:Nat→AV} {ρ:Operand→Value} (ht:∀ x:Operand,Rep g w (used h) (ev t x) (ρ x)) {hi:Option Operand} {K:HK} (hx:Rep g w (used h) x vx)
  (hk:popK cx d h ty x (optInt t hi) K):Does P w0 g0 h0 h g w (Instr.sliceAt ty vx none (hi.map ρ) none) K:=by
 unfold popK at hk;split at hk
 ·rename_i d hi' e1;rw [optInt_ok ht e1];split at hk
  ·rename_i e hs;split at hk
   ·exact hk.elim
   ·rename_i k hsz;split at hk
    ·rename_i r n;split at hk
     ·rename_i sz es e0;split at hk
      ·rename_i hd;split at hk
       ·rename_i q1 q3;have q1:=Nat.eq_of_beq_eq_true q1;obtain ⟨⟨rfl,h1,h2⟩,hk⟩:=hk;have hl:(h r).live:=by rw [e0]; trivial
        have hne:did cx d≠r:=fun e=>by rw [e,e0] at hd; cases hd
        have ho:=hI.objs r;rw [e0] at ho;obtain ⟨t1,l1,al,a2⟩:=ho;have hlen:(es.take hi'.toNat).length=hi'.toNat:=by rw [List.length_take]; omega
        cases hx with
        | msl _ _ _ a cap hu ht' hn' ha hx' =>
         have hv:=hx' l1.symm;have hcap:es.length≤cap:=by
          rcases a2 with ⟨b1,_,_⟩ | ⟨b,cap',E,vs,b1,_,b3,_⟩
          ·subst b1; exact Nat.zero_le _
          ·rw [b1] at hv; cases hv; exact b3
         have hrun:=run_sliceVal (P:=P) (w:=w) hT hs hsz a es.length cap none (some hi') none (.inl rfl) (by simp) (by simp only [Option.getD_none,Option.getD_some]; exact h1) (by simp only [Option.getD_some,Option.getD_none]; omega) (by simp);have hsame:(if cap - (0:Nat)=0 then a else a.map (·.add (0*(cx.T e).size)))=a:=by
          rw [Nat.zero_mul];split
          ·rfl
          ·rcases ha with e3 | ⟨b,rfl⟩
           ·cases a with
            | none=>rfl
            | some a=>simp [Addr.add]
           ·rfl
         simp only [Option.getD_some,Option.getD_none,Int.toNat_natCast,Int.toNat_zero,Nat.sub_zero] at hrun hsame;have key:∃ a',(Instr.sliceAt ty (.slice a es.length cap) ((none:Option Int).map fun n=>.int .i64 n) ((some hi').map fun n=>.int .i64 n) ((none:Option Int).map fun n=>.int .i64 n)).run P w=.ok (.slice a' hi'.toNat cap) w∧(a'=a):=⟨_,hrun,by first | exact hsame | (split <;> first | rfl | exact hsame | (simp_all))⟩
         obtain ⟨a',hrun,rfl⟩:=key;have hval:Rep (g.upd (did cx d) (.slice a' hi'.toNat cap) hi'.toNat true (g.own r) g.S) w (used (hput (hput h r .dead) (did cx d) (.arr sz (es.take hi'.toNat)))) (.msl (did cx d) hi'.toNat) (.slice a' hi'.toNat cap) :=
          .msl _ _ _ _ _ (by unfold used; rw [hput_same]; simp) (by simp [Gh.upd]) (by simp [Gh.upd]) (ha.elim (fun e=>.inl (by omega)) .inr) (fun _=>by simp [Gh.upd])
         obtain ⟨k1,k2⟩:=hI.moveO r (did cx d) hne hd hl (ob:=g.own r) (fun c h=>h) (.arr sz (es.take hi'.toNat)) (.slice a' hi'.toNat cap) hi'.toNat true (by simp) (fun hkp=>by
          obtain ⟨u1,u2,u3,u4⟩:=upd_same g (did cx d) (.slice a' hi'.toNat cap) hi'.toNat true (g.own r) g.S;refine ⟨u3,u2.trans hlen.symm,fun c hc=>al c (List.mem_of_mem_take hc),?_⟩;rcases a2 with ⟨b1,b2,b3⟩ | ⟨b,cap',E,vs,b1,b2,b3,b4,b5,b6,b7⟩
          ·subst b1;rw [b2] at hv;cases hv;have h0:hi'.toNat=0:=by simp only [List.length_nil] at h2; omega
           exact .inl ⟨List.take_nil,by rw [u1,h0],u4.trans b3⟩
          ·rw [b1] at hv;cases hv;refine .inr ⟨b,cap,E,vs,by rw [hlen]; exact u1,u4.trans b2,by rw [hlen]; omega,b4,b5,?_,b7⟩;rw [hlen];exact (RepL.takeE al (by omega) b6).mono hkp (fun _ h=>h) (fun _ h=>h.elim))
         exact ⟨_,w,_,_,_,hrun,hk,k1,k2,hval⟩
       ·exact hk.elim
      ·exact hk.elim
     ·exact hk.elim
    ·exact hk.elim
  ·exact hk.elim
 ·exact hk.elim

theorem sliceK_ok {cx:Cx} (hT:TabOk P cx.T) {d:Option Nat} {ty:Nat} {x:AV} {vx:Value} {t:Nat→AV} {ρ:Operand→Value} (ht:∀ x:Operand,Rep g w (used h) (ev t x) (ρ x)) {lo hi mx:Option Operand} {K:HK} (hx:Rep g w (used h) x vx)
  (hk:sliceK cx d h ty x (optInt t lo) (optInt t hi) (optInt t mx) K):Does P w0 g0 h0 h g w (Instr.sliceAt ty vx (lo.map ρ) (hi.map ρ) (mx.map ρ)) K:=by
 unfold sliceK at hk;split at hk
 ·rename_i lo' hi' mx' e1 e2 e3;rw [optInt_ok ht e1,optInt_ok ht e2,optInt_ok ht e3];split at hk
  ·rename_i hs;split at hk
   ·rename_i s;obtain ⟨⟨h1,h2,h3⟩,hk⟩:=hk;obtain rfl:=hx.v_eq;have hb:=run_bounds (P:=P) (w:=w) false s.size s.size lo' hi' none (.inl rfl) h1 h2 (by simpa using h3) (by simp);refine (Gives.val (x:=.string (s.extract (lo'.getD 0).toNat (hi'.getD s.size).toNat)) ?_ hk).does hI;simp only [Instr.sliceAt,Sem.run_bind,run_underlying (hT.string hs),Result.andThen_ok,Instr.slice];simp only [Option.map_none,Option.isSome_none,Bool.false_eq_true,if_false] at hb ⊢;simp only [Sem.run_bind,hb,Result.andThen_ok,Sem.run_pure]
   ·exact hk.elim
  ·rename_i e hs;split at hk
   ·exact hk.elim
   ·rename_i k hsz;split at hk
    ·rename_i tk es;have hr:=hx.slice_none;obtain ⟨a,cap,hv,hcap⟩ : ∃ a cap,vx=.slice a es.length cap∧es.length≤cap:=by
      cases hr with
      | snil _ a cap=>exact ⟨a,cap,rfl,Nat.zero_le _⟩
      | slice _ _ b off sz cap val hc=>exact ⟨_,cap,rfl,hc⟩
     subst hv;split at hk
     ·obtain ⟨⟨h1,h2,h3⟩,hl,hk⟩:=hk;have hrun:=run_sliceVal (P:=P) (w:=w) hT hs hsz a es.length cap lo' hi' none (.inl rfl) h1 h2 (by simp only [Option.getD_none]; omega) (by simp);refine Gives.does hI ⟨_,_,hrun,hk,(Rep.sub (c':=cap - (lo'.getD 0).toNat) hr rfl hl (l:=(lo'.getD 0).toNat) (m:=(hi'.getD es.length).toNat) (by omega) (by omega) (by simp; omega) _ ?_).up _⟩;split
      ·rename_i e; simp only [Option.getD_none,Int.toNat_natCast] at e; exact .inr ⟨by omega,rfl⟩
      ·exact .inl rfl
     ·rename_i m;split at hk
      ·rename_i d hh;split at hk
       ·obtain ⟨⟨h1,h2,rfl,h3⟩,hl,hk⟩:=hk;have hrun:=run_sliceVal (P:=P) (w:=w) hT hs hsz a es.length cap lo' (some m) (some m) (.inr (by simp)) h1 h2 (by simp) (by simp only [Option.getD_some]; omega);simp only [Option.getD_some] at hrun;have hlen:((es.take m.toNat).drop (lo'.getD 0).toNat).length=m.toNat - (lo'.getD 0).toNat:=by rw [List.length_drop,List.length_take]; omega
        refine Gives.does hI ⟨_,_,hrun,hk,.full _ _ _ _ ((Rep.sub (c':=m.toNat - (lo'.getD 0).toNat) hr rfl hl (l:=(lo'.getD 0).toNat) (m:=m.toNat) (by omega) (by omega) (by omega) _ ?_).up _) (fun c hc=>hl c (List.mem_of_mem_take (List.mem_of_mem_drop hc))) ⟨_,by rw [hlen]⟩⟩;split
        ·rename_i e; exact .inr ⟨e,rfl⟩
        ·exact .inl rfl
       split at hk
       ·rename_i hd;obtain ⟨⟨h1,h2,rfl,h3⟩,hl,hk⟩:=hk;have hrun:=run_sliceVal (P:=P) (w:=w) hT hs hsz a es.length cap lo' (some m) (some m) (.inr (by simp)) h1 h2 (by simp) (by simp only [Option.getD_some]; omega);simp only [Option.getD_some] at hrun
        obtain ⟨g',k1,k2,k3⟩:=newFull_ok hI (sz:=(cx.T e).size) (n:=m.toNat - (lo'.getD 0).toNat) hd (es:=(es.take m.toNat).drop (lo'.getD 0).toNat) (fun c hc=>hl c (List.mem_of_mem_take (List.mem_of_mem_drop hc))) (by rw [List.length_drop,List.length_take]; omega)
         (Rep.sub (c':=m.toNat - (lo'.getD 0).toNat) hr rfl hl (l:=(lo'.getD 0).toNat) (m:=m.toNat) (by omega) (by omega) (by omega) (if m.toNat=(lo'.getD 0).toNat then a else a.map (·.add ((lo'.getD 0).toNat*(cx.T e).size))) (by
          split
          ·rename_i e; exact .inr ⟨e,rfl⟩
          ·exact .inl rfl))
        exact ⟨_,w,g',_,_,hrun,hk,k1,k2,k3⟩
       ·exact hk.elim
      ·exact hk.elim
    ·obtain ⟨⟨h1,h2,h3⟩,h4,hk⟩:=hk;obtain rfl:=hx.v_eq;have hrun:=run_sliceVal (P:=P) (w:=w) hT hs hsz none 0 0 lo' hi' mx' h4 (by omega) (by simp only [Int.natCast_zero] at *; omega) (by simp only [Int.natCast_zero] at *; omega) (by simp only [Int.natCast_zero] at *; omega);refine Gives.does hI (Gives.val (x:=.slice none 0 0) ?_ hk);rw [hrun];simp only [h1,Int.natCast_zero,h2,h3];simp
    ·rename_i r n;split at hk
     ·rename_i sz es e0;split at hk
      ·rename_i hse;obtain rfl:=Nat.eq_of_beq_eq_true hse;obtain ⟨⟨h1,h2,h3,h4,h5⟩,hk⟩:=hk;have ho:=hI.objs r;rw [e0] at ho;obtain ⟨t1,l1,al,a3⟩:=ho;have hl:(h r).live:=by rw [e0]; trivial
       have hmxc:mx'=none∨hi'≠none:=h5.imp id (fun q=>q.2);cases hx with
       | msl _ _ _ a cap hu ht' hn ha hx' =>
        have hv:=hx' (h1.trans l1.symm);subst h1;have hmx:∀ c:Nat,es.length≤c→hi'.getD es.length≤mx'.getD c∧mx'.getD c≤c:=fun c hc=>by
         rcases h5 with h5 | ⟨h5,hne⟩
         ·rw [h5]; simp only [Option.getD_none]; omega
         ·obtain ⟨m,hm⟩:=Option.ne_none_iff_exists'.1 hne;rw [h5,hm];rw [hm] at h3 h4;simp only [Option.getD_some] at h3 h4 ⊢; omega
        rcases a3 with ⟨rfl,q2,q3⟩ | ⟨b,cap',E,vs,q1,q2,q3,q4,q5,q6,q7⟩
        ·rw [q2] at hv;cases hv;have hrun:=run_sliceVal (P:=P) (w:=w) hT hs hsz none 0 0 lo' hi' mx' hmxc h2 h3 (hmx 0 (by simp)).1 (hmx 0 (by simp)).2
         obtain ⟨k1,k2⟩:=hI.upd r .dead (g.ρ r) (g.ln r) (g.tk r) (g.own r) g.S w none ⟨rfl,rfl,rfl,Nat.le_refl _⟩ (fun _ _ _=>rfl) (fun b e=>by cases e) (fun _ _ h=>h) (fun _ _ h=>.inl h) (fun b o e=>by cases e) (fun b hh _=>by cases hh) (by simp)
          (fun _=>⟨rfl,Nat.le_refl _,fun _=>rfl,fun _=>rfl⟩) (fun _ _=>trivial)
         refine ⟨_,w,_,_,_,hrun,hk,k1,k2,?_⟩;have z1:((lo'.getD 0).toNat)=0:=by simp only [List.length_nil,Int.natCast_zero] at h3 h4; omega
         have z2:((hi'.getD (([]:List (List AV)).length:Int)).toNat)=0:=by simp only [List.length_nil,Int.natCast_zero] at h3 h4 ⊢; omega
         simp only [List.take_nil,List.drop_nil];have z3:((hi'.getD ((0:Nat):Int)).toNat)=0:=z2;rw [z1,z3];exact .snil _ _ _
        ·rw [q1] at hv;cases hv;have hrun:=run_sliceVal (P:=P) (w:=w) hT hs hsz (some ⟨b,0,none⟩) es.length cap lo' hi' mx' hmxc h2 h3 (hmx _ q3).1 (hmx _ q3).2;have hblt:=(hI.loc r b hl q2).1
         obtain ⟨k1,k2⟩:=hI.upd r .dead (g.ρ r) (g.ln r) (g.tk r) (g.own r) (g.more b (es.length*(cx.T e).size)) w none ⟨rfl,rfl,rfl,Nat.le_refl _⟩ (fun _ _ _=>rfl) (fun b e=>by cases e) (fun _ _ h=>.inl h)
          (fun b' o hs=>hs.elim .inl (fun hs=>.inr ⟨by rw [hs.1]; exact hblt,.inr ⟨hl,by rw [hs.1]; exact q2⟩⟩)) (fun b o e=>by cases e) (fun b hh _=>by cases hh) (by simp)
          (fun _=>⟨rfl,Nat.le_refl _,fun _=>rfl,fun _=>rfl⟩) (fun _ _=>trivial)
         have hrep:=Rep.slice_row (g:=g.upd r (g.ρ r) (g.ln r) (g.tk r) (g.own r) (g.more b (es.length*(cx.T e).size))) (U:=NoU) q4 al q3 (q6.mono k2.keeps (fun _ h=>h) (fun _ h=>h.elim)) (fun o ho=>.inr ⟨rfl,ho⟩);have hmx2:=hmx _ q3;refine ⟨_,w,_,_,_,hrun,hk,k1,k2,(Rep.sub (c':=(mx'.getD cap).toNat - (lo'.getD 0).toNat) hrep rfl al (l:=(lo'.getD 0).toNat) (m:=(hi'.getD es.length).toNat) (by omega) (by omega) (by omega) _ ?_).up _⟩;split
         ·rename_i e; exact .inr ⟨by omega,rfl⟩
         ·exact .inl rfl
      ·exact hk.elim
     ·exact hk.elim
    ·exact hk.elim
  ·exact hk.elim
 ·exact hk.elim

theorem makeSliceK_ok {cx:Cx} (hT:TabOk P cx.T) {d:Option Nat} {ty:Nat} {n c:AV} {vn vc:Value} {K:HK} (hn:Rep g w (used h) n vn) (hc:Rep g w (used h) c vc) (hk:makeSliceK cx d h ty n c K) :
  Does P w0 g0 h0 h g w (Instr.makeSlice ty vn vc) K:=by
 unfold makeSliceK at hk;split at hk
 ·rename_i e n c hs;obtain rfl:=hn.v_eq;obtain rfl:=hc.v_eq;split at hk
  ·rename_i hone;split at hk
   ·rename_i hzl;have hzl:=Nat.eq_of_beq_eq_true hzl;split at hk
    ·exact hk.elim
    ·rename_i k hsz;obtain ⟨⟨h1,h2,h3,h4⟩,hk⟩:=hk;obtain ⟨i,z,i1,i2,i3,i4,i5⟩:=append_facts hT hsz;have hz0:(cx.T e).zc≠[]:=fun e0=>by rw [e0] at hzl; rw [hsz] at hzl; cases hzl
     have wn:IntKind.i64.wrap n=n:=wrap_in ⟨by omega,by omega⟩;have wc:IntKind.i64.wrap c=c:=wrap_in ⟨by omega,by omega⟩;have hall:∀ l:List AV,(∀ a ∈ l,one a=true)→allOne l=true:=by
      intro l
      induction l with
      | nil=>intro _; rfl
      | cons a l ih=>intro h; simp [allOne,h a (List.mem_cons_self ..),ih (fun b hb=>h b (List.mem_cons_of_mem _ hb))]
     have hrow:((Array.range (c.toNat*(cx.T e).size)).map fun k=>z.cells[k % z.cells.size]!).toList=(List.replicate c.toNat (cx.T e).zc).flatten:=by
      rw [replicate_flatten c.toNat _ hz0,hzl,i5];have e6:z.cells.size=(cx.T e).size:=by rw [← hzl,i5]; simp
      simp [e6,Array.getElem!_eq_getD]
     have hzs:(cx.T e).zc.length=(cx.T e).size:=hzl;have hlr:∀ c' ∈ List.replicate c.toNat (cx.T e).zc,c'.length=(cx.T e).size:=fun c' hc=>by rw [List.eq_of_mem_replicate hc]; exact hzl
     have hlr' : ∀ c' ∈ List.replicate n.toNat ((cx.T e).zc.map AV.v),c'.length=(cx.T e).size:=fun c' hc=>by rw [List.eq_of_mem_replicate hc,List.length_map]; exact hzl
     have hlr2:∀ c' ∈ List.replicate n.toNat (cx.T e).zc,c'.length=(cx.T e).size:=fun c' hc=>by rw [List.eq_of_mem_replicate hc]; exact hzl
     obtain ⟨g',av,h',q1,q2,q3,q4⟩:=newSlice_ok hI hk (vs:=(Array.range (c.toNat*(cx.T e).size)).map fun k=>z.cells[k % z.cells.size]!) (cap:=c.toNat) e hlr' (by rw [List.length_replicate]; omega) (by simp) (by
      rw [hrow,List.length_replicate];have e1:(List.replicate n.toNat ((cx.T e).zc.map AV.v)).flatten=(List.replicate n.toNat (cx.T e).zc).flatten.map AV.v:=by
       rw [List.map_flatten,List.map_replicate]
      have e2:(List.replicate c.toNat (cx.T e).zc).flatten.take (n.toNat*(cx.T e).size)=(List.replicate n.toNat (cx.T e).zc).flatten:=by
       obtain ⟨m,hm⟩ : ∃ m,c.toNat=n.toNat+m:=⟨c.toNat - n.toNat,by omega⟩;rw [hm,← List.replicate_append_replicate,List.flatten_append,List.take_left' (by rw [flatten_len hlr2,List.length_replicate])]
      rw [e1,e2];refine RepL.vals (hall _ (fun a ha=>?_));obtain ⟨x,hx,rfl⟩:=List.mem_map.1 ha;obtain ⟨l,hl,hx⟩:=List.mem_flatten.1 hx;rw [List.eq_of_mem_replicate hl] at hx;exact allOne_ok hone _ (List.mem_map.2 ⟨x,hx,rfl⟩)) w ⟨rfl,rfl,rfl,rfl⟩
     rw [List.length_replicate] at q4;refine ⟨_,_,g',av,h',?_,q1,q2,q3,q4⟩;have hb0:¬ ((cx.T e).bytes*c > 2 ^ 48):=by rw [Int.mul_comm]; omega
     have hcond:((decide (c<0)||decide (((cx.T e).bytes:Int)*c > 2 ^ 48))||decide (n<0)||decide (n > c))=false:=by
      simp only [Bool.or_eq_false_iff,decide_eq_false_iff_not];exact ⟨⟨⟨by omega,hb0⟩,by omega⟩,by omega⟩
     simp only [Instr.makeSlice,Sem.run_bind,run_underlying (hT.slice hs),Result.andThen_ok,asInt,asIntOf,Sem.run_pure,typeInfo,run_program,i1,i4,wn,wc,hcond,Bool.false_eq_true,if_false,run_askRoom,hT.size1 w hsz]
     by_cases hz:c.toNat*(k+1)=0
     ·have hc0:c.toNat=0:=by
       rcases Nat.mul_eq_zero.1 hz with h | h
       ·exact h
       ·cases h
      rw [hc0];simp only [Nat.zero_mul,if_true];simp only [show Array.range 0=#[] from rfl,Array.map_empty];simp [newRow]
     ·simp only [if_neg hz,Sem.run_bind,zeroValue,typeInfo,run_program,i1,i2,Result.andThen_ok,Sem.run_pure];rw [hsz];simp [newRow]
   ·exact hk.elim
  ·exact hk.elim
 ·exact hk.elim
end
end Go.Eng
