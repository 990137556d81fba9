/- Lemmas for the claims of this seat, without a condition: part 3 (P26, P27, P28, P29, P30, P13). -/
import Derived.Test.YtpgfieopnnkpfaaGreatDoorDA02
import Derived.Lib.LastIndexLaws
import Derived.Lib.IndexMore
import Derived.Lib.AtoiAll
namespace Go.Eng
theorem splitL_src (s:UInt8):∀ (p:List UInt8) (c:UInt8),c ∈ p→c=s∨∃ g ∈ splitL s p,c ∈ g
 | b :: r,c,hc=>by
  unfold splitL
  by_cases hb:b=s
  ·rw [if_pos hb];rcases List.mem_cons.1 hc with rfl | hc
   ·exact .inl hb
   ·rcases splitL_src s r c hc with h | ⟨g,h1,h2⟩
    ·exact .inl h
    ·exact .inr ⟨g,List.mem_cons_of_mem _ h1,h2⟩
  ·rw [if_neg hb];cases e:splitL s r with
   | nil =>
    rcases List.mem_cons.1 hc with rfl | hc
    ·exact .inr ⟨[c],List.mem_singleton.2 rfl,List.mem_singleton.2 rfl⟩
    ·rcases splitL_src s r c hc with h | ⟨g,h1,h2⟩
     ·exact .inl h
     ·rw [e] at h1; cases h1
   | cons x l =>
    rcases List.mem_cons.1 hc with rfl | hc
    ·exact .inr ⟨c :: x,List.mem_cons_self ..,List.mem_cons_self ..⟩
    ·rcases splitL_src s r c hc with h | ⟨g,h1,h2⟩
     ·exact .inl h
     ·rw [e] at h1;rcases List.mem_cons.1 h1 with rfl | h1
      ·exact .inr ⟨b :: g,List.mem_cons_self ..,List.mem_cons_of_mem _ h2⟩
      ·exact .inr ⟨g,List.mem_cons_of_mem _ h1,h2⟩
theorem splitL_none (s:UInt8):∀ (p:List UInt8),s ∉ p→splitL s p=[p]
 | [],_=>rfl
 | b :: r,h=>by
  unfold splitL;rw [List.mem_cons,not_or] at h;rw [if_neg (fun e=>h.1 e.symm),splitL_none s r h.2]
def PathOk (p:ByteArray):Prop:=NoB p∧47 ∈ p.data.toList
theorem pathOk_of {p:ByteArray} (h:(pathMajor p).isSome=true):PathOk p:=by
 unfold pathMajor majorL at h;split at h
 ·cases h
 ·split at h
  ·cases h
  ·rename_i h1;split at h
   ·rename_i h2;simp only [Bool.or_eq_true,decide_eq_true_eq,not_or] at h1;refine ⟨fun c hc=>?_,?_⟩
    ·unfold notB;refine decide_eq_true fun e=>?_;subst e;rcases splitL_src 47 _ _ hc with e | ⟨g,g1,g2⟩
     ·exact absurd e (by decide)
     ·have:=List.all_eq_true.1 h2 g g1
      unfold segOk at this;rw [Bool.and_eq_true] at this
      have:=List.all_eq_true.1 this.2 32 g2
      revert this; decide
    ·refine Decidable.byContradiction fun hn=>?_;rw [splitL_none 47 _ hn] at h1;exact h1.2 (by simp)
   ·cases h
def TmOk (t:Tm):Prop:=Canon t.set∧PathOk t.path
abbrev SepOk (sep:List UInt8):Prop:=∃ c u,sep=32 :: c :: u∧c≠124
def NotPre (sep r:List UInt8):Prop:=∀ u,r≠sep++u
def keyT (t:Tm):ByteArray × SpanL:=(t.path,shown t)
theorem sep_stop {sep:List UInt8} (h:SepOk sep) (r:List UInt8):Stop (sep++r):=by
 obtain ⟨c,u,rfl,hc⟩:=h;exact .inr ⟨c,u++r,rfl,hc⟩
theorem terms_cut {sep:ByteArray} (hsep:SepOk sep.data.toList):∀ {t u:Tm} {T U:List Tm} {r r' : List UInt8},(∀ z ∈ t :: T,TmOk z)→(∀ z ∈ u :: U,TmOk z)→Stop r→Stop r'→NotPre sep.data.toList r→NotPre sep.data.toList r' →
  (joinB sep ((t :: T).map termT)).data.toList++r=(joinB sep ((u :: U).map termT)).data.toList++r'→(t :: T).map keyT=(u :: U).map keyT∧r=r'
 | t,u,[],[],r,r',ht,hu,hr,hr',_,_,h=>by
  simp only [List.map_cons,List.map_nil,join_bytes_one] at h;obtain ⟨h1,h2,h3⟩:=term_cut (ht t (List.mem_cons_self ..)).1 (hu u (List.mem_cons_self ..)).1 (ht t (List.mem_cons_self ..)).2.1 (hu u (List.mem_cons_self ..)).2.1 hr hr' h;exact ⟨by simp only [List.map_cons,List.map_nil,keyT,h1,h2],h3⟩
 | t,u,[],v :: U,r,r',ht,hu,hr,hr',n,_,h=>by
  rw [List.map_cons,List.map_nil,join_bytes_one,List.map_cons,List.map_cons,join_bytes_cons,List.append_assoc,List.append_assoc] at h;obtain ⟨_,_,h3⟩:=term_cut (ht t (List.mem_cons_self ..)).1 (hu u (List.mem_cons_self ..)).1 (ht t (List.mem_cons_self ..)).2.1 (hu u (List.mem_cons_self ..)).2.1 hr (sep_stop hsep _) h;exact absurd h3 (n _)
 | t,u,v :: T,[],r,r',ht,hu,hr,hr',_,n,h=>by
  rw [List.map_cons,List.map_cons,join_bytes_cons,List.map_cons,List.map_nil,join_bytes_one,List.append_assoc,List.append_assoc] at h;obtain ⟨_,_,h3⟩:=term_cut (ht t (List.mem_cons_self ..)).1 (hu u (List.mem_cons_self ..)).1 (ht t (List.mem_cons_self ..)).2.1 (hu u (List.mem_cons_self ..)).2.1 (sep_stop hsep _) hr' h;exact absurd h3.symm (n _)
 | t,u,v :: T,w :: U,r,r',ht,hu,hr,hr',n,n',h=>by
  rw [List.map_cons,List.map_cons,join_bytes_cons,List.map_cons,List.map_cons,join_bytes_cons,List.append_assoc,List.append_assoc,List.append_assoc,List.append_assoc] at h;obtain ⟨h1,h2,h3⟩:=term_cut (ht t (List.mem_cons_self ..)).1 (hu u (List.mem_cons_self ..)).1 (ht t (List.mem_cons_self ..)).2.1 (hu u (List.mem_cons_self ..)).2.1 (sep_stop hsep _) (sep_stop hsep _) h
  obtain ⟨h4,h5⟩:=terms_cut hsep (t:=v) (u:=w) (T:=T) (U:=U) (fun z hz=>ht z (List.mem_cons_of_mem _ hz)) (fun z hz=>hu z (List.mem_cons_of_mem _ hz)) hr hr' n n'
   (by rw [List.map_cons,List.map_cons]; exact List.append_cancel_left h3)
  exact ⟨by rw [List.map_cons,List.map_cons (l:=w :: U),h4]; simp only [keyT,h1,h2],h5⟩
theorem compl_injC {a b:SpanL} (ha:Canon a) (hb:Canon b) (h:compl a=compl b):a=b:=by
 refine canon_unique ha hb fun p=>?_;have h1:=has_compl a p;have h2:=has_compl b p;rw [h,h2] at h1;cases hp:inPl p with
 | false =>
  have:∀ s:SpanL,has s p=false:=fun s=>by
   unfold has; unfold inPl at hp; rw [hp]; rfl
  rw [this,this]
 | true =>
  rw [hp] at h1;cases h3:has a p <;> cases h4:has b p <;> rw [h3,h4] at h1 <;> first | rfl | cases h1
theorem keyT_inj {t u:Tm} (ht:Canon t.set) (hu:Canon u.set) (ha:t.absent=u.absent) (h:keyT t=keyT u):t=u:=by
 unfold keyT shown at h;rw [Prod.mk.injEq] at h;refine tm_ext h.1 ha ?_;have h2:=h.2;rw [ha] at h2;cases e:u.absent with
 | true=>rw [e,if_pos rfl,if_pos rfl] at h2; exact compl_injC ht hu h2
 | false=>rw [e,if_neg (by decide),if_neg (by decide)] at h2; exact h2
theorem keys_inj {b:Bool} : ∀ {T U:List Tm},(∀ t ∈ T,Canon t.set∧t.absent=b)→(∀ t ∈ U,Canon t.set∧t.absent=b)→T.map keyT=U.map keyT→T=U
 | [],[],_,_,_=>rfl
 | [],_ :: _,_,_,h=>by cases h
 | _ :: _,[],_,_,h=>by cases h
 | t :: T,u :: U,hT,hU,h=>by
  rw [List.map_cons,List.map_cons,List.cons.injEq] at h;have h1:=hT t (List.mem_cons_self ..);have h2:=hU u (List.mem_cons_self ..);rw [keyT_inj h1.1 h2.1 (h1.2.trans h2.2.symm) h.1,keys_inj (fun z hz=>hT z (List.mem_cons_of_mem _ hz)) (fun z hz=>hU z (List.mem_cons_of_mem _ hz)) h.2]
def presT (c:List Tm):List Tm:=c.filter fun t=>!t.absent
def absT (c:List Tm):List Tm:=c.filter fun t=>t.absent
def restI (c:List Tm):List UInt8 :=
 if absT c=[] then (if (presT c).length=1 then bImp.data.toList else bDo.data.toList)
 else (if (presT c).length=1 then bNeeds.data.toList else bNeed.data.toList)++(joinB bOr ((absT c).map termT)).data.toList
theorem incF_bytes (c:List Tm):(incF c).data.toList =
  if presT c=[] then (if absT c=[] then bThis.data.toList else (joinB bOr ((absT c).map termT)).data.toList++bNeeded.data.toList)
  else (joinB bAnd ((presT c).map termT)).data.toList++restI c:=by
 have e1:∀ l:List Tm,(l.map termT=[])↔l=[]:=fun l=>List.map_eq_nil_iff;unfold incF restI haveL needL
 change (if (absT c).map termT=[] then (if (presT c).map termT=[] then bThis else if ((presT c).map termT).length=1 then joinB bAnd ((presT c).map termT)++bImp else joinB bAnd ((presT c).map termT)++bDo)
  else if (presT c).map termT=[] then joinB bOr ((absT c).map termT)++bNeeded
  else if ((presT c).map termT).length=1 then joinB bAnd ((presT c).map termT)++bNeeds++joinB bOr ((absT c).map termT)
  else joinB bAnd ((presT c).map termT)++bNeed++joinB bOr ((absT c).map termT)).data.toList=_
 rw [List.length_map]
 by_cases h1:absT c=[]
 ·rw [if_pos ((e1 _).2 h1)]
  by_cases h2:presT c=[]
  ·rw [if_pos ((e1 _).2 h2),if_pos h2,if_pos h1]
  ·rw [if_neg (fun e=>h2 ((e1 _).1 e)),if_neg h2,if_pos h1]
   by_cases h3:(presT c).length=1
   ·rw [if_pos h3,if_pos h3,ByteArray.toList_data_append]
   ·rw [if_neg h3,if_neg h3,ByteArray.toList_data_append]
 ·rw [if_neg (fun e=>h1 ((e1 _).1 e))]
  by_cases h2:presT c=[]
  ·rw [if_pos ((e1 _).2 h2),if_pos h2,if_neg h1,ByteArray.toList_data_append]
  ·rw [if_neg (fun e=>h2 ((e1 _).1 e)),if_neg h2,if_neg h1]
   by_cases h3:(presT c).length=1
   ·rw [if_pos h3,if_pos h3,ByteArray.toList_data_append,ByteArray.toList_data_append,List.append_assoc]
   ·rw [if_neg h3,if_neg h3,ByteArray.toList_data_append,ByteArray.toList_data_append,List.append_assoc]
theorem l_imp:bImp.data.toList=[32,105,115,32,105,109,112,111,115,115,105,98,108,101]:=by decide +kernel
theorem l_do:bDo.data.toList=[32,100,111,32,110,111,116,32,103,111,32,116,111,103,101,116,104,101,114]:=by decide +kernel
theorem l_needed:bNeeded.data.toList=[32,105,115,32,110,101,101,100,101,100]:=by decide +kernel
theorem l_needs:bNeeds.data.toList=[32,110,101,101,100,115,32]:=by decide +kernel
theorem l_need:bNeed.data.toList=[32,110,101,101,100,32]:=by decide +kernel
theorem l_this:bThis.data.toList=[116,104,105,115]++(32 :: [105,115,32,105,109,112,111,115,115,105,98,108,101]):=by decide +kernel
theorem restI_stop (c:List Tm):Stop (restI c)∧NotPre bAnd.data.toList (restI c):=by
 unfold restI;rw [l_imp,l_do,l_needs,l_need];split
 ·split
  ·exact ⟨.inr ⟨_,_,rfl,by decide⟩,fun u h=>by simp at h⟩
  ·exact ⟨.inr ⟨_,_,rfl,by decide⟩,fun u h=>by simp at h⟩
 ·split
  ·exact ⟨.inr ⟨_,_,rfl,by decide⟩,fun u h=>by simp at h⟩
  ·exact ⟨.inr ⟨_,_,rfl,by decide⟩,fun u h=>by simp at h⟩
theorem needed_stop:Stop bNeeded.data.toList∧NotPre bOr.data.toList bNeeded.data.toList:=by
 rw [l_needed];exact ⟨.inr ⟨_,_,rfl,by decide⟩,fun u h=>by simp at h⟩
theorem nil_stop:Stop []∧NotPre bOr.data.toList []:=⟨.inl rfl,fun u h=>by simp at h⟩
theorem and_sep:SepOk bAnd.data.toList:=⟨97,[110,100,32],rfl,by decide⟩
theorem or_sep:SepOk bOr.data.toList:=⟨111,[114,32],rfl,by decide⟩
theorem terms_head (sep:ByteArray) (t:Tm) (T:List Tm):∃ u,(joinB sep ((t :: T).map termT)).data.toList=t.path.data.toList++32 :: u:=by
 have h:(termT t).data.toList=t.path.data.toList++32 :: (setP t.path (shown t)).data.toList:=by
  change (t.path++bBlank++setP t.path (shown t)).data.toList=_
  simp only [ByteArray.toList_data_append,List.append_assoc]; rfl
 cases T with
 | nil=>exact ⟨_,by rw [List.map_cons,List.map_nil,join_bytes_one,h]⟩
 | cons v T=>exact ⟨_,by rw [List.map_cons,List.map_cons,join_bytes_cons,h,List.append_assoc,List.cons_append]⟩
theorem path_word {p:ByteArray} (hp:PathOk p) {w u r:List UInt8} (hw:∀ c ∈ w,notB c=true) (h47:47 ∉ w) (hr:Ends notB r) (h:p.data.toList++32 :: u=w++r):False:=by
 have:=(cut_at hp.1 hw (blank_ends _) hr h).1
 rw [← this] at h47;exact h47 hp.2
theorem terms_no (sep:ByteArray) {t:Tm} (ht:TmOk t) (T:List Tm) (r:List UInt8) :
  (joinB sep ((t :: T).map termT)).data.toList++r≠bThis.data.toList∧(joinB sep ((t :: T).map termT)).data.toList++r≠bNothing.data.toList:=by
 obtain ⟨u,hu⟩:=terms_head sep t T;rw [hu,List.append_assoc,List.cons_append,l_this];refine ⟨fun h=>path_word ht.2 (by decide) (by decide) (blank_ends _) h,fun h=>path_word (w:=bNothing.data.toList) (r:=[]) ht.2 (by decide) (by decide) (fun c hc=>by cases hc) (h.trans (List.append_nil _).symm)⟩
theorem mixed_no {t u:Tm} {T U:List Tm} (ht:TmOk t) (hu:TmOk u) (c:List Tm) (hc:presT c=t :: T)
  (h:(joinB bAnd ((t :: T).map termT)).data.toList++restI c=(joinB bOr ((u :: U).map termT)).data.toList++bNeeded.data.toList):False:=by
 have hA:∃ r,(joinB bAnd ((t :: T).map termT)).data.toList++restI c=(termT t).data.toList++r∧Stop r∧(∃ v,r=32 :: 97 :: v∨r=32 :: 105 :: 115 :: 32 :: 105 :: v∨r=32 :: 110 :: v):=by
  cases T with
  | nil =>
   rw [List.map_cons,List.map_nil,join_bytes_one];refine ⟨_,rfl,(restI_stop c).1,?_⟩;unfold restI;rw [hc,l_imp,l_needs];split
   ·exact ⟨_,.inr (.inl rfl)⟩
   ·exact ⟨_,.inr (.inr rfl)⟩
  | cons v T =>
   rw [List.map_cons,List.map_cons,join_bytes_cons,List.append_assoc,List.append_assoc];exact ⟨_,rfl,sep_stop and_sep _,_,.inl rfl⟩
 have hB:∃ r,(joinB bOr ((u :: U).map termT)).data.toList++bNeeded.data.toList=(termT u).data.toList++r∧Stop r∧(∃ v,r=32 :: 111 :: v∨r=32 :: 105 :: 115 :: 32 :: 110 :: v):=by
  cases U with
  | nil =>
   rw [List.map_cons,List.map_nil,join_bytes_one];exact ⟨_,rfl,needed_stop.1,by rw [l_needed]; exact ⟨_,.inr rfl⟩⟩
  | cons v U =>
   rw [List.map_cons,List.map_cons,join_bytes_cons,List.append_assoc,List.append_assoc];exact ⟨_,rfl,sep_stop or_sep _,_,.inl rfl⟩
 obtain ⟨r,e1,s1,v1,k1⟩:=hA;obtain ⟨r',e2,s2,v2,k2⟩:=hB;rw [e1,e2] at h;obtain ⟨_,_,h3⟩:=term_cut ht.1 hu.1 ht.2.1 hu.2.1 s1 s2 h;rcases k1 with rfl | rfl | rfl <;> rcases k2 with rfl | rfl <;> simp at h3
theorem partsT_eq {a b:List Tm} (ha:SortedT none a) (hb:SortedT none b) (h1:presT a=presT b) (h2:absT a=absT b):a=b:=by
 have hm:∀ {a b:List Tm},presT a=presT b→absT a=absT b→∀ t,t ∈ a→t ∈ b:=fun {a b} h1 h2 t ht=>by
  cases e:t.absent with
  | true =>
   have:t ∈ absT a:=List.mem_filter.2 ⟨ht,e⟩
   rw [h2] at this;exact (List.mem_filter.1 this).1
  | false =>
   have:t ∈ presT a:=List.mem_filter.2 ⟨ht,by rw [e]; rfl⟩
   rw [h1] at this;exact (List.mem_filter.1 this).1
 refine sortedT_unique ha hb fun p=>?_;cases e:findT a p with
 | some t =>
  have hp:t.path=p:=of_decide_eq_true (List.find?_some (p:=fun t:Tm=>decide (t.path=p)) e)
  have:=(findT_some_iff hb).1 (hm h1 h2 t (List.mem_of_find?_eq_some e))
  rw [hp] at this; exact this.symm
 | none=>cases e2:findT b p with
  | none=>rfl
  | some t =>
   have hp:t.path=p:=of_decide_eq_true (List.find?_some (p:=fun t:Tm=>decide (t.path=p)) e2)
   have:=(findT_some_iff ha).1 (hm h1.symm h2.symm t (List.mem_of_find?_eq_some e2))
   rw [hp,e] at this; cases this
theorem presT_ok {c:List Tm} (h:∀ t ∈ c,TmOk t):(∀ t ∈ presT c,TmOk t)∧(∀ t ∈ absT c,TmOk t)∧(∀ t ∈ presT c,Canon t.set∧t.absent=false)∧(∀ t ∈ absT c,Canon t.set∧t.absent=true) :=
 ⟨fun t ht=>h t (List.mem_filter.1 ht).1,fun t ht=>h t (List.mem_filter.1 ht).1,
  fun t ht=>⟨(h t (List.mem_filter.1 ht).1).1,by have:=(List.mem_filter.1 ht).2; cases e:t.absent with | true=>rw [e] at this; cases this | false=>rfl⟩,
  fun t ht=>⟨(h t (List.mem_filter.1 ht).1).1,(List.mem_filter.1 ht).2⟩⟩
theorem incF_nothing {c:List Tm} (h:∀ t ∈ c,TmOk t):(incF c).data.toList≠bNothing.data.toList:=by
 rw [incF_bytes];have hk:=presT_ok h;cases e1:presT c with
 | nil =>
  rw [if_pos rfl];cases e2:absT c with
  | nil=>rw [if_pos rfl]; decide +kernel
  | cons u U=>rw [if_neg (by simp)]; exact (terms_no _ (hk.2.1 u (by rw [e2]; exact List.mem_cons_self ..)) _ _).2
 | cons t T=>rw [if_neg (by simp)]; exact (terms_no _ (hk.1 t (by rw [e1]; exact List.mem_cons_self ..)) _ _).2
theorem incF_inj {a b:List Tm} (sa:SortedT none a) (sb:SortedT none b) (ha:∀ t ∈ a,TmOk t) (hb:∀ t ∈ b,TmOk t) (h:incF a=incF b):a=b:=by
 have h:=congrArg (fun x=>x.data.toList) h;simp only [incF_bytes] at h;have ka:=presT_ok ha;have kb:=presT_ok hb
 suffices presT a=presT b∧absT a=absT b from partsT_eq sa sb this.1 this.2
 cases p1:presT a with
 | nil =>
  rw [p1,if_pos rfl] at h;cases p2:presT b with
  | nil =>
   rw [p2,if_pos rfl] at h;refine ⟨rfl,?_⟩;cases q1:absT a with
   | nil =>
    rw [q1,if_pos rfl] at h;cases q2:absT b with
    | nil=>rfl
    | cons u U =>
     rw [q2,if_neg (by simp)] at h;exact absurd h.symm (terms_no _ (kb.2.1 u (by rw [q2]; exact List.mem_cons_self ..)) _ _).1
   | cons t T =>
    rw [q1,if_neg (by simp)] at h;cases q2:absT b with
    | nil =>
     rw [q2,if_pos rfl] at h;exact absurd h (terms_no _ (ka.2.1 t (by rw [q1]; exact List.mem_cons_self ..)) _ _).1
    | cons u U =>
     rw [q2,if_neg (by simp)] at h
     have:=terms_cut or_sep (q1▸ka.2.1) (q2▸kb.2.1) needed_stop.1 needed_stop.1 needed_stop.2 needed_stop.2 h
     exact keys_inj (q1▸ka.2.2.2) (q2▸kb.2.2.2) this.1
  | cons u U =>
   rw [p2] at h
   exfalso
   cases q1:absT a with
   | nil =>
    rw [q1,if_pos rfl,if_neg (List.cons_ne_nil _ _)] at h;exact (terms_no _ (kb.1 u (by rw [p2]; exact List.mem_cons_self ..)) _ _).1 h.symm
   | cons t T =>
    rw [q1,if_neg (List.cons_ne_nil _ _),if_neg (List.cons_ne_nil _ _)] at h;exact mixed_no (kb.1 u (by rw [p2]; exact List.mem_cons_self ..)) (ka.2.1 t (by rw [q1]; exact List.mem_cons_self ..)) b p2 h.symm
 | cons t T =>
  rw [p1,if_neg (by simp)] at h;cases p2:presT b with
  | nil =>
   rw [p2,if_pos rfl] at h
   exfalso
   cases q2:absT b with
   | nil =>
    rw [q2,if_pos rfl] at h;exact (terms_no _ (ka.1 t (by rw [p1]; exact List.mem_cons_self ..)) _ _).1 h
   | cons u U =>
    rw [q2,if_neg (by simp)] at h;exact mixed_no (ka.1 t (by rw [p1]; exact List.mem_cons_self ..)) (kb.2.1 u (by rw [q2]; exact List.mem_cons_self ..)) a p1 h
  | cons u U =>
   rw [p2,if_neg (by simp)] at h;obtain ⟨h1,h2⟩:=terms_cut and_sep (p1▸ka.1) (p2▸kb.1) (restI_stop a).1 (restI_stop b).1 (restI_stop a).2 (restI_stop b).2 h;have hP:t :: T=u :: U:=keys_inj (p1▸ka.2.2.1) (p2▸kb.2.2.1) h1;refine ⟨hP,?_⟩;unfold restI at h2;rw [p1,p2,hP,l_imp,l_do,l_needs,l_need] at h2;cases q1:absT a with
   | nil =>
    rw [q1,if_pos (rfl:([]:List Tm)=[])] at h2;cases q2:absT b with
    | nil=>rfl
    | cons v V =>
     rw [q2,if_neg (List.cons_ne_nil v V)] at h2
     exfalso
     by_cases hl:(u :: U).length=1
     ·rw [if_pos hl,if_pos hl] at h2; simp at h2
     ·rw [if_neg hl,if_neg hl] at h2; simp at h2
   | cons v V =>
    rw [q1,if_neg (List.cons_ne_nil v V)] at h2;cases q2:absT b with
    | nil =>
     rw [q2,if_pos (rfl:([]:List Tm)=[])] at h2
     exfalso
     by_cases hl:(u :: U).length=1
     ·rw [if_pos hl,if_pos hl] at h2; simp at h2
     ·rw [if_neg hl,if_neg hl] at h2; simp at h2
    | cons w W =>
     rw [q2,if_neg (List.cons_ne_nil w W)] at h2;have h3:=List.append_cancel_left h2
     have:=terms_cut or_sep (q1▸ka.2.1) (q2▸kb.2.1) nil_stop.1 nil_stop.1 nil_stop.2 nil_stop.2 (by rw [List.append_nil,List.append_nil]; exact h3)
     exact keys_inj (q1▸ka.2.2.2) (q2▸kb.2.2.2) this.1
theorem distinct_ok {a b:List Tm} (ha:∀ c,canonT a=some c→∀ t ∈ c,(pathMajor t.path).isSome=true) (hb:∀ c,canonT b=some c→∀ t ∈ c,(pathMajor t.path).isSome=true) :
  incText a=incText b↔canonT a=canonT b:=by
 have hok:∀ {a c:List Tm},canonT a=some c→(∀ t ∈ c,(pathMajor t.path).isSome=true)→∀ t ∈ c,TmOk t:=fun h hp t ht=>⟨(canonT_sorted h).canon t ht,pathOk_of (hp t ht)⟩;refine ⟨fun h=>?_,fun h=>by unfold incText; rw [h]⟩;unfold incText at h;cases e1:canonT a with
 | none=>cases e2:canonT b with
  | none=>rfl
  | some d =>
   rw [e1,e2] at h;exact absurd (congrArg (fun x=>x.data.toList) h.symm) (incF_nothing (hok e2 (hb d e2)))
 | some c=>cases e2:canonT b with
  | none =>
   rw [e1,e2] at h;exact absurd (congrArg (fun x=>x.data.toList) h) (incF_nothing (hok e1 (ha c e1)))
  | some d =>
   rw [e1,e2] at h;rw [incF_inj (canonT_sorted e1) (canonT_sorted e2) (hok e1 (ha c e1)) (hok e2 (hb d e2)) h]
end Go.Eng

namespace Go.Eng
open Go.Lib (lastIndex index cut occAt atoiAll parseUint10 parseMag decDigits)
end Go.Eng

namespace Go.Eng
-- no parenthesis in the text of an incompatibility
end Go.Eng

namespace Go.Eng
open Go.Lib (lastIndex)
end Go.Eng

namespace Go.Eng
abbrev exL2:ByteArray:=(⟨#[51,46,32,97,47,118,49,32,49,46,48,46,48,32,105,115,32,110,101,101,100,101,100,32,40,102,114,111,109,32,49,32,97,110,100,32,50,41]⟩ : ByteArray)
abbrev exL3:ByteArray:=(⟨#[52,46,32,97,47,118,49,32,49,46,48,46,48,32,110,101,101,100,115,32,98,47,118,49,32,49,46,50,46,48,46,46,32,40,98,121,32,97,47,118,49,32,49,46,48,46,48,41]⟩ : ByteArray)
abbrev exL5:ByteArray:=(⟨#[54,46,32,97,47,118,49,32,49,46,48,46,48,32,105,115,32,105,109,112,111,115,115,105,98,108,101,32,40,102,114,111,109,32,52,32,97,110,100,32,53,41]⟩ : ByteArray)
abbrev exL6:ByteArray:=(⟨#[55,46,32,116,104,105,115,32,105,115,32,105,109,112,111,115,115,105,98,108,101,32,40,102,114,111,109,32,51,32,97,110,100,32,54,41]⟩ : ByteArray)
def awake38:Bool :=
 decide ((linesP exIx exRoots exInf 6).2=0)&&decide ((linesP exIx exRoots exInf 6).1.length=7)&&decide ((linesP exIx exRoots exInf 6).1[2]?=some exL2)&&decide ((linesP exIx exRoots exInf 6).1[3]?=some exL3) &&
 decide ((linesP exIx exRoots exInf 6).1[5]?=some exL5)&&decide ((linesP exIx exRoots exInf 6).1[6]?=some exL6)&&decide (usedL exInf 5=[3,4,5])&&decide ((trimL exInf 2).length=3)
theorem awake38_true:awake38=true:=by decide +kernel
end Go.Eng

namespace Go.Eng
end Go.Eng
