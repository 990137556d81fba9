/- Lemmas for the claims of this seat, without a condition: part 25 (R23, R24, C74). -/
import Derived.Test.YtodcmjcogdcmlaaGreatDoorA24
namespace Go.Eng
open Go.Proofs
theorem opt_cases {α:Type} (o:Option α):(∃ x,o=some x)∨o=none:=by
 cases o with
 | none=>exact .inr rfl
 | some x=>exact .inl ⟨x,rfl⟩
theorem ofT_len (l:List Tm):(ofT l).length≤l.length:=by
 unfold ofT canonT;split
 ·simp
 ·have h1:=List.length_filter_le (fun t=>!alwaysT t) (mergeT l);have h2:=mergeT_len l l.length (Nat.le_refl _);rw [List.take_length] at h2;show ((mergeT l).filter _).length≤_;omega
theorem ofT_can (l:List Tm):∀ t ∈ ofT l,Canon t.set:=fun t ht=>by
 unfold ofT canonT at ht;split at ht
 ·cases ht
 ·exact (mergeT_sorted l).canon t (List.mem_filter.1 ht).1
theorem split_no {a:List Tm} {p:ByteArray} (h:(canonT a).isSome=false):splitT a p=none:=by
 unfold splitT;cases e:canonT a with
 | none=>rfl
 | some c=>rw [e] at h; cases h
theorem split_miss {a:List Tm} {p:ByteArray} (hf:(ofT a).find? (fun t=>decide (t.path=p))=none):splitT a p=none:=by
 unfold splitT ofT at *
 cases e:canonT a with
 | none=>rfl
 | some c=>rw [e] at hf; show (match findT c p with | none=>none | some t=>some (t,withoutT c p))=none; rw [show findT c p=none from hf]
theorem split_hit {a:List Tm} {p:ByteArray} {t:Tm} (h:(canonT a).isSome=true) (hf:(ofT a).find? (fun t=>decide (t.path=p))=some t):splitT a p=some (t,withoutT (ofT a) p):=by
 unfold splitT ofT at *
 cases e:canonT a with
 | none=>rw [e] at h; cases h
 | some c=>rw [e] at hf; show (match findT c p with | none=>none | some t=>some (t,withoutT c p))=_; rw [show findT c p=some t from hf]; rfl
theorem res_no1 {a b:List Tm} {p:ByteArray} (h:splitT a p=none):resolveT a b p=([],1):=by unfold resolveT; rw [h]
theorem res_no2 {a b:List Tm} {p:ByteArray} (h:splitT b p=none):resolveT a b p=([],1):=by
 unfold resolveT; rw [h];cases splitT a p <;> rfl
abbrev resL (a b:List Tm) (p:ByteArray) (t u:Tm):List Tm:=withoutT (ofT a) p++withoutT (ofT b) p++[eitherT t u]
theorem res_yes {a b:List Tm} {p:ByteArray} {t u:Tm} (h:splitT a p=some (t,withoutT (ofT a) p)) (k:splitT b p=some (u,withoutT (ofT b) p)):resolveT a b p=if (canonT (resL a b p t u)).isSome then (ofT (resL a b p t u),0) else ([],8):=by
 have e:resolveT a b p=match canonT (resL a b p t u) with | some o=>(o,0) | none=>([],8):=by unfold resolveT; rw [h,k]; rfl
 rw [e];cases hc:canonT (resL a b p t u) with
 | none=>rfl
 | some o=>unfold ofT; rw [hc]; rfl
abbrev resR (a b:List Tm) (p:ByteArray):AV:=.tup [sl encTm (resolveT a b p).1,vi (resolveT a b p).2]
theorem resR_no {a b:List Tm} {p:ByteArray} {e:Int} (h:resolveT a b p=([],e)):Sub (.tup [.v (.slice none 0 0),vi e]) (resR a b p) :=
 (show Sub (.tup [.v (.slice none 0 0),vi e]) (.tup [.slice .none [],vi e]) from Sub.tup ⟨.nil,.refl _,trivial⟩).trans (.of_eq (show AV.tup [.slice .none [],vi e]=resR a b p by unfold resR; rw [h]; rfl))
theorem fewI_few {t:List Tm} (h:FewI t):Few t:=by have:=h.1; unfold Few; omega
theorem c124t (l:List Tm) (hl:Few l) (p:ByteArray):ACall Tryz.prog 124 [sl encTm l,vs p] (heapOf [] hfree) fun r h'=>r=.slice (.id 2000 3) ((l.filter fun t=>!decide (t.path=p)).map encTm)∧h'=heapOf [(2000,.tok 3 ((l.filter fun t=>!decide (t.path=p)).map encTm).length)] hfree:=by
 have hl:l.length≤1073741824:=hl;refine acall_sub (cxe ⟨[],[],[],[],[],[],[],[],[],[],[4]⟩) [(7,2000)] rfl tab_ok hm rfl Tryz.func124 (by kernel_rfl) rfl (Nz rfl) (by kernel_rfl) rfl ?_;refine Xi {q:Nat × List Tm // q.1≤l.length∧q.2=(l.take q.1).filter fun t=>!decide (t.path=p)} (Xi (fun q=>⟨[(0,sl encTm l),(1,vs p),(5,.slice (.id 7 3) (q.1.2.map encTm)),(6,vi q.1.1)],[(7,.tok 3 q.1.2.length)],hfree⟩) (Xi (fun q=>l.length - q.1.1) (Yi (Xi ⟨(0,[]),Nat.zero_le _,rfl⟩ ?_) ?_)))
 ·exact ⟨Z4,Z1,Fh,ext_dec (by kernel_rfl)⟩
 intro ⟨⟨i,A⟩,i1,i2⟩;have i1:i≤l.length:=i1;have i2:A=(l.take i).filter fun t=>!decide (t.path=p):=i2;have hA:A.length≤i:=by
  have:=List.length_filter_le (fun t:Tm=>!decide (t.path=p)) (l.take i)
  rw [List.length_take] at this; rw [i2]; omega
 refine Yi (fun h1=>?_) (fun h1=>?_)
 ·have h1:(i:Int)<((l.map encTm).length:Int):=h1;have n1:i<l.length:=by simpa using h1
  have g1:l[i]?=some l[i]:=Ge n1;refine Xi (encTm l[i]) (Yi (Yi (Nn i) (map_at g1)) (Yi rfl ?_));refine Yi (fun h3=>?_) (fun h3=>?_)
  ·have h3:(l[i].path:ByteArray)≠p:=h3;refine Xi (encTm l[i]) (Yi (Yi (Nn i) (map_at g1)) (Yi rfl ?_));refine Yi (Nz rfl) ?_;have b4:AllLen 3 [(encTm l[i])]∧(A.map encTm).length=A.length∧((A.map encTm).length+([(encTm l[i])]:List (List AV)).length)*48≤140737488355328∧(A.map encTm).length+([(encTm l[i])]:List (List AV)).length≤9223372036854775807:=⟨⟨rfl,trivial⟩,(by simp),(by simp only [Lm,List.length_cons,List.length_nil]; omega),(by simp only [Lm,List.length_cons,List.length_nil]; omega)⟩;refine Yi b4 ?_;refine Xi ⟨[(0,sl encTm l),(1,vs p),(5,.slice (.id 7 3) ((A.map encTm)++[(encTm l[i])])),(6,vi i)],[(7,.tok 3 ((A.map encTm).length+([(encTm l[i])]:List (List AV)).length))],hfree⟩ (Yi ⟨Z4,Z1,Fh,ext_dec (by kernel_rfl)⟩ ?_)
   refine Yi (Ii i (by omega)) ?_;refine Xi ⟨(i+1,(A++[l[i]])),by omega,by show (A++[l[i]])=(l.take (i+1)).filter _; rw [List.take_add_one,Ge n1,List.filter_append,← i2]; show _=A++[l[i]].filter _; rw [List.filter_cons,if_pos (by simpa using h3)]; simp⟩ ?_;exact ⟨Dl l.length i (by omega),⟨Zr,Zr,⟨(show AV.slice (.id 7 3) (A.map encTm++[encTm l[i]])=.slice (.id 7 3) ((A++[l[i]]).map encTm) by simp),rfl⟩,Zr,Tv⟩,⟨⟨(show HO.tok 3 ((A.map encTm).length+[encTm l[i]].length)=.tok 3 (A++[l[i]]).length by simp),rfl⟩,Tv⟩,Fh,ext_dec (by kernel_rfl)⟩
  have h3:(l[i].path:ByteArray)=p:=Classical.byContradiction h3;refine Xi ⟨[(0,sl encTm l),(1,vs p),(5,.slice (.id 7 3) (A.map encTm)),(6,vi i)],[(7,.tok 3 A.length)],hfree⟩ (Yi ⟨Z4,Z1,Fh,ext_dec (by kernel_rfl)⟩ ?_)
  refine Yi (Ii i (by omega)) ?_;refine Xi ⟨(i+1,A),by omega,by show A=(l.take (i+1)).filter _; rw [List.take_add_one,Ge n1,List.filter_append,← i2]; show _=A++[l[i]].filter _; rw [List.filter_cons,if_neg (by simpa using h3)]; simp⟩ ?_;exact ⟨Dl l.length i (by omega),Z4,Z1,Fh,ext_dec (by kernel_rfl)⟩
 have h1:¬ ((i:Int)<((l.map encTm).length:Int)):=h1;have n1:¬ i<l.length:=by simpa using h1
 have eA:A=l.filter (fun t=>!decide (t.path=p)):=by rw [i2,List.take_of_length_le (by omega)]
 exact Xi _ (Yi (.refl _) (Yi (congrArg (fun B:List Tm=>AV.slice (.id 2000 3) (B.map encTm)) eA) (show heapOf [(2000,HO.tok 3 A.length)] hfree=heapOf [(2000,HO.tok 3 ((l.filter fun t=>!decide (t.path=p)).map encTm).length)] hfree by rw [Lm,eA])))
set_option maxHeartbeats 4000000 in
theorem c74 (a b:List Tm) (p:ByteArray) (ha:FewI a) (hb:FewI b):PC 74 [sl encTm a,sl encTm b,vs p] (resR a b p):=by
 have ha1:=ha.1;have hb1:=hb.1;refine Ps ⟨[],[],[],[],[],[],[],[],[(71,3)],[],[3,5,6,7,8,9]⟩ Tryz.func74 rfl (Nz rfl) ?_;refine Or.elim (Bt ((canonT a).isSome)) (fun h1=>?_) (fun h1=>?_)
 ·have h1:((canonT a).isSome)=true:=h1;have hc2:=(show PC 121 [sl encTm a] (.tup [sl encTm (ofT a),vb (canonT a).isSome]) from c121 a (fewI_few ha) ha.2);rw [show (canonT a).isSome=true from h1] at hc2;refine Xi .pure (Xi _ (Yi hc2 ?_));refine Or.elim (Bt ((canonT b).isSome)) (fun h3=>?_) (fun h3=>?_)
  ·have h3:((canonT b).isSome)=true:=h3;have hc4:=(show PC 121 [sl encTm b] (.tup [sl encTm (ofT b),vb (canonT b).isSome]) from c121 b (fewI_few hb) hb.2);rw [show (canonT b).isSome=true from h3] at hc4;refine Xi .pure (Xi _ (Yi hc4 ?_));refine Xi ⟨[(2,vs p),(8,sl encTm (ofT a)),(9,vb true),(10,sl encTm (ofT b)),(11,vb true)],[],hfree⟩ (Yi ⟨Z5,Tv,Fh,Tv⟩ ?_)
   refine Or.elim (opt_cases ((ofT a).find? (fun t=>decide (t.path=p)))) (fun h5=>?_) (fun h5=>?_)
   ·refine Exists.elim h5 (fun t h5=>?_);have hc5:=c122 (ofT a) (by unfold Few; have:=ofT_len a; have:=ha.1; omega) p;rw [h5] at hc5;refine Xi .pure (Xi _ (Yi hc5 ?_));refine Yi (Nz rfl) ?_;refine Or.elim (opt_cases ((ofT b).find? (fun t=>decide (t.path=p)))) (fun h6=>?_) (fun h6=>?_)
    ·refine Exists.elim h6 (fun u h6=>?_);have hc6:=c122 (ofT b) (by unfold Few; have:=ofT_len b; have:=hb.1; omega) p;rw [h6] at hc6;refine Xi .pure (Xi _ (Yi hc6 ?_));refine Yi (Nz rfl) ?_;refine Xi ⟨[(2,vs p),(8,sl encTm (ofT a)),(9,vb true),(10,sl encTm (ofT b)),(11,vb true),(12,.ref 12 0),(13,vb true),(14,.ref 14 0),(15,vb true)],[(12,.cells (encTm t)),(14,.cells (encTm u))],hfree⟩ (Yi ⟨Z9,Z2,Fh,Tv⟩ ?_)
     refine Xi ⟨[(2,vs p),(8,sl encTm (ofT a)),(10,sl encTm (ofT b)),(12,.ref 12 0),(14,.ref 14 0)],[(12,.cells (encTm t)),(14,.cells (encTm u))],hfree⟩ (Yi ⟨Z5,Z2,Fh,Tv⟩ ?_)
     have htm:t ∈ ofT a:=List.mem_of_find?_eq_some h5;have hum:u ∈ ofT b:=List.mem_of_find?_eq_some h6;have htp:t.path=p:=by simpa using List.find?_some h5
     have htc:=ofT_can a t htm;have huc:=ofT_can b u hum;have hUf:Few [t.set,u.set].flatten:=by
      have h1:=canon_len htc;have h2:=canon_len huc;unfold Few;show (t.set++(u.set++[])).length≤_;rw [List.length_append,List.length_append]; simp only [List.length_nil]; omega
     have hla:=ofT_len a;have hlb:=ofT_len b;have hwa:(withoutT (ofT a) p).length≤(ofT a).length:=List.length_filter_le ..;have hwb:(withoutT (ofT b) p).length≤(ofT b).length:=List.length_filter_le ..;have ha1:=ha.1;have hb1:=hb.1;have hLf:Few (resL a b p t u):=by unfold Few resL; rw [List.length_append,List.length_append,List.length_singleton]; omega
     have hLs:∀ x ∈ resL a b p t u,Few x.set:=fun x hx=>by
      rcases List.mem_append.1 hx with hx | hx
      ·rcases List.mem_append.1 hx with hx | hx
       ·exact few_can (ofT_can a x (List.mem_filter.1 hx).1)
       ·exact few_can (ofT_can b x (List.mem_filter.1 hx).1)
      ·rw [List.mem_singleton.1 hx]; exact few_can (t:=eitherT t u) (unionL_canon [t.set,u.set])
     refine Yi (fun h7=>?_) (fun h7=>?_)
     ·have h7:t.absent=true:=h7;refine Xi _ (Yi (c123 [t.set,u.set] (by unfold Few; simp) hUf) ?_);refine Yi (Nz rfl) ?_;refine Yi (by kernel_rfl) ?_;refine Xi ⟨[(2,vs p),(8,sl encTm (ofT a)),(10,sl encTm (ofT b)),(16,.ref 16 0)],[(16,.cells [vs p,vb true,sl encSpan (union t.set u.set)])],hfree⟩ (Yi ⟨Z4,Z1,Fh,Tv⟩ ?_)
      refine Xi _ (Xi _ (Yi (by kernel_rfl) (Yi (c124t (ofT a) (by unfold Few; have:=ofT_len a; have:=ha.1; omega) p) ?_)));refine Xi _ (Yi (c124 (ofT b) (by unfold Few; have:=ofT_len b; have:=hb.1; omega) p) ?_);have b8:AllLen 3 ((withoutT (ofT b) p).map encTm)∧((withoutT (ofT a) p).map encTm).length=((withoutT (ofT a) p).map encTm).length∧(((withoutT (ofT a) p).map encTm).length+((withoutT (ofT b) p).map encTm).length)*48≤140737488355328∧((withoutT (ofT a) p).map encTm).length+((withoutT (ofT b) p).map encTm).length≤9223372036854775807:=⟨(allLen_map (enc:=encTm) (n:=3) (fun _=>rfl) (withoutT (ofT b) p)),rfl,(by simp only [Lm]; omega),(by simp only [Lm]; omega)⟩;refine Yi b8 ?_;refine Yi (Nz rfl) ?_;have b9:AllLen 3 [[vs p,vb true,sl encSpan (union t.set u.set)]]∧((((withoutT (ofT a) p).map encTm)++((withoutT (ofT b) p).map encTm)):List (List AV)).length=(((withoutT (ofT a) p).map encTm).length+((withoutT (ofT b) p).map encTm).length)∧(((((withoutT (ofT a) p).map encTm)++((withoutT (ofT b) p).map encTm)):List (List AV)).length+([[vs p,vb true,sl encSpan (union t.set u.set)]]:List (List AV)).length)*48≤140737488355328∧((((withoutT (ofT a) p).map encTm)++((withoutT (ofT b) p).map encTm)):List (List AV)).length+([[vs p,vb true,sl encSpan (union t.set u.set)]]:List (List AV)).length≤9223372036854775807:=⟨⟨rfl,trivial⟩,(by simp),(by simp only [Lm,List.length_append,List.length_cons,List.length_nil]; omega),(by simp only [Lm,List.length_append,List.length_cons,List.length_nil]; omega)⟩;refine Yi b9 ?_;have eL:((((withoutT (ofT a) p).map encTm)++((withoutT (ofT b) p).map encTm))++[[vs p,vb true,sl encSpan (union t.set u.set)]])=(resL a b p t u).map encTm:=by
       have e1:encTm (eitherT t u)=[vs p,vb (t.absent||u.absent),sl encSpan (union t.set u.set)]:=by rw [← htp]; rfl
       have e2:(resL a b p t u).map encTm=(withoutT (ofT a) p).map encTm++(withoutT (ofT b) p).map encTm++[encTm (eitherT t u)]:=by unfold resL; rw [List.map_append,List.map_append]; rfl
       rw [e2,e1,show t.absent=true from h7]; rfl
      refine Or.elim (Bt ((canonT (resL a b p t u)).isSome)) (fun h10=>?_) (fun h10=>?_)
      ·have h10:((canonT (resL a b p t u)).isSome)=true:=h10;have hc11:=(show PC 121 [.slice .none (((((withoutT (ofT a) p).map encTm)++((withoutT (ofT b) p).map encTm))++[[vs p,vb true,sl encSpan (union t.set u.set)]]))] (.tup [sl encTm (ofT (resL a b p t u)),vb (canonT (resL a b p t u)).isSome]) from by rw [eL]; exact c121 (resL a b p t u) hLf hLs);rw [show (canonT (resL a b p t u)).isSome=true from h10] at hc11;refine Xi _ (Yi hc11 ?_);refine Yi (by kernel_rfl) ?_;refine Xi ⟨[(9,vb true),(17,sl encTm (ofT (resL a b p t u)))],[],hfree⟩ (Yi ⟨Z2,Tv,Fh,Tv⟩ ?_)
       exact .of_eq (show AV.tup [sl encTm (ofT (resL a b p t u)),vi 0]=resR a b p by unfold resR; rw [(res_yes (split_hit h1 h5) (split_hit h3 h6)).trans (if_pos h10)])
      have h10:((canonT (resL a b p t u)).isSome)=false:=h10;have hc13:=(show PC 121 [.slice .none (((((withoutT (ofT a) p).map encTm)++((withoutT (ofT b) p).map encTm))++[[vs p,vb true,sl encSpan (union t.set u.set)]]))] (.tup [sl encTm (ofT (resL a b p t u)),vb (canonT (resL a b p t u)).isSome]) from by rw [eL]; exact c121 (resL a b p t u) hLf hLs);rw [show (canonT (resL a b p t u)).isSome=false from h10] at hc13;refine Xi _ (Yi hc13 ?_);refine Yi (by kernel_rfl) ?_;refine Xi ⟨[(9,vb false),(17,sl encTm (ofT (resL a b p t u)))],[],hfree⟩ (Yi ⟨Z2,Tv,Fh,Tv⟩ ?_)
      exact resR_no ((res_yes (split_hit h1 h5) (split_hit h3 h6)).trans (if_neg (by rw [h10]; decide)))
     have h7:t.absent=false:=h7;refine Yi (fun h15=>?_) (fun h15=>?_)
     ·have h15:u.absent=true:=h15;refine Xi _ (Yi (c123 [t.set,u.set] (by unfold Few; simp) hUf) ?_);refine Yi (Nz rfl) ?_;refine Yi (by kernel_rfl) ?_;refine Xi ⟨[(2,vs p),(8,sl encTm (ofT a)),(10,sl encTm (ofT b)),(16,.ref 16 0)],[(16,.cells [vs p,vb true,sl encSpan (union t.set u.set)])],hfree⟩ (Yi ⟨Z4,Z1,Fh,Tv⟩ ?_)
      refine Xi _ (Xi _ (Yi (by kernel_rfl) (Yi (c124t (ofT a) (by unfold Few; have:=ofT_len a; have:=ha.1; omega) p) ?_)));refine Xi _ (Yi (c124 (ofT b) (by unfold Few; have:=ofT_len b; have:=hb.1; omega) p) ?_);have b16:AllLen 3 ((withoutT (ofT b) p).map encTm)∧((withoutT (ofT a) p).map encTm).length=((withoutT (ofT a) p).map encTm).length∧(((withoutT (ofT a) p).map encTm).length+((withoutT (ofT b) p).map encTm).length)*48≤140737488355328∧((withoutT (ofT a) p).map encTm).length+((withoutT (ofT b) p).map encTm).length≤9223372036854775807:=⟨(allLen_map (enc:=encTm) (n:=3) (fun _=>rfl) (withoutT (ofT b) p)),rfl,(by simp only [Lm]; omega),(by simp only [Lm]; omega)⟩;refine Yi b16 ?_;refine Yi (Nz rfl) ?_;have b17:AllLen 3 [[vs p,vb true,sl encSpan (union t.set u.set)]]∧((((withoutT (ofT a) p).map encTm)++((withoutT (ofT b) p).map encTm)):List (List AV)).length=(((withoutT (ofT a) p).map encTm).length+((withoutT (ofT b) p).map encTm).length)∧(((((withoutT (ofT a) p).map encTm)++((withoutT (ofT b) p).map encTm)):List (List AV)).length+([[vs p,vb true,sl encSpan (union t.set u.set)]]:List (List AV)).length)*48≤140737488355328∧((((withoutT (ofT a) p).map encTm)++((withoutT (ofT b) p).map encTm)):List (List AV)).length+([[vs p,vb true,sl encSpan (union t.set u.set)]]:List (List AV)).length≤9223372036854775807:=⟨⟨rfl,trivial⟩,(by simp),(by simp only [Lm,List.length_append,List.length_cons,List.length_nil]; omega),(by simp only [Lm,List.length_append,List.length_cons,List.length_nil]; omega)⟩;refine Yi b17 ?_;have eL:((((withoutT (ofT a) p).map encTm)++((withoutT (ofT b) p).map encTm))++[[vs p,vb true,sl encSpan (union t.set u.set)]])=(resL a b p t u).map encTm:=by
       have e1:encTm (eitherT t u)=[vs p,vb (t.absent||u.absent),sl encSpan (union t.set u.set)]:=by rw [← htp]; rfl
       have e2:(resL a b p t u).map encTm=(withoutT (ofT a) p).map encTm++(withoutT (ofT b) p).map encTm++[encTm (eitherT t u)]:=by unfold resL; rw [List.map_append,List.map_append]; rfl
       rw [e2,e1,show t.absent=false from h7,show u.absent=true from h15]; rfl
      refine Or.elim (Bt ((canonT (resL a b p t u)).isSome)) (fun h18=>?_) (fun h18=>?_)
      ·have h18:((canonT (resL a b p t u)).isSome)=true:=h18;have hc19:=(show PC 121 [.slice .none (((((withoutT (ofT a) p).map encTm)++((withoutT (ofT b) p).map encTm))++[[vs p,vb true,sl encSpan (union t.set u.set)]]))] (.tup [sl encTm (ofT (resL a b p t u)),vb (canonT (resL a b p t u)).isSome]) from by rw [eL]; exact c121 (resL a b p t u) hLf hLs);rw [show (canonT (resL a b p t u)).isSome=true from h18] at hc19;refine Xi _ (Yi hc19 ?_);refine Yi (by kernel_rfl) ?_;refine Xi ⟨[(9,vb true),(17,sl encTm (ofT (resL a b p t u)))],[],hfree⟩ (Yi ⟨Z2,Tv,Fh,Tv⟩ ?_)
       exact .of_eq (show AV.tup [sl encTm (ofT (resL a b p t u)),vi 0]=resR a b p by unfold resR; rw [(res_yes (split_hit h1 h5) (split_hit h3 h6)).trans (if_pos h18)])
      have h18:((canonT (resL a b p t u)).isSome)=false:=h18;have hc21:=(show PC 121 [.slice .none (((((withoutT (ofT a) p).map encTm)++((withoutT (ofT b) p).map encTm))++[[vs p,vb true,sl encSpan (union t.set u.set)]]))] (.tup [sl encTm (ofT (resL a b p t u)),vb (canonT (resL a b p t u)).isSome]) from by rw [eL]; exact c121 (resL a b p t u) hLf hLs);rw [show (canonT (resL a b p t u)).isSome=false from h18] at hc21;refine Xi _ (Yi hc21 ?_);refine Yi (by kernel_rfl) ?_;refine Xi ⟨[(9,vb false),(17,sl encTm (ofT (resL a b p t u)))],[],hfree⟩ (Yi ⟨Z2,Tv,Fh,Tv⟩ ?_)
      exact resR_no ((res_yes (split_hit h1 h5) (split_hit h3 h6)).trans (if_neg (by rw [h18]; decide)))
     have h15:u.absent=false:=h15;refine Xi _ (Yi (c123 [t.set,u.set] (by unfold Few; simp) hUf) ?_);refine Yi (Nz rfl) ?_;refine Yi (by kernel_rfl) ?_;refine Xi ⟨[(2,vs p),(8,sl encTm (ofT a)),(10,sl encTm (ofT b)),(16,.ref 16 0)],[(16,.cells [vs p,vb false,sl encSpan (union t.set u.set)])],hfree⟩ (Yi ⟨Z4,Z1,Fh,Tv⟩ ?_)
     refine Xi _ (Xi _ (Yi (by kernel_rfl) (Yi (c124t (ofT a) (by unfold Few; have:=ofT_len a; have:=ha.1; omega) p) ?_)));refine Xi _ (Yi (c124 (ofT b) (by unfold Few; have:=ofT_len b; have:=hb.1; omega) p) ?_);have b23:AllLen 3 ((withoutT (ofT b) p).map encTm)∧((withoutT (ofT a) p).map encTm).length=((withoutT (ofT a) p).map encTm).length∧(((withoutT (ofT a) p).map encTm).length+((withoutT (ofT b) p).map encTm).length)*48≤140737488355328∧((withoutT (ofT a) p).map encTm).length+((withoutT (ofT b) p).map encTm).length≤9223372036854775807:=⟨(allLen_map (enc:=encTm) (n:=3) (fun _=>rfl) (withoutT (ofT b) p)),rfl,(by simp only [Lm]; omega),(by simp only [Lm]; omega)⟩;refine Yi b23 ?_;refine Yi (Nz rfl) ?_;have b24:AllLen 3 [[vs p,vb false,sl encSpan (union t.set u.set)]]∧((((withoutT (ofT a) p).map encTm)++((withoutT (ofT b) p).map encTm)):List (List AV)).length=(((withoutT (ofT a) p).map encTm).length+((withoutT (ofT b) p).map encTm).length)∧(((((withoutT (ofT a) p).map encTm)++((withoutT (ofT b) p).map encTm)):List (List AV)).length+([[vs p,vb false,sl encSpan (union t.set u.set)]]:List (List AV)).length)*48≤140737488355328∧((((withoutT (ofT a) p).map encTm)++((withoutT (ofT b) p).map encTm)):List (List AV)).length+([[vs p,vb false,sl encSpan (union t.set u.set)]]:List (List AV)).length≤9223372036854775807:=⟨⟨rfl,trivial⟩,(by simp),(by simp only [Lm,List.length_append,List.length_cons,List.length_nil]; omega),(by simp only [Lm,List.length_append,List.length_cons,List.length_nil]; omega)⟩;refine Yi b24 ?_;have eL:((((withoutT (ofT a) p).map encTm)++((withoutT (ofT b) p).map encTm))++[[vs p,vb false,sl encSpan (union t.set u.set)]])=(resL a b p t u).map encTm:=by
      have e1:encTm (eitherT t u)=[vs p,vb (t.absent||u.absent),sl encSpan (union t.set u.set)]:=by rw [← htp]; rfl
      have e2:(resL a b p t u).map encTm=(withoutT (ofT a) p).map encTm++(withoutT (ofT b) p).map encTm++[encTm (eitherT t u)]:=by unfold resL; rw [List.map_append,List.map_append]; rfl
      rw [e2,e1,show t.absent=false from h7,show u.absent=false from h15]; rfl
     refine Or.elim (Bt ((canonT (resL a b p t u)).isSome)) (fun h25=>?_) (fun h25=>?_)
     ·have h25:((canonT (resL a b p t u)).isSome)=true:=h25;have hc26:=(show PC 121 [.slice .none (((((withoutT (ofT a) p).map encTm)++((withoutT (ofT b) p).map encTm))++[[vs p,vb false,sl encSpan (union t.set u.set)]]))] (.tup [sl encTm (ofT (resL a b p t u)),vb (canonT (resL a b p t u)).isSome]) from by rw [eL]; exact c121 (resL a b p t u) hLf hLs);rw [show (canonT (resL a b p t u)).isSome=true from h25] at hc26;refine Xi _ (Yi hc26 ?_);refine Yi (by kernel_rfl) ?_;refine Xi ⟨[(9,vb true),(17,sl encTm (ofT (resL a b p t u)))],[],hfree⟩ (Yi ⟨Z2,Tv,Fh,Tv⟩ ?_)
      exact .of_eq (show AV.tup [sl encTm (ofT (resL a b p t u)),vi 0]=resR a b p by unfold resR; rw [(res_yes (split_hit h1 h5) (split_hit h3 h6)).trans (if_pos h25)])
     have h25:((canonT (resL a b p t u)).isSome)=false:=h25;have hc28:=(show PC 121 [.slice .none (((((withoutT (ofT a) p).map encTm)++((withoutT (ofT b) p).map encTm))++[[vs p,vb false,sl encSpan (union t.set u.set)]]))] (.tup [sl encTm (ofT (resL a b p t u)),vb (canonT (resL a b p t u)).isSome]) from by rw [eL]; exact c121 (resL a b p t u) hLf hLs);rw [show (canonT (resL a b p t u)).isSome=false from h25] at hc28;refine Xi _ (Yi hc28 ?_);refine Yi (by kernel_rfl) ?_;refine Xi ⟨[(9,vb false),(17,sl encTm (ofT (resL a b p t u)))],[],hfree⟩ (Yi ⟨Z2,Tv,Fh,Tv⟩ ?_)
     exact resR_no ((res_yes (split_hit h1 h5) (split_hit h3 h6)).trans (if_neg (by rw [h25]; decide)))
    have hc6:=c122 (ofT b) (by unfold Few; have:=ofT_len b; have:=hb.1; omega) p;rw [h6] at hc6;refine Xi .pure (Xi _ (Yi hc6 ?_));refine Yi (Nz rfl) ?_;refine Xi ⟨[(2,vs p),(8,sl encTm (ofT a)),(9,vb true),(10,sl encTm (ofT b)),(11,vb true),(12,.ref 12 0),(13,vb true),(14,.ref 14 0),(15,vb false)],[(12,.cells (encTm t)),(14,.cells [vs ⟨#[]⟩,vb false,.v (.slice none 0 0)])],hfree⟩ (Yi ⟨Z9,Z2,Fh,Tv⟩ ?_)
    refine Xi ⟨[],[],hfree⟩ (Yi ⟨Tv,Tv,Fh,Tv⟩ ?_)
    exact resR_no (res_no2 (split_miss h6))
   have hc5:=c122 (ofT a) (by unfold Few; have:=ofT_len a; have:=ha.1; omega) p;rw [h5] at hc5;refine Xi .pure (Xi _ (Yi hc5 ?_));refine Yi (Nz rfl) ?_;refine Or.elim (opt_cases ((ofT b).find? (fun t=>decide (t.path=p)))) (fun h31=>?_) (fun h31=>?_)
   ·refine Exists.elim h31 (fun u h31=>?_);have hc31:=c122 (ofT b) (by unfold Few; have:=ofT_len b; have:=hb.1; omega) p;rw [h31] at hc31;refine Xi .pure (Xi _ (Yi hc31 ?_));refine Yi (Nz rfl) ?_;refine Xi ⟨[(2,vs p),(8,sl encTm (ofT a)),(9,vb true),(10,sl encTm (ofT b)),(11,vb true),(12,.ref 12 0),(13,vb false),(14,.ref 14 0),(15,vb true)],[(12,.cells [vs ⟨#[]⟩,vb false,.v (.slice none 0 0)]),(14,.cells (encTm u))],hfree⟩ (Yi ⟨Z9,Z2,Fh,Tv⟩ ?_)
    refine Xi ⟨[],[],hfree⟩ (Yi ⟨Tv,Tv,Fh,Tv⟩ ?_)
    exact resR_no (res_no1 (split_miss h5))
   have hc31:=c122 (ofT b) (by unfold Few; have:=ofT_len b; have:=hb.1; omega) p;rw [h31] at hc31;refine Xi .pure (Xi _ (Yi hc31 ?_));refine Yi (Nz rfl) ?_;refine Xi ⟨[(2,vs p),(8,sl encTm (ofT a)),(9,vb true),(10,sl encTm (ofT b)),(11,vb true),(12,.ref 12 0),(13,vb false),(14,.ref 14 0),(15,vb false)],[(12,.cells [vs ⟨#[]⟩,vb false,.v (.slice none 0 0)]),(14,.cells [vs ⟨#[]⟩,vb false,.v (.slice none 0 0)])],hfree⟩ (Yi ⟨Z9,Z2,Fh,Tv⟩ ?_)
   refine Xi ⟨[],[],hfree⟩ (Yi ⟨Tv,Tv,Fh,Tv⟩ ?_)
   exact resR_no (res_no1 (split_miss h5))
  have h3:((canonT b).isSome)=false:=h3;have hc34:=(show PC 121 [sl encTm b] (.tup [sl encTm (ofT b),vb (canonT b).isSome]) from c121 b (fewI_few hb) hb.2);rw [show (canonT b).isSome=false from h3] at hc34;refine Xi .pure (Xi _ (Yi hc34 ?_));refine Xi ⟨[(2,vs p),(8,sl encTm (ofT a)),(9,vb true),(10,sl encTm (ofT b)),(11,vb false)],[],hfree⟩ (Yi ⟨Z5,Tv,Fh,Tv⟩ ?_)
  refine Or.elim (opt_cases ((ofT a).find? (fun t=>decide (t.path=p)))) (fun h35=>?_) (fun h35=>?_)
  ·refine Exists.elim h35 (fun t h35=>?_);have hc35:=c122 (ofT a) (by unfold Few; have:=ofT_len a; have:=ha.1; omega) p;rw [h35] at hc35;refine Xi .pure (Xi _ (Yi hc35 ?_));refine Yi (Nz rfl) ?_;refine Or.elim (opt_cases ((ofT b).find? (fun t=>decide (t.path=p)))) (fun h36=>?_) (fun h36=>?_)
   ·refine Exists.elim h36 (fun u h36=>?_);have hc36:=c122 (ofT b) (by unfold Few; have:=ofT_len b; have:=hb.1; omega) p;rw [h36] at hc36;refine Xi .pure (Xi _ (Yi hc36 ?_));refine Yi (Nz rfl) ?_;refine Xi ⟨[(2,vs p),(8,sl encTm (ofT a)),(9,vb true),(10,sl encTm (ofT b)),(11,vb false),(12,.ref 12 0),(13,vb true),(14,.ref 14 0),(15,vb true)],[(12,.cells (encTm t)),(14,.cells (encTm u))],hfree⟩ (Yi ⟨Z9,Z2,Fh,Tv⟩ ?_)
    refine Xi ⟨[],[],hfree⟩ (Yi ⟨Tv,Tv,Fh,Tv⟩ ?_)
    exact resR_no (res_no2 (split_no h3))
   have hc36:=c122 (ofT b) (by unfold Few; have:=ofT_len b; have:=hb.1; omega) p;rw [h36] at hc36;refine Xi .pure (Xi _ (Yi hc36 ?_));refine Yi (Nz rfl) ?_;refine Xi ⟨[(2,vs p),(8,sl encTm (ofT a)),(9,vb true),(10,sl encTm (ofT b)),(11,vb false),(12,.ref 12 0),(13,vb true),(14,.ref 14 0),(15,vb false)],[(12,.cells (encTm t)),(14,.cells [vs ⟨#[]⟩,vb false,.v (.slice none 0 0)])],hfree⟩ (Yi ⟨Z9,Z2,Fh,Tv⟩ ?_)
   refine Xi ⟨[],[],hfree⟩ (Yi ⟨Tv,Tv,Fh,Tv⟩ ?_)
   exact resR_no (res_no2 (split_no h3))
  have hc35:=c122 (ofT a) (by unfold Few; have:=ofT_len a; have:=ha.1; omega) p;rw [h35] at hc35;refine Xi .pure (Xi _ (Yi hc35 ?_));refine Yi (Nz rfl) ?_;refine Or.elim (opt_cases ((ofT b).find? (fun t=>decide (t.path=p)))) (fun h39=>?_) (fun h39=>?_)
  ·refine Exists.elim h39 (fun u h39=>?_);have hc39:=c122 (ofT b) (by unfold Few; have:=ofT_len b; have:=hb.1; omega) p;rw [h39] at hc39;refine Xi .pure (Xi _ (Yi hc39 ?_));refine Yi (Nz rfl) ?_;refine Xi ⟨[(2,vs p),(8,sl encTm (ofT a)),(9,vb true),(10,sl encTm (ofT b)),(11,vb false),(12,.ref 12 0),(13,vb false),(14,.ref 14 0),(15,vb true)],[(12,.cells [vs ⟨#[]⟩,vb false,.v (.slice none 0 0)]),(14,.cells (encTm u))],hfree⟩ (Yi ⟨Z9,Z2,Fh,Tv⟩ ?_)
   refine Xi ⟨[],[],hfree⟩ (Yi ⟨Tv,Tv,Fh,Tv⟩ ?_)
   exact resR_no (res_no1 (split_miss h35))
  have hc39:=c122 (ofT b) (by unfold Few; have:=ofT_len b; have:=hb.1; omega) p;rw [h39] at hc39;refine Xi .pure (Xi _ (Yi hc39 ?_));refine Yi (Nz rfl) ?_;refine Xi ⟨[(2,vs p),(8,sl encTm (ofT a)),(9,vb true),(10,sl encTm (ofT b)),(11,vb false),(12,.ref 12 0),(13,vb false),(14,.ref 14 0),(15,vb false)],[(12,.cells [vs ⟨#[]⟩,vb false,.v (.slice none 0 0)]),(14,.cells [vs ⟨#[]⟩,vb false,.v (.slice none 0 0)])],hfree⟩ (Yi ⟨Z9,Z2,Fh,Tv⟩ ?_)
  refine Xi ⟨[],[],hfree⟩ (Yi ⟨Tv,Tv,Fh,Tv⟩ ?_)
  exact resR_no (res_no1 (split_miss h35))
 have h1:((canonT a).isSome)=false:=h1;have hc42:=(show PC 121 [sl encTm a] (.tup [sl encTm (ofT a),vb (canonT a).isSome]) from c121 a (fewI_few ha) ha.2);rw [show (canonT a).isSome=false from h1] at hc42;refine Xi .pure (Xi _ (Yi hc42 ?_));refine Or.elim (Bt ((canonT b).isSome)) (fun h43=>?_) (fun h43=>?_)
 ·have h43:((canonT b).isSome)=true:=h43;have hc44:=(show PC 121 [sl encTm b] (.tup [sl encTm (ofT b),vb (canonT b).isSome]) from c121 b (fewI_few hb) hb.2);rw [show (canonT b).isSome=true from h43] at hc44;refine Xi .pure (Xi _ (Yi hc44 ?_));refine Xi ⟨[(2,vs p),(8,sl encTm (ofT a)),(9,vb false),(10,sl encTm (ofT b)),(11,vb true)],[],hfree⟩ (Yi ⟨Z5,Tv,Fh,Tv⟩ ?_)
  refine Or.elim (opt_cases ((ofT a).find? (fun t=>decide (t.path=p)))) (fun h45=>?_) (fun h45=>?_)
  ·refine Exists.elim h45 (fun t h45=>?_);have hc45:=c122 (ofT a) (by unfold Few; have:=ofT_len a; have:=ha.1; omega) p;rw [h45] at hc45;refine Xi .pure (Xi _ (Yi hc45 ?_));refine Yi (Nz rfl) ?_;refine Or.elim (opt_cases ((ofT b).find? (fun t=>decide (t.path=p)))) (fun h46=>?_) (fun h46=>?_)
   ·refine Exists.elim h46 (fun u h46=>?_);have hc46:=c122 (ofT b) (by unfold Few; have:=ofT_len b; have:=hb.1; omega) p;rw [h46] at hc46;refine Xi .pure (Xi _ (Yi hc46 ?_));refine Yi (Nz rfl) ?_;refine Xi ⟨[(2,vs p),(8,sl encTm (ofT a)),(9,vb false),(10,sl encTm (ofT b)),(11,vb true),(12,.ref 12 0),(13,vb true),(14,.ref 14 0),(15,vb true)],[(12,.cells (encTm t)),(14,.cells (encTm u))],hfree⟩ (Yi ⟨Z9,Z2,Fh,Tv⟩ ?_)
    refine Xi ⟨[],[],hfree⟩ (Yi ⟨Tv,Tv,Fh,Tv⟩ ?_)
    exact resR_no (res_no1 (split_no h1))
   have hc46:=c122 (ofT b) (by unfold Few; have:=ofT_len b; have:=hb.1; omega) p;rw [h46] at hc46;refine Xi .pure (Xi _ (Yi hc46 ?_));refine Yi (Nz rfl) ?_;refine Xi ⟨[(2,vs p),(8,sl encTm (ofT a)),(9,vb false),(10,sl encTm (ofT b)),(11,vb true),(12,.ref 12 0),(13,vb true),(14,.ref 14 0),(15,vb false)],[(12,.cells (encTm t)),(14,.cells [vs ⟨#[]⟩,vb false,.v (.slice none 0 0)])],hfree⟩ (Yi ⟨Z9,Z2,Fh,Tv⟩ ?_)
   refine Xi ⟨[],[],hfree⟩ (Yi ⟨Tv,Tv,Fh,Tv⟩ ?_)
   exact resR_no (res_no1 (split_no h1))
  have hc45:=c122 (ofT a) (by unfold Few; have:=ofT_len a; have:=ha.1; omega) p;rw [h45] at hc45;refine Xi .pure (Xi _ (Yi hc45 ?_));refine Yi (Nz rfl) ?_;refine Or.elim (opt_cases ((ofT b).find? (fun t=>decide (t.path=p)))) (fun h49=>?_) (fun h49=>?_)
  ·refine Exists.elim h49 (fun u h49=>?_);have hc49:=c122 (ofT b) (by unfold Few; have:=ofT_len b; have:=hb.1; omega) p;rw [h49] at hc49;refine Xi .pure (Xi _ (Yi hc49 ?_));refine Yi (Nz rfl) ?_;refine Xi ⟨[(2,vs p),(8,sl encTm (ofT a)),(9,vb false),(10,sl encTm (ofT b)),(11,vb true),(12,.ref 12 0),(13,vb false),(14,.ref 14 0),(15,vb true)],[(12,.cells [vs ⟨#[]⟩,vb false,.v (.slice none 0 0)]),(14,.cells (encTm u))],hfree⟩ (Yi ⟨Z9,Z2,Fh,Tv⟩ ?_)
   refine Xi ⟨[],[],hfree⟩ (Yi ⟨Tv,Tv,Fh,Tv⟩ ?_)
   exact resR_no (res_no1 (split_no h1))
  have hc49:=c122 (ofT b) (by unfold Few; have:=ofT_len b; have:=hb.1; omega) p;rw [h49] at hc49;refine Xi .pure (Xi _ (Yi hc49 ?_));refine Yi (Nz rfl) ?_;refine Xi ⟨[(2,vs p),(8,sl encTm (ofT a)),(9,vb false),(10,sl encTm (ofT b)),(11,vb true),(12,.ref 12 0),(13,vb false),(14,.ref 14 0),(15,vb false)],[(12,.cells [vs ⟨#[]⟩,vb false,.v (.slice none 0 0)]),(14,.cells [vs ⟨#[]⟩,vb false,.v (.slice none 0 0)])],hfree⟩ (Yi ⟨Z9,Z2,Fh,Tv⟩ ?_)
  refine Xi ⟨[],[],hfree⟩ (Yi ⟨Tv,Tv,Fh,Tv⟩ ?_)
  exact resR_no (res_no1 (split_no h1))
 have h43:((canonT b).isSome)=false:=h43;have hc52:=(show PC 121 [sl encTm b] (.tup [sl encTm (ofT b),vb (canonT b).isSome]) from c121 b (fewI_few hb) hb.2);rw [show (canonT b).isSome=false from h43] at hc52;refine Xi .pure (Xi _ (Yi hc52 ?_));refine Xi ⟨[(2,vs p),(8,sl encTm (ofT a)),(9,vb false),(10,sl encTm (ofT b)),(11,vb false)],[],hfree⟩ (Yi ⟨Z5,Tv,Fh,Tv⟩ ?_)
 refine Or.elim (opt_cases ((ofT a).find? (fun t=>decide (t.path=p)))) (fun h53=>?_) (fun h53=>?_)
 ·refine Exists.elim h53 (fun t h53=>?_);have hc53:=c122 (ofT a) (by unfold Few; have:=ofT_len a; have:=ha.1; omega) p;rw [h53] at hc53;refine Xi .pure (Xi _ (Yi hc53 ?_));refine Yi (Nz rfl) ?_;refine Or.elim (opt_cases ((ofT b).find? (fun t=>decide (t.path=p)))) (fun h54=>?_) (fun h54=>?_)
  ·refine Exists.elim h54 (fun u h54=>?_);have hc54:=c122 (ofT b) (by unfold Few; have:=ofT_len b; have:=hb.1; omega) p;rw [h54] at hc54;refine Xi .pure (Xi _ (Yi hc54 ?_));refine Yi (Nz rfl) ?_;refine Xi ⟨[(2,vs p),(8,sl encTm (ofT a)),(9,vb false),(10,sl encTm (ofT b)),(11,vb false),(12,.ref 12 0),(13,vb true),(14,.ref 14 0),(15,vb true)],[(12,.cells (encTm t)),(14,.cells (encTm u))],hfree⟩ (Yi ⟨Z9,Z2,Fh,Tv⟩ ?_)
   refine Xi ⟨[],[],hfree⟩ (Yi ⟨Tv,Tv,Fh,Tv⟩ ?_)
   exact resR_no (res_no1 (split_no h1))
  have hc54:=c122 (ofT b) (by unfold Few; have:=ofT_len b; have:=hb.1; omega) p;rw [h54] at hc54;refine Xi .pure (Xi _ (Yi hc54 ?_));refine Yi (Nz rfl) ?_;refine Xi ⟨[(2,vs p),(8,sl encTm (ofT a)),(9,vb false),(10,sl encTm (ofT b)),(11,vb false),(12,.ref 12 0),(13,vb true),(14,.ref 14 0),(15,vb false)],[(12,.cells (encTm t)),(14,.cells [vs ⟨#[]⟩,vb false,.v (.slice none 0 0)])],hfree⟩ (Yi ⟨Z9,Z2,Fh,Tv⟩ ?_)
  refine Xi ⟨[],[],hfree⟩ (Yi ⟨Tv,Tv,Fh,Tv⟩ ?_)
  exact resR_no (res_no1 (split_no h1))
 have hc53:=c122 (ofT a) (by unfold Few; have:=ofT_len a; have:=ha.1; omega) p;rw [h53] at hc53;refine Xi .pure (Xi _ (Yi hc53 ?_));refine Yi (Nz rfl) ?_;refine Or.elim (opt_cases ((ofT b).find? (fun t=>decide (t.path=p)))) (fun h57=>?_) (fun h57=>?_)
 ·refine Exists.elim h57 (fun u h57=>?_);have hc57:=c122 (ofT b) (by unfold Few; have:=ofT_len b; have:=hb.1; omega) p;rw [h57] at hc57;refine Xi .pure (Xi _ (Yi hc57 ?_));refine Yi (Nz rfl) ?_;refine Xi ⟨[(2,vs p),(8,sl encTm (ofT a)),(9,vb false),(10,sl encTm (ofT b)),(11,vb false),(12,.ref 12 0),(13,vb false),(14,.ref 14 0),(15,vb true)],[(12,.cells [vs ⟨#[]⟩,vb false,.v (.slice none 0 0)]),(14,.cells (encTm u))],hfree⟩ (Yi ⟨Z9,Z2,Fh,Tv⟩ ?_)
  refine Xi ⟨[],[],hfree⟩ (Yi ⟨Tv,Tv,Fh,Tv⟩ ?_)
  exact resR_no (res_no1 (split_no h1))
 have hc57:=c122 (ofT b) (by unfold Few; have:=ofT_len b; have:=hb.1; omega) p;rw [h57] at hc57;refine Xi .pure (Xi _ (Yi hc57 ?_));refine Yi (Nz rfl) ?_;refine Xi ⟨[(2,vs p),(8,sl encTm (ofT a)),(9,vb false),(10,sl encTm (ofT b)),(11,vb false),(12,.ref 12 0),(13,vb false),(14,.ref 14 0),(15,vb false)],[(12,.cells [vs ⟨#[]⟩,vb false,.v (.slice none 0 0)]),(14,.cells [vs ⟨#[]⟩,vb false,.v (.slice none 0 0)])],hfree⟩ (Yi ⟨Z9,Z2,Fh,Tv⟩ ?_)
 refine Xi ⟨[],[],hfree⟩ (Yi ⟨Tv,Tv,Fh,Tv⟩ ?_)
 exact resR_no (res_no1 (split_no h1))
end Go.Eng

namespace Go.Eng
open Go.Proofs
theorem reqT_eq {p:ByteArray} {n:Int} (q:Rq) (h:0≤n∧n<1000000):ofT [⟨p,false,atPl n⟩,⟨q.path,true,compl q.set⟩]=requiresT p n q:=by
 unfold requiresT outside;refine ofT_head (canT1_congr fun k=>?_);unfold atPl;rw [if_neg (by omega)];exact has_one n k h
theorem rel_ok {x:List Rl} {p:ByteArray} {n:Int} {r:Rl} (h:releaseP x p n=some r):r ∈ x∧plc r.ver=n:=by
 have h1:=List.find?_some h;simp only [Bool.and_eq_true,decide_eq_true_eq] at h1;exact ⟨List.mem_of_find?_eq_some h,h1.2⟩
abbrev infR (x:List Rl) (roots:List Rq) (d:List (List Tm)) (i:Nf):AV:=.tup [sl encTm (inferL x roots d i),vb (inferP x roots d i).isSome]
section
variable {x:List Rl} {roots:List Rq} {d:List (List Tm)} {i:Nf}
theorem infR_no (h:inferP x roots d i=none) (h2:i.kind≠2):Sub (.tup [.v (.slice none 0 0),vb false]) (infR x roots d i) :=
 (show Sub (.tup [.v (.slice none 0 0),vb false]) (.tup [.slice .none [],vb false]) from Sub.tup ⟨.nil,.refl _,trivial⟩).trans (.of_eq (show AV.tup [.slice .none [],vb false]=infR x roots d i by unfold infR; rw [inf_none h h2,h]; rfl))
theorem infR_no3 {t:List Tm} (h:inferP x roots d i=none) (h2:i.kind≠2) (ht:t=[]):Sub (.tup [sl encTm t,vb false]) (infR x roots d i) :=
 .of_eq (show AV.tup [sl encTm t,vb false]=infR x roots d i by unfold infR; rw [inf_none h h2,h,ht]; rfl)
theorem infR_yes {t:List Tm} (h:inferP x roots d i=some t) (h2:i.kind≠2):Sub (.tup [sl encTm t,vb true]) (infR x roots d i) :=
 .of_eq (show AV.tup [sl encTm t,vb true]=infR x roots d i by unfold infR; rw [inf_some h h2,h]; rfl)
theorem infR_2 {b:Bool} (h2:i.kind=2) (hb:b=false) (h:inferP x roots d i=none):Sub (.tup [sl encTm (noneT i.path (availP x i.path)),vb b]) (infR x roots d i) :=
 .of_eq (show AV.tup [sl encTm (noneT i.path (availP x i.path)),vb b]=infR x roots d i by unfold infR inferL; rw [if_pos h2,h,hb]; rfl)
theorem infR_2y (h2:i.kind=2) (h:inferP x roots d i=some (noneT i.path (availP x i.path))):Sub (.tup [sl encTm (noneT i.path (availP x i.path)),vb true]) (infR x roots d i) :=
 .of_eq (show AV.tup [sl encTm (noneT i.path (availP x i.path)),vb true]=infR x roots d i by unfold infR inferL; rw [if_pos h2,h]; rfl)
end
set_option maxHeartbeats 4000000 in
theorem c38 (x:List Rl) (ifs:List (List AV)) (roots:List Rq) (d:List (List Tm)) (i:Nf) (h0:checkIx x=0) (hx:∀ r ∈ x,FewR r) (hrf:∀ q ∈ roots,Few q.set) (hdF:∀ t ∈ d,FewI t):PC 38 [.agg (Ic x ifs),sl encRq roots,.agg (encNf i),sl encInc d] (infR x roots d i):=by
 have hxf:Few x:=by have:=(ix_few h0).1; unfold Few; omega
 have hv:∀ r ∈ x,validB r.ver=true:=fun r hr=>((checkIx_ok h0).1 r hr).val;have hxq:∀ r ∈ x,∀ q ∈ r.reqs,Few q.set:=fun r hr q hq=>((hx r hr).2 q hq).1;refine Ps ⟨[],[],[],[],[],[],[],[],[],[],[3,6,7,10,11,12,13,14,17,20,22,23,24,25]⟩ Tryz.func38 rfl (Nz rfl) ?_;refine Yi (Nz rfl) ?_;refine Xi ⟨[(1,sl encRq roots),(3,sl encInc d),(4,.ref 4 0),(6,.ref 6 0),(10,.ref 10 0),(21,vi i.kind)],[(4,.cells (Ic x ifs)),(6,.cells (encNf i)),(10,.cells [vi i.kind,vs ⟨#[]⟩,vi 0,vi 0,vi 0,vi 0])],hfree⟩ (Yi ⟨Z6,Z3,Fh,Tv⟩ ?_)
 refine Yi (fun h1=>?_) (fun h1=>?_)
 ·have h1:(i.kind:Int)=(0:Int):=h1;refine Yi (Nz rfl) ?_;refine Yi (Nz rfl) ?_;refine Yi (Nz rfl) ?_;refine Yi (fun h2=>?_) (fun h2=>?_)
  ·have h2:(i.kind:Int)=i.kind∧(i.path:ByteArray)=⟨#[]⟩∧(i.place:Int)=0∧(i.number:Int)=i.number∧(i.left:Int)=0∧(i.right:Int)=0∧True:=h2;refine Yi (fun h3=>?_) (fun h3=>?_)
   ·have h3:(i.number:Int)<(0:Int):=h3;refine Xi ⟨[],[],hfree⟩ (Yi ⟨Tv,Tv,Fh,Tv⟩ ?_)
    exact infR_no (show inferP x roots d i=none by rw [inf0 h1,if_pos ⟨h2.2.1,h2.2.2.1,h2.2.2.2.2.1,h2.2.2.2.2.2.1⟩]; rw [nthZ_lo h3]; rfl) (by omega)
   have h3:¬ ((i.number:Int)<(0:Int)):=h3;refine Yi (fun h5=>?_) (fun h5=>?_)
   ·have h5:((roots.map encRq).length:Int)≤(i.number:Int):=h5;refine Xi ⟨[],[],hfree⟩ (Yi ⟨Tv,Tv,Fh,Tv⟩ ?_)
    exact infR_no (show inferP x roots d i=none by rw [inf0 h1,if_pos ⟨h2.2.1,h2.2.2.1,h2.2.2.2.2.1,h2.2.2.2.2.2.1⟩]; rw [nthZ_hi (by simpa using h5)]; rfl) (by omega)
   have h5:¬ (((roots.map encRq).length:Int)≤(i.number:Int)):=h5;have hnq:¬ ((roots.length:Nat):Int)≤i.number:=by simpa using h5
   refine Exists.elim (nthZ_in h3 hnq) (fun q hqx=>?_);have hq:=hqx.1;have hqg:=hqx.2.1;have hqm:=hqx.2.2;refine Xi ⟨[(1,sl encRq roots),(6,.ref 6 0)],[(6,.cells (encNf i))],hfree⟩ (Yi ⟨Z2,Z1,Fh,Tv⟩ ?_)
   refine Xi (encRq q) (Yi (Yi (show (0:Int)≤i.number by omega) (map_at hqg)) (Yi rfl ?_));refine Yi (Nz rfl) ?_;refine Xi .pure (Xi _ (Yi (c69 c121 q (hrf q hqm)) ?_));exact infR_yes (show inferP x roots d i=some (rootT q) by rw [inf0 h1,if_pos ⟨h2.2.1,h2.2.2.1,h2.2.2.2.2.1,h2.2.2.2.2.2.1⟩]; rw [hq]; rfl) (by omega)
  have h2:¬ ((i.kind:Int)=i.kind∧(i.path:ByteArray)=⟨#[]⟩∧(i.place:Int)=0∧(i.number:Int)=i.number∧(i.left:Int)=0∧(i.right:Int)=0∧True):=h2;refine Xi ⟨[],[],hfree⟩ (Yi ⟨Tv,Tv,Fh,Tv⟩ ?_)
  exact infR_no (show inferP x roots d i=none by rw [inf0 h1]; exact if_neg (fun hq=>h2 ⟨rfl,hq.1,hq.2.1,rfl,hq.2.2.1,hq.2.2.2,trivial⟩)) (by omega)
 have h1:¬ ((i.kind:Int)=(0:Int)):=h1;refine Yi (fun h9=>?_) (fun h9=>?_)
 ·have h9:(i.kind:Int)=(1:Int):=h9;refine Yi (Nz rfl) ?_;refine Yi (Nz rfl) ?_;refine Yi (Nz rfl) ?_;refine Yi (by kernel_rfl) ?_;refine Xi ⟨[(4,.ref 4 0),(6,.ref 6 0),(10,.ref 10 0)],[(4,.cells (Ic x ifs)),(6,.cells (encNf i)),(10,.cells [vi i.kind,vs i.path,vi i.place,vi i.number,vi 0,vi 0])],hfree⟩ (Yi ⟨Z3,Z3,Fh,Tv⟩ ?_)
  refine Yi (Nz rfl) ?_;refine Or.elim (opt_cases (releaseP x i.path i.place)) (fun h10=>?_) (fun h10=>?_)
  ·refine Exists.elim h10 (fun r h10=>?_);have hc10:=c70 x ifs i.path i.place hxf hv;rw [h10] at hc10;refine Xi .pure (Xi _ (Yi hc10 ?_));refine Yi (Nz rfl) ?_;refine Xi ⟨[(6,.ref 6 0),(10,.ref 10 0),(11,.ref 11 0),(12,vb true)],[(6,.cells (encNf i)),(10,.cells [vi i.kind,vs i.path,vi i.place,vi i.number,vi 0,vi 0]),(11,.cells (encRl r))],hfree⟩ (Yi ⟨Z4,Z3,Fh,Tv⟩ ?_)
   refine Yi (Nz rfl) ?_;refine Yi (Nz rfl) ?_;refine Yi (fun h11=>?_) (fun h11=>?_)
   ·have h11:(i.kind:Int)=i.kind∧(i.path:ByteArray)=i.path∧(i.place:Int)=i.place∧(i.number:Int)=i.number∧(i.left:Int)=0∧(i.right:Int)=0∧True:=h11;refine Yi (fun h12=>?_) (fun h12=>?_)
    ·have h12:(i.number:Int)<(0:Int):=h12;refine Xi ⟨[],[],hfree⟩ (Yi ⟨Tv,Tv,Fh,Tv⟩ ?_)
     exact infR_no (show inferP x roots d i=none by rw [inf1 h9,if_pos ⟨h11.2.2.2.2.1,h11.2.2.2.2.2.1⟩]; rw [h10]; show (match nthZ r.reqs i.number with | none=>none | some q=>_)=none; rw [nthZ_lo h12]) (by omega)
    have h12:¬ ((i.number:Int)<(0:Int)):=h12;refine Yi (fun h14=>?_) (fun h14=>?_)
    ·have h14:((r.reqs.map encRq).length:Int)≤(i.number:Int):=h14;refine Xi ⟨[],[],hfree⟩ (Yi ⟨Tv,Tv,Fh,Tv⟩ ?_)
     exact infR_no (show inferP x roots d i=none by rw [inf1 h9,if_pos ⟨h11.2.2.2.2.1,h11.2.2.2.2.2.1⟩]; rw [h10]; show (match nthZ r.reqs i.number with | none=>none | some q=>_)=none; rw [nthZ_hi (by simpa using h14)]) (by omega)
    have h14:¬ (((r.reqs.map encRq).length:Int)≤(i.number:Int)):=h14;have hnq:¬ ((r.reqs.length:Nat):Int)≤i.number:=by simpa using h14
    refine Exists.elim (nthZ_in h12 hnq) (fun q hqx=>?_);have hq:=hqx.1;have hqg:=hqx.2.1;have hqm:=hqx.2.2;have hro:=rel_ok h10;have hpr:=plc_rng r.ver;rw [hro.2] at hpr;have hqF:Few q.set:=(hxq r hro.1 q hqm);have hc71:PC 71 [vs i.path,vi i.place,.agg (encRq q)] (sl encTm (requiresT i.path i.place q)):=by
     rw [← reqT_eq q hpr];exact c71 c121 i.path i.place (by omega) q hqF
    refine Xi ⟨[(6,.ref 6 0),(11,.ref 11 0)],[(6,.cells (encNf i)),(11,.cells (encRl r))],hfree⟩ (Yi ⟨Z2,Z2,Fh,Tv⟩ ?_)
    refine Xi (encRq q) (Yi (Yi (show (0:Int)≤i.number by omega) (map_at hqg)) (Yi rfl ?_));refine Yi (Nz rfl) ?_;refine Xi _ (Yi hc71 ?_);refine Yi (by kernel_rfl) ?_;refine Xi ⟨[(13,sl encTm (requiresT i.path i.place q))],[],hfree⟩ (Yi ⟨Z1,Tv,Fh,Tv⟩ ?_)
    refine Yi (fun h16=>?_) (fun h16=>?_)
    ·have h16:(0:Int)<(((requiresT i.path i.place q).map encTm).length:Int):=h16;have n16:0<(requiresT i.path i.place q).length:=by simpa using h16
     have g16:(requiresT i.path i.place q)[0]?=some (requiresT i.path i.place q)[0]:=Ge n16;exact infR_yes (show inferP x roots d i=some (requiresT i.path i.place q) by rw [inf1 h9,if_pos ⟨h11.2.2.2.2.1,h11.2.2.2.2.2.1⟩]; rw [h10]; show (match nthZ r.reqs i.number with | none=>none | some q=>ne0 (requiresT i.path i.place q))=_; rw [hq]; exact ne0_ne (fun e0=>by rw [e0] at h16; exact absurd h16 (by decide))) (by omega)
    have h16:¬ ((0:Int)<(((requiresT i.path i.place q).map encTm).length:Int)):=h16;have n16:¬ 0<(requiresT i.path i.place q).length:=by simpa using h16
    have e0:requiresT i.path i.place q=[]:=List.eq_nil_of_length_eq_zero (by rw [Lm] at h16; omega);have e1:inferP x roots d i=none:=by rw [inf1 h9,if_pos ⟨h11.2.2.2.2.1,h11.2.2.2.2.2.1⟩]; rw [h10]; show (match nthZ r.reqs i.number with | none=>none | some q=>ne0 (requiresT i.path i.place q))=_; rw [hq]; show ne0 (requiresT i.path i.place q)=none; rw [e0]; rfl
    exact infR_no3 e1 (by omega) e0
   have h11:¬ ((i.kind:Int)=i.kind∧(i.path:ByteArray)=i.path∧(i.place:Int)=i.place∧(i.number:Int)=i.number∧(i.left:Int)=0∧(i.right:Int)=0∧True):=h11;refine Xi ⟨[],[],hfree⟩ (Yi ⟨Tv,Tv,Fh,Tv⟩ ?_)
   exact infR_no (show inferP x roots d i=none by rw [inf1 h9]; exact if_neg (fun hq=>h11 ⟨rfl,rfl,rfl,rfl,hq.1,hq.2,trivial⟩)) (by omega)
  have hc10:=c70 x ifs i.path i.place hxf hv;rw [h10] at hc10;refine Xi .pure (Xi _ (Yi hc10 ?_));refine Yi (Nz rfl) ?_;refine Xi ⟨[(6,.ref 6 0),(10,.ref 10 0),(11,.ref 11 0),(12,vb false)],[(6,.cells (encNf i)),(10,.cells [vi i.kind,vs i.path,vi i.place,vi i.number,vi 0,vi 0]),(11,.cells [vs ⟨#[]⟩,vi 0,vi 0,vi 0,.v (.slice none 0 0),vs ⟨#[]⟩,vs ⟨#[]⟩,vs ⟨#[]⟩,vb false])],hfree⟩ (Yi ⟨Z4,Z3,Fh,Tv⟩ ?_)
  refine Yi (Nz rfl) ?_;refine Yi (Nz rfl) ?_;refine Yi (fun h20=>?_) (fun h20=>?_)
  ·have h20:(i.kind:Int)=i.kind∧(i.path:ByteArray)=i.path∧(i.place:Int)=i.place∧(i.number:Int)=i.number∧(i.left:Int)=0∧(i.right:Int)=0∧True:=h20;refine Xi ⟨[],[],hfree⟩ (Yi ⟨Tv,Tv,Fh,Tv⟩ ?_)
   exact infR_no (show inferP x roots d i=none by rw [inf1 h9,if_pos ⟨h20.2.2.2.2.1,h20.2.2.2.2.2.1⟩]; rw [h10]) (by omega)
  have h20:¬ ((i.kind:Int)=i.kind∧(i.path:ByteArray)=i.path∧(i.place:Int)=i.place∧(i.number:Int)=i.number∧(i.left:Int)=0∧(i.right:Int)=0∧True):=h20;refine Xi ⟨[],[],hfree⟩ (Yi ⟨Tv,Tv,Fh,Tv⟩ ?_)
  exact infR_no (show inferP x roots d i=none by rw [inf1 h9]; exact if_neg (fun hq=>h20 ⟨rfl,rfl,rfl,rfl,hq.1,hq.2,trivial⟩)) (by omega)
 have h9:¬ ((i.kind:Int)=(1:Int)):=h9;refine Yi (fun h23=>?_) (fun h23=>?_)
 ·have h23:(i.kind:Int)=(2:Int):=h23;refine Yi (Nz rfl) ?_;refine Xi ⟨[(4,.ref 4 0),(6,.ref 6 0),(10,.ref 10 0)],[(4,.cells (Ic x ifs)),(6,.cells (encNf i)),(10,.cells [vi i.kind,vs i.path,vi 0,vi 0,vi 0,vi 0])],hfree⟩ (Yi ⟨Z3,Z3,Fh,Tv⟩ ?_)
  refine Yi (Nz rfl) ?_;refine Xi _ (Yi (c73 x ifs i.path hx) ?_);refine Xi _ (Yi (c72 c121 i.path (availP x i.path) (canon_fw _)) ?_);refine Yi (Nz rfl) ?_;refine Yi (Nz rfl) ?_;refine Yi (fun h24=>?_) (fun h24=>?_)
  ·have h24:(i.kind:Int)=i.kind∧(i.path:ByteArray)=i.path∧(i.place:Int)=0∧(i.number:Int)=0∧(i.left:Int)=0∧(i.right:Int)=0∧True:=h24;refine Yi (by kernel_rfl) ?_;exact infR_2y h23 (show inferP x roots d i=some (noneT i.path (availP x i.path)) by rw [inf2 h23,if_pos ⟨h24.2.2.1,h24.2.2.2.1,h24.2.2.2.2.1,h24.2.2.2.2.2.1⟩]; exact ne0_ne (none_ne x i.path i.path (fun h=>(ix_few h).1)))
  have h24:¬ ((i.kind:Int)=i.kind∧(i.path:ByteArray)=i.path∧(i.place:Int)=0∧(i.number:Int)=0∧(i.left:Int)=0∧(i.right:Int)=0∧True):=h24;refine Yi (by kernel_rfl) ?_;exact infR_2 h23 (by decide) (show inferP x roots d i=none by rw [inf2 h23]; exact if_neg (fun hq=>h24 ⟨rfl,rfl,hq.1,hq.2.1,hq.2.2.1,hq.2.2.2,trivial⟩))
 have h23:¬ ((i.kind:Int)=(2:Int)):=h23;refine Yi (fun h27=>?_) (fun h27=>?_)
 ·have h27:(i.kind:Int)=(3:Int):=h27;refine Yi (Nz rfl) ?_;refine Yi (Nz rfl) ?_;refine Yi (Nz rfl) ?_;refine Yi (by kernel_rfl) ?_;refine Xi ⟨[(3,sl encInc d),(6,.ref 6 0),(10,.ref 10 0)],[(6,.cells (encNf i)),(10,.cells [vi i.kind,vs i.path,vi 0,vi 0,vi i.left,vi i.right])],hfree⟩ (Yi ⟨Z3,Z2,Fh,Tv⟩ ?_)
  refine Yi (Nz rfl) ?_;refine Yi (Nz rfl) ?_;refine Yi (fun h28=>?_) (fun h28=>?_)
  ·have h28:(i.kind:Int)=i.kind∧(i.path:ByteArray)=i.path∧(i.place:Int)=0∧(i.number:Int)=0∧(i.left:Int)=i.left∧(i.right:Int)=i.right∧True:=h28;refine Yi (fun h29=>?_) (fun h29=>?_)
   ·have h29:(i.left:Int)<(0:Int):=h29;refine Xi ⟨[],[],hfree⟩ (Yi ⟨Tv,Tv,Fh,Tv⟩ ?_)
    exact infR_no (show inferP x roots d i=none by rw [inf3 h27,if_pos ⟨h28.2.2.1,h28.2.2.2.1⟩]; rw [nthZ_lo (l:=d) h29]) (by omega)
   have h29:¬ ((i.left:Int)<(0:Int)):=h29;refine Yi (fun h31=>?_) (fun h31=>?_)
   ·have h31:((d.map encInc).length:Int)≤(i.left:Int):=h31;refine Xi ⟨[],[],hfree⟩ (Yi ⟨Tv,Tv,Fh,Tv⟩ ?_)
    exact infR_no (show inferP x roots d i=none by rw [inf3 h27,if_pos ⟨h28.2.2.1,h28.2.2.2.1⟩]; rw [nthZ_hi (l:=d) (n:=i.left) (by simpa using h31)]) (by omega)
   have h31:¬ (((d.map encInc).length:Int)≤(i.left:Int)):=h31;have hnta:¬ ((d.length:Nat):Int)≤i.left:=by simpa using h31
   refine Exists.elim (nthZ_in h29 hnta) (fun ta htax=>?_);have hta:=htax.1;have htag:=htax.2.1;have htam:=htax.2.2;refine Yi (fun h33=>?_) (fun h33=>?_)
   ·have h33:(i.right:Int)<(0:Int):=h33;refine Xi ⟨[],[],hfree⟩ (Yi ⟨Tv,Tv,Fh,Tv⟩ ?_)
    exact infR_no (show inferP x roots d i=none by rw [inf3 h27,if_pos ⟨h28.2.2.1,h28.2.2.2.1⟩]; rw [hta,nthZ_lo (l:=d) (n:=i.right) h33]) (by omega)
   have h33:¬ ((i.right:Int)<(0:Int)):=h33;refine Yi (fun h35=>?_) (fun h35=>?_)
   ·have h35:((d.map encInc).length:Int)≤(i.right:Int):=h35;refine Xi ⟨[],[],hfree⟩ (Yi ⟨Tv,Tv,Fh,Tv⟩ ?_)
    exact infR_no (show inferP x roots d i=none by rw [inf3 h27,if_pos ⟨h28.2.2.1,h28.2.2.2.1⟩]; rw [hta,nthZ_hi (l:=d) (n:=i.right) (by simpa using h35)]) (by omega)
   have h35:¬ (((d.map encInc).length:Int)≤(i.right:Int)):=h35;have hntb:¬ ((d.length:Nat):Int)≤i.right:=by simpa using h35
   refine Exists.elim (nthZ_in h33 hntb) (fun tb htbx=>?_);have htb:=htbx.1;have htbg:=htbx.2.1;have htbm:=htbx.2.2;refine Xi ⟨[(3,sl encInc d),(6,.ref 6 0)],[(6,.cells (encNf i))],hfree⟩ (Yi ⟨Z2,Z1,Fh,Tv⟩ ?_)
   refine Xi (encInc ta) (Yi (Yi (show (0:Int)≤i.left by omega) (map_at htag)) (Yi rfl ?_));refine Xi (encInc tb) (Yi (Yi (show (0:Int)≤i.right by omega) (map_at htbg)) (Yi rfl ?_));refine Xi _ (Yi (c74 ta tb i.path (hdF ta htam) (hdF tb htbm)) ?_);refine Yi (by kernel_rfl) ?_;refine Xi ⟨[(15,sl encTm ((resolveT ta tb i.path).1)),(16,vi ((resolveT ta tb i.path).2))],[],hfree⟩ (Yi ⟨Z2,Tv,Fh,Tv⟩ ?_)
   refine Yi (fun h37=>?_) (fun h37=>?_)
   ·have h37:((resolveT ta tb i.path).2:Int)=(0:Int):=h37;exact infR_yes (show inferP x roots d i=some (resolveT ta tb i.path).1 by rw [inf3 h27,if_pos ⟨h28.2.2.1,h28.2.2.2.1⟩]; rw [hta,htb]; show (if (resolveT ta tb i.path).2=0 then some (resolveT ta tb i.path).1 else none)=_; exact if_pos h37) (by omega)
   have h37:¬ (((resolveT ta tb i.path).2:Int)=(0:Int)):=h37;exact infR_no3 (show inferP x roots d i=none by rw [inf3 h27,if_pos ⟨h28.2.2.1,h28.2.2.2.1⟩]; rw [hta,htb]; show (if (resolveT ta tb i.path).2=0 then some (resolveT ta tb i.path).1 else none)=_; exact if_neg h37) (by omega) (res_err h37)
  have h28:¬ ((i.kind:Int)=i.kind∧(i.path:ByteArray)=i.path∧(i.place:Int)=0∧(i.number:Int)=0∧(i.left:Int)=i.left∧(i.right:Int)=i.right∧True):=h28;refine Xi ⟨[],[],hfree⟩ (Yi ⟨Tv,Tv,Fh,Tv⟩ ?_)
  exact infR_no (show inferP x roots d i=none by rw [inf3 h27]; exact if_neg (fun hq=>h28 ⟨rfl,rfl,hq.1,hq.2,rfl,rfl,trivial⟩)) (by omega)
 have h27:¬ ((i.kind:Int)=(3:Int)):=h27;refine Xi ⟨[],[],hfree⟩ (Yi ⟨Tv,Tv,Fh,Tv⟩ ?_)
 exact infR_no (show inferP x roots d i=none by exact infx h1 h9 h23 h27) (by omega)
end Go.Eng

namespace Go.Eng
open Go.Proofs
end Go.Eng
