/- Lemmas for the claims of this seat, without a condition: part 26 (R23, E14, E15). -/
import Derived.Test.YtpgfieopnnkpfaaGreatDoorA25
import Derived.Test.YtpgfieopnnkpfaaGreatDoorA22
namespace Go.Eng
open Go.Proofs
theorem opt_cases {α:Type} (o:Option α):(∃ x,o=some x)∨o=none:=by
 cases o with
 | none=>exact .inr rfl
 | some x=>exact .inl ⟨x,rfl⟩
theorem ofT_len (l:List Tm):(ofT l).length≤l.length:=by
 unfold ofT canonT;split
 ·simp
 ·have h1:=List.length_filter_le (fun t=>!alwaysT t) (mergeT l);have h2:=mergeT_len l l.length (Nat.le_refl _);rw [List.take_length] at h2;show ((mergeT l).filter _).length≤_;omega
theorem ofT_can (l:List Tm):∀ t ∈ ofT l,Canon t.set:=fun t ht=>by
 unfold ofT canonT at ht;split at ht
 ·cases ht
 ·exact (mergeT_sorted l).canon t (List.mem_filter.1 ht).1
theorem split_no {a:List Tm} {p:ByteArray} (h:(canonT a).isSome=false):splitT a p=none:=by
 unfold splitT;cases e:canonT a with
 | none=>rfl
 | some c=>rw [e] at h; cases h
theorem split_miss {a:List Tm} {p:ByteArray} (hf:(ofT a).find? (fun t=>decide (t.path=p))=none):splitT a p=none:=by
 unfold splitT ofT at *
 cases e:canonT a with
 | none=>rfl
 | some c=>rw [e] at hf; show (match findT c p with | none=>none | some t=>some (t,withoutT c p))=none; rw [show findT c p=none from hf]
theorem split_hit {a:List Tm} {p:ByteArray} {t:Tm} (h:(canonT a).isSome=true) (hf:(ofT a).find? (fun t=>decide (t.path=p))=some t):splitT a p=some (t,withoutT (ofT a) p):=by
 unfold splitT ofT at *
 cases e:canonT a with
 | none=>rw [e] at h; cases h
 | some c=>rw [e] at hf; show (match findT c p with | none=>none | some t=>some (t,withoutT c p))=_; rw [show findT c p=some t from hf]; rfl
theorem res_no1 {a b:List Tm} {p:ByteArray} (h:splitT a p=none):resolveT a b p=([],1):=by unfold resolveT; rw [h]
theorem res_no2 {a b:List Tm} {p:ByteArray} (h:splitT b p=none):resolveT a b p=([],1):=by
 unfold resolveT; rw [h];cases splitT a p <;> rfl
abbrev resL (a b:List Tm) (p:ByteArray) (t u:Tm):List Tm:=withoutT (ofT a) p++withoutT (ofT b) p++[eitherT t u]
theorem res_yes {a b:List Tm} {p:ByteArray} {t u:Tm} (h:splitT a p=some (t,withoutT (ofT a) p)) (k:splitT b p=some (u,withoutT (ofT b) p)):resolveT a b p=if (canonT (resL a b p t u)).isSome then (ofT (resL a b p t u),0) else ([],8):=by
 have e:resolveT a b p=match canonT (resL a b p t u) with | some o=>(o,0) | none=>([],8):=by unfold resolveT; rw [h,k]; rfl
 rw [e];cases hc:canonT (resL a b p t u) with
 | none=>rfl
 | some o=>unfold ofT; rw [hc]; rfl
abbrev resR (a b:List Tm) (p:ByteArray):AV:=.tup [sl encTm (resolveT a b p).1,vi (resolveT a b p).2]
theorem resR_no {a b:List Tm} {p:ByteArray} {e:Int} (h:resolveT a b p=([],e)):Sub (.tup [.v (.slice none 0 0),vi e]) (resR a b p) :=
 (show Sub (.tup [.v (.slice none 0 0),vi e]) (.tup [.slice .none [],vi e]) from Sub.tup ⟨.nil,.refl _,trivial⟩).trans (.of_eq (show AV.tup [.slice .none [],vi e]=resR a b p by unfold resR; rw [h]; rfl))
theorem fewI_few {t:List Tm} (h:FewI t):Few t:=by have:=h.1; unfold Few; omega
theorem c124t (l:List Tm) (hl:Few l) (p:ByteArray):ACall Tryz.prog 244 [sl encTm l,vs p] (heapOf [] hfree) fun r h'=>r=.slice (.id 2000 3) ((l.filter fun t=>!decide (t.path=p)).map encTm)∧h'=heapOf [(2000,.tok 3 ((l.filter fun t=>!decide (t.path=p)).map encTm).length)] hfree:=by
 have hl:l.length≤1073741824:=hl;refine acall_sub (cxe ⟨[],[],[],[],[],[],[],[],[],[],[4]⟩) [(7,2000)] rfl tab_ok hm rfl Tryz.func244 (by kernel_rfl) rfl (Nz rfl) (by kernel_rfl) rfl ?_;refine Xi {q:Nat × List Tm // q.1≤l.length∧q.2=(l.take q.1).filter fun t=>!decide (t.path=p)} (Xi (fun q=>⟨[(0,sl encTm l),(1,vs p),(5,.slice (.id 7 3) (q.1.2.map encTm)),(6,vi q.1.1)],[(7,.tok 3 q.1.2.length)],hfree⟩) (Xi (fun q=>l.length - q.1.1) (Yi (Xi ⟨(0,[]),Nat.zero_le _,rfl⟩ ?_) ?_)))
 ·exact ⟨Z4,Z1,Fh,ext_dec (by kernel_rfl)⟩
 intro ⟨⟨i,A⟩,i1,i2⟩;have i1:i≤l.length:=i1;have i2:A=(l.take i).filter fun t=>!decide (t.path=p):=i2;have hA:A.length≤i:=by
  have:=List.length_filter_le (fun t:Tm=>!decide (t.path=p)) (l.take i)
  rw [List.length_take] at this; rw [i2]; omega
 refine Yi (fun h1=>?_) (fun h1=>?_)
 ·have h1:(i:Int)<((l.map encTm).length:Int):=h1;have n1:i<l.length:=by simpa using h1
  have g1:l[i]?=some l[i]:=Ge n1;refine Xi (encTm l[i]) (Yi (Yi (Nn i) (map_at g1)) (Yi rfl ?_));refine Yi (fun h3=>?_) (fun h3=>?_)
  ·have h3:(l[i].path:ByteArray)≠p:=h3;refine Xi (encTm l[i]) (Yi (Yi (Nn i) (map_at g1)) (Yi rfl ?_));refine Yi (Nz rfl) ?_;have b4:AllLen 3 [(encTm l[i])]∧(A.map encTm).length=A.length∧((A.map encTm).length+([(encTm l[i])]:List (List AV)).length)*48≤140737488355328∧(A.map encTm).length+([(encTm l[i])]:List (List AV)).length≤9223372036854775807:=⟨⟨rfl,trivial⟩,(by simp),(by simp only [Lm,List.length_cons,List.length_nil]; omega),(by simp only [Lm,List.length_cons,List.length_nil]; omega)⟩;refine Yi b4 ?_;refine Xi ⟨[(0,sl encTm l),(1,vs p),(5,.slice (.id 7 3) ((A.map encTm)++[(encTm l[i])])),(6,vi i)],[(7,.tok 3 ((A.map encTm).length+([(encTm l[i])]:List (List AV)).length))],hfree⟩ (Yi ⟨Z4,Z1,Fh,ext_dec (by kernel_rfl)⟩ ?_)
   refine Yi (Ii i (by omega)) ?_;refine Xi ⟨(i+1,(A++[l[i]])),by omega,by show (A++[l[i]])=(l.take (i+1)).filter _; rw [List.take_add_one,Ge n1,List.filter_append,← i2]; show _=A++[l[i]].filter _; rw [List.filter_cons,if_pos (by simpa using h3)]; simp⟩ ?_;exact ⟨Dl l.length i (by omega),⟨Zr,Zr,⟨(show AV.slice (.id 7 3) (A.map encTm++[encTm l[i]])=.slice (.id 7 3) ((A++[l[i]]).map encTm) by simp),rfl⟩,Zr,Tv⟩,⟨⟨(show HO.tok 3 ((A.map encTm).length+[encTm l[i]].length)=.tok 3 (A++[l[i]]).length by simp),rfl⟩,Tv⟩,Fh,ext_dec (by kernel_rfl)⟩
  have h3:(l[i].path:ByteArray)=p:=Classical.byContradiction h3;refine Xi ⟨[(0,sl encTm l),(1,vs p),(5,.slice (.id 7 3) (A.map encTm)),(6,vi i)],[(7,.tok 3 A.length)],hfree⟩ (Yi ⟨Z4,Z1,Fh,ext_dec (by kernel_rfl)⟩ ?_)
  refine Yi (Ii i (by omega)) ?_;refine Xi ⟨(i+1,A),by omega,by show A=(l.take (i+1)).filter _; rw [List.take_add_one,Ge n1,List.filter_append,← i2]; show _=A++[l[i]].filter _; rw [List.filter_cons,if_neg (by simpa using h3)]; simp⟩ ?_;exact ⟨Dl l.length i (by omega),Z4,Z1,Fh,ext_dec (by kernel_rfl)⟩
 have h1:¬ ((i:Int)<((l.map encTm).length:Int)):=h1;have n1:¬ i<l.length:=by simpa using h1
 have eA:A=l.filter (fun t=>!decide (t.path=p)):=by rw [i2,List.take_of_length_le (by omega)]
 exact Xi _ (Yi (.refl _) (Yi (congrArg (fun B:List Tm=>AV.slice (.id 2000 3) (B.map encTm)) eA) (show heapOf [(2000,HO.tok 3 A.length)] hfree=heapOf [(2000,HO.tok 3 ((l.filter fun t=>!decide (t.path=p)).map encTm).length)] hfree by rw [Lm,eA])))
set_option maxHeartbeats 4000000 in
theorem c74 (a b:List Tm) (p:ByteArray) (ha:FewI a) (hb:FewI b):PC 177 [sl encTm a,sl encTm b,vs p] (resR a b p):=by
 have ha1:=ha.1;have hb1:=hb.1;refine Ps ⟨[],[],[],[],[],[],[],[],[(71,3)],[],[3,5,6,7,8,9]⟩ Tryz.func177 rfl (Nz rfl) ?_;refine Or.elim (Bt ((canonT a).isSome)) (fun h1=>?_) (fun h1=>?_)
 ·have h1:((canonT a).isSome)=true:=h1;have hc2:=(show PC 50 [sl encTm a] (.tup [sl encTm (ofT a),vb (canonT a).isSome]) from c121 a (fewI_few ha) ha.2);rw [show (canonT a).isSome=true from h1] at hc2;refine Xi .pure (Xi _ (Yi hc2 ?_));refine Or.elim (Bt ((canonT b).isSome)) (fun h3=>?_) (fun h3=>?_)
  ·have h3:((canonT b).isSome)=true:=h3;have hc4:=(show PC 50 [sl encTm b] (.tup [sl encTm (ofT b),vb (canonT b).isSome]) from c121 b (fewI_few hb) hb.2);rw [show (canonT b).isSome=true from h3] at hc4;refine Xi .pure (Xi _ (Yi hc4 ?_));refine Xi ⟨[(2,vs p),(8,sl encTm (ofT a)),(9,vb true),(10,sl encTm (ofT b)),(11,vb true)],[],hfree⟩ (Yi ⟨Z5,Tv,Fh,Tv⟩ ?_)
   refine Or.elim (opt_cases ((ofT a).find? (fun t=>decide (t.path=p)))) (fun h5=>?_) (fun h5=>?_)
   ·refine Exists.elim h5 (fun t h5=>?_);have hc5:=c122 (ofT a) (by unfold Few; have:=ofT_len a; have:=ha.1; omega) p;rw [h5] at hc5;refine Xi .pure (Xi _ (Yi hc5 ?_));refine Yi (Nz rfl) ?_;refine Or.elim (opt_cases ((ofT b).find? (fun t=>decide (t.path=p)))) (fun h6=>?_) (fun h6=>?_)
    ·refine Exists.elim h6 (fun u h6=>?_);have hc6:=c122 (ofT b) (by unfold Few; have:=ofT_len b; have:=hb.1; omega) p;rw [h6] at hc6;refine Xi .pure (Xi _ (Yi hc6 ?_));refine Yi (Nz rfl) ?_;refine Xi ⟨[(2,vs p),(8,sl encTm (ofT a)),(9,vb true),(10,sl encTm (ofT b)),(11,vb true),(12,.ref 12 0),(13,vb true),(14,.ref 14 0),(15,vb true)],[(12,.cells (encTm t)),(14,.cells (encTm u))],hfree⟩ (Yi ⟨Z9,Z2,Fh,Tv⟩ ?_)
     refine Xi ⟨[(2,vs p),(8,sl encTm (ofT a)),(10,sl encTm (ofT b)),(12,.ref 12 0),(14,.ref 14 0)],[(12,.cells (encTm t)),(14,.cells (encTm u))],hfree⟩ (Yi ⟨Z5,Z2,Fh,Tv⟩ ?_)
     have htm:t ∈ ofT a:=List.mem_of_find?_eq_some h5;have hum:u ∈ ofT b:=List.mem_of_find?_eq_some h6;have htp:t.path=p:=by simpa using List.find?_some h5
     have htc:=ofT_can a t htm;have huc:=ofT_can b u hum;have hUf:Few [t.set,u.set].flatten:=by
      have h1:=canon_len htc;have h2:=canon_len huc;unfold Few;show (t.set++(u.set++[])).length≤_;rw [List.length_append,List.length_append]; simp only [List.length_nil]; omega
     have hla:=ofT_len a;have hlb:=ofT_len b;have hwa:(withoutT (ofT a) p).length≤(ofT a).length:=List.length_filter_le ..;have hwb:(withoutT (ofT b) p).length≤(ofT b).length:=List.length_filter_le ..;have ha1:=ha.1;have hb1:=hb.1;have hLf:Few (resL a b p t u):=by unfold Few resL; rw [List.length_append,List.length_append,List.length_singleton]; omega
     have hLs:∀ x ∈ resL a b p t u,Few x.set:=fun x hx=>by
      rcases List.mem_append.1 hx with hx | hx
      ·rcases List.mem_append.1 hx with hx | hx
       ·exact few_can (ofT_can a x (List.mem_filter.1 hx).1)
       ·exact few_can (ofT_can b x (List.mem_filter.1 hx).1)
      ·rw [List.mem_singleton.1 hx]; exact few_can (t:=eitherT t u) (unionL_canon [t.set,u.set])
     refine Yi (fun h7=>?_) (fun h7=>?_)
     ·have h7:t.absent=true:=h7;refine Xi _ (Yi (c123 [t.set,u.set] (by unfold Few; simp) hUf) ?_);refine Yi (Nz rfl) ?_;refine Yi (by kernel_rfl) ?_;refine Xi ⟨[(2,vs p),(8,sl encTm (ofT a)),(10,sl encTm (ofT b)),(16,.ref 16 0)],[(16,.cells [vs p,vb true,sl encSpan (union t.set u.set)])],hfree⟩ (Yi ⟨Z4,Z1,Fh,Tv⟩ ?_)
      refine Xi _ (Xi _ (Yi (by kernel_rfl) (Yi (c124t (ofT a) (by unfold Few; have:=ofT_len a; have:=ha.1; omega) p) ?_)));refine Xi _ (Yi (c124 (ofT b) (by unfold Few; have:=ofT_len b; have:=hb.1; omega) p) ?_);have b8:AllLen 3 ((withoutT (ofT b) p).map encTm)∧((withoutT (ofT a) p).map encTm).length=((withoutT (ofT a) p).map encTm).length∧(((withoutT (ofT a) p).map encTm).length+((withoutT (ofT b) p).map encTm).length)*48≤140737488355328∧((withoutT (ofT a) p).map encTm).length+((withoutT (ofT b) p).map encTm).length≤9223372036854775807:=⟨(allLen_map (enc:=encTm) (n:=3) (fun _=>rfl) (withoutT (ofT b) p)),rfl,(by simp only [Lm]; omega),(by simp only [Lm]; omega)⟩;refine Yi b8 ?_;refine Yi (Nz rfl) ?_;have b9:AllLen 3 [[vs p,vb true,sl encSpan (union t.set u.set)]]∧((((withoutT (ofT a) p).map encTm)++((withoutT (ofT b) p).map encTm)):List (List AV)).length=(((withoutT (ofT a) p).map encTm).length+((withoutT (ofT b) p).map encTm).length)∧(((((withoutT (ofT a) p).map encTm)++((withoutT (ofT b) p).map encTm)):List (List AV)).length+([[vs p,vb true,sl encSpan (union t.set u.set)]]:List (List AV)).length)*48≤140737488355328∧((((withoutT (ofT a) p).map encTm)++((withoutT (ofT b) p).map encTm)):List (List AV)).length+([[vs p,vb true,sl encSpan (union t.set u.set)]]:List (List AV)).length≤9223372036854775807:=⟨⟨rfl,trivial⟩,(by simp),(by simp only [Lm,List.length_append,List.length_cons,List.length_nil]; omega),(by simp only [Lm,List.length_append,List.length_cons,List.length_nil]; omega)⟩;refine Yi b9 ?_;have eL:((((withoutT (ofT a) p).map encTm)++((withoutT (ofT b) p).map encTm))++[[vs p,vb true,sl encSpan (union t.set u.set)]])=(resL a b p t u).map encTm:=by
       have e1:encTm (eitherT t u)=[vs p,vb (t.absent||u.absent),sl encSpan (union t.set u.set)]:=by rw [← htp]; rfl
       have e2:(resL a b p t u).map encTm=(withoutT (ofT a) p).map encTm++(withoutT (ofT b) p).map encTm++[encTm (eitherT t u)]:=by unfold resL; rw [List.map_append,List.map_append]; rfl
       rw [e2,e1,show t.absent=true from h7]; rfl
      refine Or.elim (Bt ((canonT (resL a b p t u)).isSome)) (fun h10=>?_) (fun h10=>?_)
      ·have h10:((canonT (resL a b p t u)).isSome)=true:=h10;have hc11:=(show PC 50 [.slice .none (((((withoutT (ofT a) p).map encTm)++((withoutT (ofT b) p).map encTm))++[[vs p,vb true,sl encSpan (union t.set u.set)]]))] (.tup [sl encTm (ofT (resL a b p t u)),vb (canonT (resL a b p t u)).isSome]) from by rw [eL]; exact c121 (resL a b p t u) hLf hLs);rw [show (canonT (resL a b p t u)).isSome=true from h10] at hc11;refine Xi _ (Yi hc11 ?_);refine Yi (by kernel_rfl) ?_;refine Xi ⟨[(9,vb true),(17,sl encTm (ofT (resL a b p t u)))],[],hfree⟩ (Yi ⟨Z2,Tv,Fh,Tv⟩ ?_)
       exact .of_eq (show AV.tup [sl encTm (ofT (resL a b p t u)),vi 0]=resR a b p by unfold resR; rw [(res_yes (split_hit h1 h5) (split_hit h3 h6)).trans (if_pos h10)])
      have h10:((canonT (resL a b p t u)).isSome)=false:=h10;have hc13:=(show PC 50 [.slice .none (((((withoutT (ofT a) p).map encTm)++((withoutT (ofT b) p).map encTm))++[[vs p,vb true,sl encSpan (union t.set u.set)]]))] (.tup [sl encTm (ofT (resL a b p t u)),vb (canonT (resL a b p t u)).isSome]) from by rw [eL]; exact c121 (resL a b p t u) hLf hLs);rw [show (canonT (resL a b p t u)).isSome=false from h10] at hc13;refine Xi _ (Yi hc13 ?_);refine Yi (by kernel_rfl) ?_;refine Xi ⟨[(9,vb false),(17,sl encTm (ofT (resL a b p t u)))],[],hfree⟩ (Yi ⟨Z2,Tv,Fh,Tv⟩ ?_)
      exact resR_no ((res_yes (split_hit h1 h5) (split_hit h3 h6)).trans (if_neg (by rw [h10]; decide)))
     have h7:t.absent=false:=h7;refine Yi (fun h15=>?_) (fun h15=>?_)
     ·have h15:u.absent=true:=h15;refine Xi _ (Yi (c123 [t.set,u.set] (by unfold Few; simp) hUf) ?_);refine Yi (Nz rfl) ?_;refine Yi (by kernel_rfl) ?_;refine Xi ⟨[(2,vs p),(8,sl encTm (ofT a)),(10,sl encTm (ofT b)),(16,.ref 16 0)],[(16,.cells [vs p,vb true,sl encSpan (union t.set u.set)])],hfree⟩ (Yi ⟨Z4,Z1,Fh,Tv⟩ ?_)
      refine Xi _ (Xi _ (Yi (by kernel_rfl) (Yi (c124t (ofT a) (by unfold Few; have:=ofT_len a; have:=ha.1; omega) p) ?_)));refine Xi _ (Yi (c124 (ofT b) (by unfold Few; have:=ofT_len b; have:=hb.1; omega) p) ?_);have b16:AllLen 3 ((withoutT (ofT b) p).map encTm)∧((withoutT (ofT a) p).map encTm).length=((withoutT (ofT a) p).map encTm).length∧(((withoutT (ofT a) p).map encTm).length+((withoutT (ofT b) p).map encTm).length)*48≤140737488355328∧((withoutT (ofT a) p).map encTm).length+((withoutT (ofT b) p).map encTm).length≤9223372036854775807:=⟨(allLen_map (enc:=encTm) (n:=3) (fun _=>rfl) (withoutT (ofT b) p)),rfl,(by simp only [Lm]; omega),(by simp only [Lm]; omega)⟩;refine Yi b16 ?_;refine Yi (Nz rfl) ?_;have b17:AllLen 3 [[vs p,vb true,sl encSpan (union t.set u.set)]]∧((((withoutT (ofT a) p).map encTm)++((withoutT (ofT b) p).map encTm)):List (List AV)).length=(((withoutT (ofT a) p).map encTm).length+((withoutT (ofT b) p).map encTm).length)∧(((((withoutT (ofT a) p).map encTm)++((withoutT (ofT b) p).map encTm)):List (List AV)).length+([[vs p,vb true,sl encSpan (union t.set u.set)]]:List (List AV)).length)*48≤140737488355328∧((((withoutT (ofT a) p).map encTm)++((withoutT (ofT b) p).map encTm)):List (List AV)).length+([[vs p,vb true,sl encSpan (union t.set u.set)]]:List (List AV)).length≤9223372036854775807:=⟨⟨rfl,trivial⟩,(by simp),(by simp only [Lm,List.length_append,List.length_cons,List.length_nil]; omega),(by simp only [Lm,List.length_append,List.length_cons,List.length_nil]; omega)⟩;refine Yi b17 ?_;have eL:((((withoutT (ofT a) p).map encTm)++((withoutT (ofT b) p).map encTm))++[[vs p,vb true,sl encSpan (union t.set u.set)]])=(resL a b p t u).map encTm:=by
       have e1:encTm (eitherT t u)=[vs p,vb (t.absent||u.absent),sl encSpan (union t.set u.set)]:=by rw [← htp]; rfl
       have e2:(resL a b p t u).map encTm=(withoutT (ofT a) p).map encTm++(withoutT (ofT b) p).map encTm++[encTm (eitherT t u)]:=by unfold resL; rw [List.map_append,List.map_append]; rfl
       rw [e2,e1,show t.absent=false from h7,show u.absent=true from h15]; rfl
      refine Or.elim (Bt ((canonT (resL a b p t u)).isSome)) (fun h18=>?_) (fun h18=>?_)
      ·have h18:((canonT (resL a b p t u)).isSome)=true:=h18;have hc19:=(show PC 50 [.slice .none (((((withoutT (ofT a) p).map encTm)++((withoutT (ofT b) p).map encTm))++[[vs p,vb true,sl encSpan (union t.set u.set)]]))] (.tup [sl encTm (ofT (resL a b p t u)),vb (canonT (resL a b p t u)).isSome]) from by rw [eL]; exact c121 (resL a b p t u) hLf hLs);rw [show (canonT (resL a b p t u)).isSome=true from h18] at hc19;refine Xi _ (Yi hc19 ?_);refine Yi (by kernel_rfl) ?_;refine Xi ⟨[(9,vb true),(17,sl encTm (ofT (resL a b p t u)))],[],hfree⟩ (Yi ⟨Z2,Tv,Fh,Tv⟩ ?_)
       exact .of_eq (show AV.tup [sl encTm (ofT (resL a b p t u)),vi 0]=resR a b p by unfold resR; rw [(res_yes (split_hit h1 h5) (split_hit h3 h6)).trans (if_pos h18)])
      have h18:((canonT (resL a b p t u)).isSome)=false:=h18;have hc21:=(show PC 50 [.slice .none (((((withoutT (ofT a) p).map encTm)++((withoutT (ofT b) p).map encTm))++[[vs p,vb true,sl encSpan (union t.set u.set)]]))] (.tup [sl encTm (ofT (resL a b p t u)),vb (canonT (resL a b p t u)).isSome]) from by rw [eL]; exact c121 (resL a b p t u) hLf hLs);rw [show (canonT (resL a b p t u)).isSome=false from h18] at hc21;refine Xi _ (Yi hc21 ?_);refine Yi (by kernel_rfl) ?_;refine Xi ⟨[(9,vb false),(17,sl encTm (ofT (resL a b p t u)))],[],hfree⟩ (Yi ⟨Z2,Tv,Fh,Tv⟩ ?_)
      exact resR_no ((res_yes (split_hit h1 h5) (split_hit h3 h6)).trans (if_neg (by rw [h18]; decide)))
     have h15:u.absent=false:=h15;refine Xi _ (Yi (c123 [t.set,u.set] (by unfold Few; simp) hUf) ?_);refine Yi (Nz rfl) ?_;refine Yi (by kernel_rfl) ?_;refine Xi ⟨[(2,vs p),(8,sl encTm (ofT a)),(10,sl encTm (ofT b)),(16,.ref 16 0)],[(16,.cells [vs p,vb false,sl encSpan (union t.set u.set)])],hfree⟩ (Yi ⟨Z4,Z1,Fh,Tv⟩ ?_)
     refine Xi _ (Xi _ (Yi (by kernel_rfl) (Yi (c124t (ofT a) (by unfold Few; have:=ofT_len a; have:=ha.1; omega) p) ?_)));refine Xi _ (Yi (c124 (ofT b) (by unfold Few; have:=ofT_len b; have:=hb.1; omega) p) ?_);have b23:AllLen 3 ((withoutT (ofT b) p).map encTm)∧((withoutT (ofT a) p).map encTm).length=((withoutT (ofT a) p).map encTm).length∧(((withoutT (ofT a) p).map encTm).length+((withoutT (ofT b) p).map encTm).length)*48≤140737488355328∧((withoutT (ofT a) p).map encTm).length+((withoutT (ofT b) p).map encTm).length≤9223372036854775807:=⟨(allLen_map (enc:=encTm) (n:=3) (fun _=>rfl) (withoutT (ofT b) p)),rfl,(by simp only [Lm]; omega),(by simp only [Lm]; omega)⟩;refine Yi b23 ?_;refine Yi (Nz rfl) ?_;have b24:AllLen 3 [[vs p,vb false,sl encSpan (union t.set u.set)]]∧((((withoutT (ofT a) p).map encTm)++((withoutT (ofT b) p).map encTm)):List (List AV)).length=(((withoutT (ofT a) p).map encTm).length+((withoutT (ofT b) p).map encTm).length)∧(((((withoutT (ofT a) p).map encTm)++((withoutT (ofT b) p).map encTm)):List (List AV)).length+([[vs p,vb false,sl encSpan (union t.set u.set)]]:List (List AV)).length)*48≤140737488355328∧((((withoutT (ofT a) p).map encTm)++((withoutT (ofT b) p).map encTm)):List (List AV)).length+([[vs p,vb false,sl encSpan (union t.set u.set)]]:List (List AV)).length≤9223372036854775807:=⟨⟨rfl,trivial⟩,(by simp),(by simp only [Lm,List.length_append,List.length_cons,List.length_nil]; omega),(by simp only [Lm,List.length_append,List.length_cons,List.length_nil]; omega)⟩;refine Yi b24 ?_;have eL:((((withoutT (ofT a) p).map encTm)++((withoutT (ofT b) p).map encTm))++[[vs p,vb false,sl encSpan (union t.set u.set)]])=(resL a b p t u).map encTm:=by
      have e1:encTm (eitherT t u)=[vs p,vb (t.absent||u.absent),sl encSpan (union t.set u.set)]:=by rw [← htp]; rfl
      have e2:(resL a b p t u).map encTm=(withoutT (ofT a) p).map encTm++(withoutT (ofT b) p).map encTm++[encTm (eitherT t u)]:=by unfold resL; rw [List.map_append,List.map_append]; rfl
      rw [e2,e1,show t.absent=false from h7,show u.absent=false from h15]; rfl
     refine Or.elim (Bt ((canonT (resL a b p t u)).isSome)) (fun h25=>?_) (fun h25=>?_)
     ·have h25:((canonT (resL a b p t u)).isSome)=true:=h25;have hc26:=(show PC 50 [.slice .none (((((withoutT (ofT a) p).map encTm)++((withoutT (ofT b) p).map encTm))++[[vs p,vb false,sl encSpan (union t.set u.set)]]))] (.tup [sl encTm (ofT (resL a b p t u)),vb (canonT (resL a b p t u)).isSome]) from by rw [eL]; exact c121 (resL a b p t u) hLf hLs);rw [show (canonT (resL a b p t u)).isSome=true from h25] at hc26;refine Xi _ (Yi hc26 ?_);refine Yi (by kernel_rfl) ?_;refine Xi ⟨[(9,vb true),(17,sl encTm (ofT (resL a b p t u)))],[],hfree⟩ (Yi ⟨Z2,Tv,Fh,Tv⟩ ?_)
      exact .of_eq (show AV.tup [sl encTm (ofT (resL a b p t u)),vi 0]=resR a b p by unfold resR; rw [(res_yes (split_hit h1 h5) (split_hit h3 h6)).trans (if_pos h25)])
     have h25:((canonT (resL a b p t u)).isSome)=false:=h25;have hc28:=(show PC 50 [.slice .none (((((withoutT (ofT a) p).map encTm)++((withoutT (ofT b) p).map encTm))++[[vs p,vb false,sl encSpan (union t.set u.set)]]))] (.tup [sl encTm (ofT (resL a b p t u)),vb (canonT (resL a b p t u)).isSome]) from by rw [eL]; exact c121 (resL a b p t u) hLf hLs);rw [show (canonT (resL a b p t u)).isSome=false from h25] at hc28;refine Xi _ (Yi hc28 ?_);refine Yi (by kernel_rfl) ?_;refine Xi ⟨[(9,vb false),(17,sl encTm (ofT (resL a b p t u)))],[],hfree⟩ (Yi ⟨Z2,Tv,Fh,Tv⟩ ?_)
     exact resR_no ((res_yes (split_hit h1 h5) (split_hit h3 h6)).trans (if_neg (by rw [h25]; decide)))
    have hc6:=c122 (ofT b) (by unfold Few; have:=ofT_len b; have:=hb.1; omega) p;rw [h6] at hc6;refine Xi .pure (Xi _ (Yi hc6 ?_));refine Yi (Nz rfl) ?_;refine Xi ⟨[(2,vs p),(8,sl encTm (ofT a)),(9,vb true),(10,sl encTm (ofT b)),(11,vb true),(12,.ref 12 0),(13,vb true),(14,.ref 14 0),(15,vb false)],[(12,.cells (encTm t)),(14,.cells [vs ⟨#[]⟩,vb false,.v (.slice none 0 0)])],hfree⟩ (Yi ⟨Z9,Z2,Fh,Tv⟩ ?_)
    refine Xi ⟨[],[],hfree⟩ (Yi ⟨Tv,Tv,Fh,Tv⟩ ?_)
    exact resR_no (res_no2 (split_miss h6))
   have hc5:=c122 (ofT a) (by unfold Few; have:=ofT_len a; have:=ha.1; omega) p;rw [h5] at hc5;refine Xi .pure (Xi _ (Yi hc5 ?_));refine Yi (Nz rfl) ?_;refine Or.elim (opt_cases ((ofT b).find? (fun t=>decide (t.path=p)))) (fun h31=>?_) (fun h31=>?_)
   ·refine Exists.elim h31 (fun u h31=>?_);have hc31:=c122 (ofT b) (by unfold Few; have:=ofT_len b; have:=hb.1; omega) p;rw [h31] at hc31;refine Xi .pure (Xi _ (Yi hc31 ?_));refine Yi (Nz rfl) ?_;refine Xi ⟨[(2,vs p),(8,sl encTm (ofT a)),(9,vb true),(10,sl encTm (ofT b)),(11,vb true),(12,.ref 12 0),(13,vb false),(14,.ref 14 0),(15,vb true)],[(12,.cells [vs ⟨#[]⟩,vb false,.v (.slice none 0 0)]),(14,.cells (encTm u))],hfree⟩ (Yi ⟨Z9,Z2,Fh,Tv⟩ ?_)
    refine Xi ⟨[],[],hfree⟩ (Yi ⟨Tv,Tv,Fh,Tv⟩ ?_)
    exact resR_no (res_no1 (split_miss h5))
   have hc31:=c122 (ofT b) (by unfold Few; have:=ofT_len b; have:=hb.1; omega) p;rw [h31] at hc31;refine Xi .pure (Xi _ (Yi hc31 ?_));refine Yi (Nz rfl) ?_;refine Xi ⟨[(2,vs p),(8,sl encTm (ofT a)),(9,vb true),(10,sl encTm (ofT b)),(11,vb true),(12,.ref 12 0),(13,vb false),(14,.ref 14 0),(15,vb false)],[(12,.cells [vs ⟨#[]⟩,vb false,.v (.slice none 0 0)]),(14,.cells [vs ⟨#[]⟩,vb false,.v (.slice none 0 0)])],hfree⟩ (Yi ⟨Z9,Z2,Fh,Tv⟩ ?_)
   refine Xi ⟨[],[],hfree⟩ (Yi ⟨Tv,Tv,Fh,Tv⟩ ?_)
   exact resR_no (res_no1 (split_miss h5))
  have h3:((canonT b).isSome)=false:=h3;have hc34:=(show PC 50 [sl encTm b] (.tup [sl encTm (ofT b),vb (canonT b).isSome]) from c121 b (fewI_few hb) hb.2);rw [show (canonT b).isSome=false from h3] at hc34;refine Xi .pure (Xi _ (Yi hc34 ?_));refine Xi ⟨[(2,vs p),(8,sl encTm (ofT a)),(9,vb true),(10,sl encTm (ofT b)),(11,vb false)],[],hfree⟩ (Yi ⟨Z5,Tv,Fh,Tv⟩ ?_)
  refine Or.elim (opt_cases ((ofT a).find? (fun t=>decide (t.path=p)))) (fun h35=>?_) (fun h35=>?_)
  ·refine Exists.elim h35 (fun t h35=>?_);have hc35:=c122 (ofT a) (by unfold Few; have:=ofT_len a; have:=ha.1; omega) p;rw [h35] at hc35;refine Xi .pure (Xi _ (Yi hc35 ?_));refine Yi (Nz rfl) ?_;refine Or.elim (opt_cases ((ofT b).find? (fun t=>decide (t.path=p)))) (fun h36=>?_) (fun h36=>?_)
   ·refine Exists.elim h36 (fun u h36=>?_);have hc36:=c122 (ofT b) (by unfold Few; have:=ofT_len b; have:=hb.1; omega) p;rw [h36] at hc36;refine Xi .pure (Xi _ (Yi hc36 ?_));refine Yi (Nz rfl) ?_;refine Xi ⟨[(2,vs p),(8,sl encTm (ofT a)),(9,vb true),(10,sl encTm (ofT b)),(11,vb false),(12,.ref 12 0),(13,vb true),(14,.ref 14 0),(15,vb true)],[(12,.cells (encTm t)),(14,.cells (encTm u))],hfree⟩ (Yi ⟨Z9,Z2,Fh,Tv⟩ ?_)
    refine Xi ⟨[],[],hfree⟩ (Yi ⟨Tv,Tv,Fh,Tv⟩ ?_)
    exact resR_no (res_no2 (split_no h3))
   have hc36:=c122 (ofT b) (by unfold Few; have:=ofT_len b; have:=hb.1; omega) p;rw [h36] at hc36;refine Xi .pure (Xi _ (Yi hc36 ?_));refine Yi (Nz rfl) ?_;refine Xi ⟨[(2,vs p),(8,sl encTm (ofT a)),(9,vb true),(10,sl encTm (ofT b)),(11,vb false),(12,.ref 12 0),(13,vb true),(14,.ref 14 0),(15,vb false)],[(12,.cells (encTm t)),(14,.cells [vs ⟨#[]⟩,vb false,.v (.slice none 0 0)])],hfree⟩ (Yi ⟨Z9,Z2,Fh,Tv⟩ ?_)
   refine Xi ⟨[],[],hfree⟩ (Yi ⟨Tv,Tv,Fh,Tv⟩ ?_)
   exact resR_no (res_no2 (split_no h3))
  have hc35:=c122 (ofT a) (by unfold Few; have:=ofT_len a; have:=ha.1; omega) p;rw [h35] at hc35;refine Xi .pure (Xi _ (Yi hc35 ?_));refine Yi (Nz rfl) ?_;refine Or.elim (opt_cases ((ofT b).find? (fun t=>decide (t.path=p)))) (fun h39=>?_) (fun h39=>?_)
  ·refine Exists.elim h39 (fun u h39=>?_);have hc39:=c122 (ofT b) (by unfold Few; have:=ofT_len b; have:=hb.1; omega) p;rw [h39] at hc39;refine Xi .pure (Xi _ (Yi hc39 ?_));refine Yi (Nz rfl) ?_;refine Xi ⟨[(2,vs p),(8,sl encTm (ofT a)),(9,vb true),(10,sl encTm (ofT b)),(11,vb false),(12,.ref 12 0),(13,vb false),(14,.ref 14 0),(15,vb true)],[(12,.cells [vs ⟨#[]⟩,vb false,.v (.slice none 0 0)]),(14,.cells (encTm u))],hfree⟩ (Yi ⟨Z9,Z2,Fh,Tv⟩ ?_)
   refine Xi ⟨[],[],hfree⟩ (Yi ⟨Tv,Tv,Fh,Tv⟩ ?_)
   exact resR_no (res_no1 (split_miss h35))
  have hc39:=c122 (ofT b) (by unfold Few; have:=ofT_len b; have:=hb.1; omega) p;rw [h39] at hc39;refine Xi .pure (Xi _ (Yi hc39 ?_));refine Yi (Nz rfl) ?_;refine Xi ⟨[(2,vs p),(8,sl encTm (ofT a)),(9,vb true),(10,sl encTm (ofT b)),(11,vb false),(12,.ref 12 0),(13,vb false),(14,.ref 14 0),(15,vb false)],[(12,.cells [vs ⟨#[]⟩,vb false,.v (.slice none 0 0)]),(14,.cells [vs ⟨#[]⟩,vb false,.v (.slice none 0 0)])],hfree⟩ (Yi ⟨Z9,Z2,Fh,Tv⟩ ?_)
  refine Xi ⟨[],[],hfree⟩ (Yi ⟨Tv,Tv,Fh,Tv⟩ ?_)
  exact resR_no (res_no1 (split_miss h35))
 have h1:((canonT a).isSome)=false:=h1;have hc42:=(show PC 50 [sl encTm a] (.tup [sl encTm (ofT a),vb (canonT a).isSome]) from c121 a (fewI_few ha) ha.2);rw [show (canonT a).isSome=false from h1] at hc42;refine Xi .pure (Xi _ (Yi hc42 ?_));refine Or.elim (Bt ((canonT b).isSome)) (fun h43=>?_) (fun h43=>?_)
 ·have h43:((canonT b).isSome)=true:=h43;have hc44:=(show PC 50 [sl encTm b] (.tup [sl encTm (ofT b),vb (canonT b).isSome]) from c121 b (fewI_few hb) hb.2);rw [show (canonT b).isSome=true from h43] at hc44;refine Xi .pure (Xi _ (Yi hc44 ?_));refine Xi ⟨[(2,vs p),(8,sl encTm (ofT a)),(9,vb false),(10,sl encTm (ofT b)),(11,vb true)],[],hfree⟩ (Yi ⟨Z5,Tv,Fh,Tv⟩ ?_)
  refine Or.elim (opt_cases ((ofT a).find? (fun t=>decide (t.path=p)))) (fun h45=>?_) (fun h45=>?_)
  ·refine Exists.elim h45 (fun t h45=>?_);have hc45:=c122 (ofT a) (by unfold Few; have:=ofT_len a; have:=ha.1; omega) p;rw [h45] at hc45;refine Xi .pure (Xi _ (Yi hc45 ?_));refine Yi (Nz rfl) ?_;refine Or.elim (opt_cases ((ofT b).find? (fun t=>decide (t.path=p)))) (fun h46=>?_) (fun h46=>?_)
   ·refine Exists.elim h46 (fun u h46=>?_);have hc46:=c122 (ofT b) (by unfold Few; have:=ofT_len b; have:=hb.1; omega) p;rw [h46] at hc46;refine Xi .pure (Xi _ (Yi hc46 ?_));refine Yi (Nz rfl) ?_;refine Xi ⟨[(2,vs p),(8,sl encTm (ofT a)),(9,vb false),(10,sl encTm (ofT b)),(11,vb true),(12,.ref 12 0),(13,vb true),(14,.ref 14 0),(15,vb true)],[(12,.cells (encTm t)),(14,.cells (encTm u))],hfree⟩ (Yi ⟨Z9,Z2,Fh,Tv⟩ ?_)
    refine Xi ⟨[],[],hfree⟩ (Yi ⟨Tv,Tv,Fh,Tv⟩ ?_)
    exact resR_no (res_no1 (split_no h1))
   have hc46:=c122 (ofT b) (by unfold Few; have:=ofT_len b; have:=hb.1; omega) p;rw [h46] at hc46;refine Xi .pure (Xi _ (Yi hc46 ?_));refine Yi (Nz rfl) ?_;refine Xi ⟨[(2,vs p),(8,sl encTm (ofT a)),(9,vb false),(10,sl encTm (ofT b)),(11,vb true),(12,.ref 12 0),(13,vb true),(14,.ref 14 0),(15,vb false)],[(12,.cells (encTm t)),(14,.cells [vs ⟨#[]⟩,vb false,.v (.slice none 0 0)])],hfree⟩ (Yi ⟨Z9,Z2,Fh,Tv⟩ ?_)
   refine Xi ⟨[],[],hfree⟩ (Yi ⟨Tv,Tv,Fh,Tv⟩ ?_)
   exact resR_no (res_no1 (split_no h1))
  have hc45:=c122 (ofT a) (by unfold Few; have:=ofT_len a; have:=ha.1; omega) p;rw [h45] at hc45;refine Xi .pure (Xi _ (Yi hc45 ?_));refine Yi (Nz rfl) ?_;refine Or.elim (opt_cases ((ofT b).find? (fun t=>decide (t.path=p)))) (fun h49=>?_) (fun h49=>?_)
  ·refine Exists.elim h49 (fun u h49=>?_);have hc49:=c122 (ofT b) (by unfold Few; have:=ofT_len b; have:=hb.1; omega) p;rw [h49] at hc49;refine Xi .pure (Xi _ (Yi hc49 ?_));refine Yi (Nz rfl) ?_;refine Xi ⟨[(2,vs p),(8,sl encTm (ofT a)),(9,vb false),(10,sl encTm (ofT b)),(11,vb true),(12,.ref 12 0),(13,vb false),(14,.ref 14 0),(15,vb true)],[(12,.cells [vs ⟨#[]⟩,vb false,.v (.slice none 0 0)]),(14,.cells (encTm u))],hfree⟩ (Yi ⟨Z9,Z2,Fh,Tv⟩ ?_)
   refine Xi ⟨[],[],hfree⟩ (Yi ⟨Tv,Tv,Fh,Tv⟩ ?_)
   exact resR_no (res_no1 (split_no h1))
  have hc49:=c122 (ofT b) (by unfold Few; have:=ofT_len b; have:=hb.1; omega) p;rw [h49] at hc49;refine Xi .pure (Xi _ (Yi hc49 ?_));refine Yi (Nz rfl) ?_;refine Xi ⟨[(2,vs p),(8,sl encTm (ofT a)),(9,vb false),(10,sl encTm (ofT b)),(11,vb true),(12,.ref 12 0),(13,vb false),(14,.ref 14 0),(15,vb false)],[(12,.cells [vs ⟨#[]⟩,vb false,.v (.slice none 0 0)]),(14,.cells [vs ⟨#[]⟩,vb false,.v (.slice none 0 0)])],hfree⟩ (Yi ⟨Z9,Z2,Fh,Tv⟩ ?_)
  refine Xi ⟨[],[],hfree⟩ (Yi ⟨Tv,Tv,Fh,Tv⟩ ?_)
  exact resR_no (res_no1 (split_no h1))
 have h43:((canonT b).isSome)=false:=h43;have hc52:=(show PC 50 [sl encTm b] (.tup [sl encTm (ofT b),vb (canonT b).isSome]) from c121 b (fewI_few hb) hb.2);rw [show (canonT b).isSome=false from h43] at hc52;refine Xi .pure (Xi _ (Yi hc52 ?_));refine Xi ⟨[(2,vs p),(8,sl encTm (ofT a)),(9,vb false),(10,sl encTm (ofT b)),(11,vb false)],[],hfree⟩ (Yi ⟨Z5,Tv,Fh,Tv⟩ ?_)
 refine Or.elim (opt_cases ((ofT a).find? (fun t=>decide (t.path=p)))) (fun h53=>?_) (fun h53=>?_)
 ·refine Exists.elim h53 (fun t h53=>?_);have hc53:=c122 (ofT a) (by unfold Few; have:=ofT_len a; have:=ha.1; omega) p;rw [h53] at hc53;refine Xi .pure (Xi _ (Yi hc53 ?_));refine Yi (Nz rfl) ?_;refine Or.elim (opt_cases ((ofT b).find? (fun t=>decide (t.path=p)))) (fun h54=>?_) (fun h54=>?_)
  ·refine Exists.elim h54 (fun u h54=>?_);have hc54:=c122 (ofT b) (by unfold Few; have:=ofT_len b; have:=hb.1; omega) p;rw [h54] at hc54;refine Xi .pure (Xi _ (Yi hc54 ?_));refine Yi (Nz rfl) ?_;refine Xi ⟨[(2,vs p),(8,sl encTm (ofT a)),(9,vb false),(10,sl encTm (ofT b)),(11,vb false),(12,.ref 12 0),(13,vb true),(14,.ref 14 0),(15,vb true)],[(12,.cells (encTm t)),(14,.cells (encTm u))],hfree⟩ (Yi ⟨Z9,Z2,Fh,Tv⟩ ?_)
   refine Xi ⟨[],[],hfree⟩ (Yi ⟨Tv,Tv,Fh,Tv⟩ ?_)
   exact resR_no (res_no1 (split_no h1))
  have hc54:=c122 (ofT b) (by unfold Few; have:=ofT_len b; have:=hb.1; omega) p;rw [h54] at hc54;refine Xi .pure (Xi _ (Yi hc54 ?_));refine Yi (Nz rfl) ?_;refine Xi ⟨[(2,vs p),(8,sl encTm (ofT a)),(9,vb false),(10,sl encTm (ofT b)),(11,vb false),(12,.ref 12 0),(13,vb true),(14,.ref 14 0),(15,vb false)],[(12,.cells (encTm t)),(14,.cells [vs ⟨#[]⟩,vb false,.v (.slice none 0 0)])],hfree⟩ (Yi ⟨Z9,Z2,Fh,Tv⟩ ?_)
  refine Xi ⟨[],[],hfree⟩ (Yi ⟨Tv,Tv,Fh,Tv⟩ ?_)
  exact resR_no (res_no1 (split_no h1))
 have hc53:=c122 (ofT a) (by unfold Few; have:=ofT_len a; have:=ha.1; omega) p;rw [h53] at hc53;refine Xi .pure (Xi _ (Yi hc53 ?_));refine Yi (Nz rfl) ?_;refine Or.elim (opt_cases ((ofT b).find? (fun t=>decide (t.path=p)))) (fun h57=>?_) (fun h57=>?_)
 ·refine Exists.elim h57 (fun u h57=>?_);have hc57:=c122 (ofT b) (by unfold Few; have:=ofT_len b; have:=hb.1; omega) p;rw [h57] at hc57;refine Xi .pure (Xi _ (Yi hc57 ?_));refine Yi (Nz rfl) ?_;refine Xi ⟨[(2,vs p),(8,sl encTm (ofT a)),(9,vb false),(10,sl encTm (ofT b)),(11,vb false),(12,.ref 12 0),(13,vb false),(14,.ref 14 0),(15,vb true)],[(12,.cells [vs ⟨#[]⟩,vb false,.v (.slice none 0 0)]),(14,.cells (encTm u))],hfree⟩ (Yi ⟨Z9,Z2,Fh,Tv⟩ ?_)
  refine Xi ⟨[],[],hfree⟩ (Yi ⟨Tv,Tv,Fh,Tv⟩ ?_)
  exact resR_no (res_no1 (split_no h1))
 have hc57:=c122 (ofT b) (by unfold Few; have:=ofT_len b; have:=hb.1; omega) p;rw [h57] at hc57;refine Xi .pure (Xi _ (Yi hc57 ?_));refine Yi (Nz rfl) ?_;refine Xi ⟨[(2,vs p),(8,sl encTm (ofT a)),(9,vb false),(10,sl encTm (ofT b)),(11,vb false),(12,.ref 12 0),(13,vb false),(14,.ref 14 0),(15,vb false)],[(12,.cells [vs ⟨#[]⟩,vb false,.v (.slice none 0 0)]),(14,.cells [vs ⟨#[]⟩,vb false,.v (.slice none 0 0)])],hfree⟩ (Yi ⟨Z9,Z2,Fh,Tv⟩ ?_)
 refine Xi ⟨[],[],hfree⟩ (Yi ⟨Tv,Tv,Fh,Tv⟩ ?_)
 exact resR_no (res_no1 (split_no h1))
end Go.Eng

namespace Go.Eng
open Go.Proofs
theorem bad_of {y:Nf} {i:Int} (hi:0≤i) (h:y.left<0∨i≤y.left∨y.right<0∨i≤y.right):badRef i.toNat y=true:=by
 unfold badRef;have ei:((i.toNat:Nat):Int)=i:=Int.toNat_of_nonneg hi;rw [ei];rcases h with h | h | h | h <;> simp [h]
theorem bad_not {y:Nf} {i:Int} (hi:0≤i) (h1:¬ y.left<0) (h2:¬ i≤y.left) (h3:¬ y.right<0) (h4:¬ i≤y.right):badRef i.toNat y=false:=by
 unfold badRef;have ei:((i.toNat:Nat):Int)=i:=Int.toNat_of_nonneg hi;rw [ei];simp only [Bool.or_eq_false_iff,decide_eq_false_iff_not];omega
def mkR:Option (List Bool)→AV
 | none=>.tup [.slice .none [],vb false]
 | some u=>.tup [sl encB u,vb true]
theorem mkR_no {o:Option (List Bool)} (h:o=none):Sub (.tup [.v (.slice none 0 0),vb false]) (mkR o) :=
 (show Sub (.tup [.v (.slice none 0 0),vb false]) (.tup [.slice .none [],vb false]) from Sub.tup ⟨.nil,.refl _,trivial⟩).trans (.of_eq (by rw [h]; rfl))
theorem mkR_some {o:Option (List Bool)} {u:List Bool} (h:o=some u):Sub (.tup [sl encB u,vb true]) (mkR o):=.of_eq (by rw [h]; rfl)
theorem e55 (L:List Nat) (n:Int) (hl:Few L):PC 55 [sl encNat L,vi (n:Int)] (vi (posL L n)):=by
 have hl:L.length≤1073741824:=hl;refine Ps ⟨[],[],[],[],[],[],[],[],[],[],[]⟩ Tryz.func55 rfl (Nz rfl) ?_;refine Xi {i:Nat // i≤L.length∧∀ j (hj:j<L.length),j<i→¬ (L[j]:Int)=n} (Xi (fun q=>⟨[(0,sl encNat L),(1,vi (n:Int)),(5,vi q.1)],[],hfree⟩) (Xi (fun q=>L.length - q.1) (Yi (Xi ⟨0,Nat.zero_le _,fun j _ h=>by omega⟩ ?_) ?_)))
 ·exact ⟨Z3,Tv,Fh,Tv⟩
 intro ⟨i,i1,i2⟩;have i1:i≤L.length:=i1;have i2:∀ j (hj:j<L.length),j<i→¬ (L[j]:Int)=n:=i2;refine Yi (fun h1=>?_) (fun h1=>?_)
 ·have h1:(i:Int)<((L.map encNat).length:Int):=h1;have n1:i<L.length:=by have q:=h1; rw [Lm] at q; omega
  have g1:L[i]?=some L[i]:=Ge n1;refine Xi (encNat L[i]) (Yi (Yi (Nn i) (map_at g1)) (Yi rfl ?_));refine Yi (fun h2=>?_) (fun h2=>?_)
  ·have h2:(L[i]:Int)=((n:Int):Int):=h2;exact .of_eq (show vi i=vi (posL L n) by rw [pos_found n1 i2 (by have q:=h2; omega)])
  have h2:¬ ((L[i]:Int)=((n:Int):Int)):=h2;refine Yi (Ii i (by omega)) ?_;refine Xi ⟨i+1,by omega,fun j hj hji=>(Nat.lt_or_ge j i).elim (i2 j hj) (fun z=>by have e:j=i:=(by omega); subst e; exact fun hq=>h2 hq)⟩ ?_;exact ⟨Dl L.length i (by omega),Z3,Tv,Fh,Tv⟩
 have h1:¬ ((i:Int)<((L.map encNat).length:Int)):=h1;have n1:¬ i<L.length:=by have q:=h1; rw [Lm] at q; omega
 exact .of_eq (show vi (-1)=vi (posL L n) by rw [pos_none fun j hj=>i2 j hj (by omega)])
set_option maxHeartbeats 4000000 in
theorem e52 (l:List Nf) (target:Int) (hl:Few l) (ht:0≤target∧target<l.length):PC 52 [sl encNf l,vi (target:Int)] (mkR (marksL l target.toNat)):=by
 have hml:(l.map encNf).length=l.length:=Lm _;have hl:l.length≤1073741824:=hl;refine Ps ⟨[],[],[(10,1)],[],[],[],[],[],[],[(200011,6)],[7,9,10,11]⟩ Tryz.func52 rfl (Nz rfl) ?_;refine Yi (show (0:Int)≤((l.map encNf).length:Nat)∧(((l.map encNf).length:Nat):Int)≤((l.map encNf).length:Nat)∧(((l.map encNf).length:Nat):Int)*1≤140737488355328∧(((l.map encNf).length:Nat):Int)≤9223372036854775807 by rw [Lm]; omega) ?_;refine Yi (show (0:Int)≤target∧target<(((List.replicate (((l.map encNf).length:Nat):Int).toNat [vb false]):List (List AV)).length:Nat) by rw [List.length_replicate,Int.toNat_natCast,Lm]; omega) ?_;refine Yi rfl (Xi [vb false] (Yi (show (List.replicate (((l.map encNf).length:Nat):Int).toNat [vb false])[(target:Int).toNat]?=some [vb false] from rep_at _ _ (by rw [Int.toNat_natCast,Lm]; omega)) (Yi (Nz rfl) ?_)));refine Xi {q:Int × List Bool // (-1≤q.1∧q.1≤target)∧q.2.length=l.length∧markGo l (q.1+1).toNat q.2=marksL l target.toNat} (Xi (fun q=>⟨[(0,sl encNf l),(6,.msl 10 q.1.2.length),(7,vi (q.1.1:Int))],[(10,.arr 1 (q.1.2.map encB))],hfree⟩) (Xi (fun q=>(q.1.1+1).toNat) (Yi (Xi ⟨(target,u0 l target),⟨by omega,Int.le_refl _⟩,by simp,start_ok (by omega)⟩ ?_) ?_)))
 ·exact ⟨⟨Zr,⟨(show AV.msl 10 ((List.replicate ((l.map encNf).length:Int).toNat [vb false]):List (List AV)).length=.msl 10 (u0 l target).length by simp),rfl⟩,Zr,Tv⟩,⟨⟨(show HO.arr 1 ((List.replicate ((l.map encNf).length:Int).toNat [vb false]).set (target:Int).toNat [vb true])=.arr 1 ((u0 l target).map encB) by rw [← set_rep]),rfl⟩,Tv⟩,Fh,Tv⟩
 intro ⟨⟨i,u⟩,i1,i2,i3⟩;have i1 : -1≤i∧i≤target:=i1;have i2:u.length=l.length:=i2;have i3:markGo l (i+1).toNat u=marksL l target.toNat:=i3;refine Yi (fun h1=>?_) (fun h1=>?_)
 ·have h1:(0:Int)≤((i:Int):Int):=h1;have hi0:0≤i:=h1;have hil:i.toNat<l.length:=by omega
  have hiu:i.toNat<u.length:=by omega
  have gl:l[i.toNat]?=some l[i.toNat]:=Ge hil;have gu:u[i.toNat]?=some u[i.toNat]:=Ge hiu;refine Yi (by show (0:Int)≤(i:Int)∧((i:Int):Int)<(u.length:Nat); omega) ?_;refine Yi (show u.length=(u.map encB).length by simp) (Xi (encB u[i.toNat]) (Yi (map_at gu) ?_));refine Yi (fun h2=>?_) (fun h2=>?_)
  ·have h2:u[i.toNat]=true:=h2;refine Xi (encNf l[i.toNat]) (Yi (Yi hi0 (map_at gl)) (Yi rfl ?_));refine Yi (fun h3=>?_) (fun h3=>?_)
   ·have h3:(l[i.toNat].kind:Int)≠(3:Int):=h3;refine Yi (by show InI64 (((i:Int):Int) - (1:Int)); unfold InI64; omega) ?_;refine Xi ⟨(i - 1,u),⟨by omega,by omega⟩,i2,by rw [← i3,mark_skip hi0 hil hiu (.inr (fun hq=>h3 hq))]⟩ ?_;exact ⟨by show (i - 1+1).toNat<(i+1).toNat; omega,Z3,Z1,Fh,Tv⟩
   have h3:(l[i.toNat].kind:Int)=(3:Int):=Classical.byContradiction h3;refine Xi ⟨[(0,sl encNf l),(6,.msl 10 u.length),(7,vi (i:Int))],[(10,.arr 1 (u.map encB))],hfree⟩ (Yi ⟨Z3,Z1,Fh,Tv⟩ ?_)
   refine Xi (encNf l[i.toNat]) (Yi (Yi hi0 (map_at gl)) (Yi rfl ?_));refine Yi (fun h5=>?_) (fun h5=>?_)
   ·have h5:(l[i.toNat].left:Int)<(0:Int):=h5;exact mkR_no (by rw [← i3]; exact mark_bad hi0 hil hiu h2 h3 (bad_of hi0 (.inl h5)))
   have h5:¬ ((l[i.toNat].left:Int)<(0:Int)):=h5;refine Xi (encNf l[i.toNat]) (Yi (Yi hi0 (map_at gl)) (Yi rfl ?_));refine Yi (fun h7=>?_) (fun h7=>?_)
   ·have h7:((i:Int):Int)≤(l[i.toNat].left:Int):=h7;exact mkR_no (by rw [← i3]; exact mark_bad hi0 hil hiu h2 h3 (bad_of hi0 (.inr (.inl h7))))
   have h7:¬ (((i:Int):Int)≤(l[i.toNat].left:Int)):=h7;refine Xi (encNf l[i.toNat]) (Yi (Yi hi0 (map_at gl)) (Yi rfl ?_));refine Yi (fun h9=>?_) (fun h9=>?_)
   ·have h9:(l[i.toNat].right:Int)<(0:Int):=h9;exact mkR_no (by rw [← i3]; exact mark_bad hi0 hil hiu h2 h3 (bad_of hi0 (.inr (.inr (.inl h9)))))
   have h9:¬ ((l[i.toNat].right:Int)<(0:Int)):=h9;refine Xi (encNf l[i.toNat]) (Yi (Yi hi0 (map_at gl)) (Yi rfl ?_));refine Yi (fun h11=>?_) (fun h11=>?_)
   ·have h11:((i:Int):Int)≤(l[i.toNat].right:Int):=h11;exact mkR_no (by rw [← i3]; exact mark_bad hi0 hil hiu h2 h3 (bad_of hi0 (.inr (.inr (.inr (h11))))))
   have h11:¬ (((i:Int):Int)≤(l[i.toNat].right:Int)):=h11;have hk1:l[i.toNat].left.toNat<u.length:=by omega
   have gk:u[l[i.toNat].left.toNat]?=some u[l[i.toNat].left.toNat]:=Ge hk1;have hk2:l[i.toNat].right.toNat<(u.set l[i.toNat].left.toNat true).length:=by rw [List.length_set]; omega
   have gk2:(u.set l[i.toNat].left.toNat true)[l[i.toNat].right.toNat]?=some (u.set l[i.toNat].left.toNat true)[l[i.toNat].right.toNat]:=Ge hk2;refine Xi ⟨[(0,sl encNf l),(6,.msl 10 u.length),(7,vi (i:Int))],[(10,.arr 1 (u.map encB))],hfree⟩ (Yi ⟨Z3,Z1,Fh,Tv⟩ ?_)
   refine Xi (encNf l[i.toNat]) (Yi (Yi hi0 (map_at gl)) (Yi rfl ?_));refine Yi (by show (0:Int)≤l[i.toNat].left∧(l[i.toNat].left:Int)<(u.length:Nat); omega) ?_;refine Yi (show u.length=(u.map encB).length by simp) (Xi (encB (u[l[i.toNat].left.toNat])) (Yi (map_at gk) (Yi (Nz rfl) ?_)));refine Xi ⟨[(0,sl encNf l),(6,.msl 10 u.length),(7,vi (i:Int))],[(10,.arr 1 ((u.map encB).set (l[i.toNat].left:Int).toNat [vb true]))],hfree⟩ (Yi ⟨Z3,Z1,Fh,Tv⟩ ?_)
   refine Xi (encNf l[i.toNat]) (Yi (Yi hi0 (map_at gl)) (Yi rfl ?_));refine Yi (by show (0:Int)≤l[i.toNat].right∧(l[i.toNat].right:Int)<(u.length:Nat); omega) ?_;refine Yi (show u.length=(((u.map encB).set (l[i.toNat].left:Int).toNat [vb true]):List (List AV)).length by simp) (Xi [vb ((u.set l[i.toNat].left.toNat true)[l[i.toNat].right.toNat])] (Yi (show ((u.map encB).set l[i.toNat].left.toNat [vb true])[l[i.toNat].right.toNat]?=some [vb ((u.set l[i.toNat].left.toNat true)[l[i.toNat].right.toNat])] by rw [map_setB]; exact map_at gk2) (Yi (Nz rfl) ?_)));refine Yi (by show InI64 (((i:Int):Int) - (1:Int)); unfold InI64; omega) ?_;refine Xi ⟨(i - 1,((u.set l[i.toNat].left.toNat true).set l[i.toNat].right.toNat true)),⟨by omega,by omega⟩,by simp [i2],by rw [← i3,mark_two hi0 hil hiu h2 h3 (bad_not hi0 h5 h7 h9 h11)]⟩ ?_;exact ⟨by show (i - 1+1).toNat<(i+1).toNat; omega,⟨Zr,⟨(show AV.msl 10 u.length=.msl 10 ((u.set l[i.toNat].left.toNat true).set l[i.toNat].right.toNat true).length by simp),rfl⟩,Zr,Tv⟩,⟨⟨(show HO.arr 1 (((u.map encB).set l[i.toNat].left.toNat [vb true]).set l[i.toNat].right.toNat [vb true])=.arr 1 (((u.set l[i.toNat].left.toNat true).set l[i.toNat].right.toNat true).map encB) by rw [map_setB,map_setB]),rfl⟩,Tv⟩,Fh,Tv⟩
  have h2:u[i.toNat]=false:=h2;refine Yi (by show InI64 (((i:Int):Int) - (1:Int)); unfold InI64; omega) ?_;refine Xi ⟨(i - 1,u),⟨by omega,by omega⟩,i2,by rw [← i3,mark_skip hi0 hil hiu (.inl h2)]⟩ ?_;exact ⟨by show (i - 1+1).toNat<(i+1).toNat; omega,Z3,Z1,Fh,Tv⟩
 have h1:¬ ((0:Int)≤((i:Int):Int)):=h1;refine Yi (by rw [Lm]) ?_;refine Xi ⟨[(6,sl encB u)],[],hfree⟩ (Yi ⟨Z1,Tv,Fh,Tv⟩ ?_)
 exact mkR_some (by rw [← i3]; exact mark_zero i1.1 (by omega))
set_option maxHeartbeats 4000000 in
theorem e19 (l:List Nf) (target:Int) (hl:Few l) (ht:InI64 target):PC 19 [sl encNf l,vi (target:Int)] (sl encNat (usedL l target)):=by
 have hml:(l.map encNf).length=l.length:=Lm _;have hl:l.length≤1073741824:=hl;have ht : -9223372036854775808≤target∧target<9223372036854775808:=ht;refine Ps ⟨[],[],[],[],[],[],[],[],[],[],[2,3,4,9,11]⟩ Tryz.func19 rfl (Nz rfl) ?_;refine Yi (fun h1=>?_) (fun h1=>?_)
 ·have h1:((target:Int):Int)<(0:Int):=h1;refine Xi ⟨[],[],hfree⟩ (Yi ⟨Tv,Tv,Fh,Tv⟩ ?_)
  exact (show Sub (.v (.slice none 0 0)) (.slice .none []) from .nil).trans (.of_eq (show AV.slice .none []=sl encNat (usedL l target) by rw [used_out (.inl h1)]; rfl))
 have h1:¬ (((target:Int):Int)<(0:Int)):=h1;refine Yi (fun h3=>?_) (fun h3=>?_)
 ·have h3:((l.map encNf).length:Int)≤((target:Int):Int):=h3;refine Xi ⟨[],[],hfree⟩ (Yi ⟨Tv,Tv,Fh,Tv⟩ ?_)
  exact (show Sub (.v (.slice none 0 0)) (.slice .none []) from .nil).trans (.of_eq (show AV.slice .none []=sl encNat (usedL l target) by rw [used_out (.inr (by have q:=h3; rw [hml] at q; exact q))]; rfl))
 have h3:¬ (((l.map encNf).length:Int)≤((target:Int):Int)):=h3;refine Xi ⟨[(0,sl encNf l),(1,vi (target:Int))],[],hfree⟩ (Yi ⟨Z2,Tv,Fh,Tv⟩ ?_)
 refine Or.elim (opt_cases (marksL l target.toNat)) (fun h5=>?_) (fun h5=>?_)
 ·refine Exists.elim h5 (fun u h5=>?_);have hc5:=e52 l target hl (by have q:=h3; rw [hml] at q; omega);rw [h5] at hc5;have hu52:u.length=l.length:=by have hq:markGo l (target.toNat+1) ((List.replicate l.length false).set target.toNat true)=some u:=h5; have:=markGo_len hq; simpa using this
  refine Xi .pure (Xi _ (Yi hc5 ?_));refine Xi ⟨[(5,sl encB u),(6,vb true)],[],hfree⟩ (Yi ⟨Z2,Tv,Fh,Tv⟩ ?_)
  refine Xi {k:Nat // k≤u.length} (Xi (fun q=>⟨[(5,sl encB u),(7,.slice (.id 25 1) ((usK u q.1).map encNat)),(8,vi q.1)],[(25,.tok 1 (usK u q.1).length)],hfree⟩) (Xi (fun q=>u.length - q.1) (Yi (Xi ⟨0,Nat.zero_le _⟩ ?_) ?_)))
  ·exact ⟨Z3,Z1,Fh,Tv⟩
  intro ⟨k,k1⟩;have k1:k≤u.length:=k1;have hkl:=usK_len u k;refine Yi (fun h6=>?_) (fun h6=>?_)
  ·have h6:(k:Int)<((u.map encB).length:Int):=h6;have n6:k<u.length:=by have q:=h6; rw [Lm] at q; omega
   have g6:u[k]?=some u[k]:=Ge n6;refine Xi (encB u[k]) (Yi (Yi (Nn k) (map_at g6)) (Yi rfl ?_));refine Yi (fun h7=>?_) (fun h7=>?_)
   ·have h7:u[k]=true:=h7;refine Xi ⟨[(5,sl encB u),(7,.slice (.id 25 1) ((usK u k).map encNat)),(8,vi k)],[(25,.tok 1 (usK u k).length)],hfree⟩ (Yi ⟨Z3,Z1,Fh,Tv⟩ ?_)
    have b8:AllLen 1 [[vi k]]∧((usK u k).map encNat).length=(usK u k).length∧(((usK u k).map encNat).length+([[vi k]]:List (List AV)).length)*8≤140737488355328∧((usK u k).map encNat).length+([[vi k]]:List (List AV)).length≤9223372036854775807:=⟨⟨rfl,trivial⟩,(by rw [Lm]),(by simp only [Lm,List.length_cons,List.length_nil]; omega),(by simp only [Lm,List.length_cons,List.length_nil]; omega)⟩;refine Yi b8 ?_;refine Xi ⟨[(5,sl encB u),(7,.slice (.id 25 1) (((usK u k).map encNat)++[[vi k]])),(8,vi k)],[(25,.tok 1 (((usK u k).map encNat).length+([[vi k]]:List (List AV)).length))],hfree⟩ (Yi ⟨Z3,Z1,Fh,Tv⟩ ?_)
    refine Yi (Ii k (by omega)) ?_;have hus:=usK_succ u k n6;rw [h7] at hus;simp only [if_true] at hus;refine Xi ⟨k+1,by omega⟩ ?_;exact ⟨Dl u.length k (by omega),⟨Zr,⟨(show AV.slice (.id 25 1) ((usK u k).map encNat++[[vi k]])=.slice (.id 25 1) ((usK u (k+1)).map encNat) by rw [hus,List.map_append]; rfl),rfl⟩,Zr,Tv⟩,⟨⟨(show HO.tok 1 (((usK u k).map encNat).length+([[vi k]]:List (List AV)).length)=.tok 1 (usK u (k+1)).length by rw [hus,List.length_append,Lm]; rfl),rfl⟩,Tv⟩,Fh,Tv⟩
   have h7:u[k]=false:=h7;refine Xi ⟨[(5,sl encB u),(7,.slice (.id 25 1) ((usK u k).map encNat)),(8,vi k)],[(25,.tok 1 (usK u k).length)],hfree⟩ (Yi ⟨Z3,Z1,Fh,Tv⟩ ?_)
   refine Yi (Ii k (by omega)) ?_;have hus:=usK_succ u k n6;rw [h7] at hus;simp only [Bool.false_eq_true,if_false] at hus;refine Xi ⟨k+1,by omega⟩ ?_;exact ⟨Dl u.length k (by omega),⟨Zr,⟨(show AV.slice (.id 25 1) ((usK u k).map encNat)=.slice (.id 25 1) ((usK u (k+1)).map encNat) by rw [hus]),rfl⟩,Zr,Tv⟩,⟨⟨(show HO.tok 1 (usK u k).length=.tok 1 (usK u (k+1)).length by rw [hus]),rfl⟩,Tv⟩,Fh,Tv⟩
  have h6:¬ ((k:Int)<((u.map encB).length:Int)):=h6;have n6:¬ k<u.length:=by have q:=h6; rw [Lm] at q; omega
  have hku:k=u.length:=by omega
  exact .of_eq (show sl encNat (usK u k)=sl encNat (usedL l target) by rw [used_some (by omega) h5,hku]; rfl)
 have hc5:=e52 l target hl (by have q:=h3; rw [hml] at q; omega);rw [h5] at hc5;refine Xi .pure (Xi _ (Yi hc5 ?_));refine Xi ⟨[(5,sl encB []),(6,vb false)],[],hfree⟩ (Yi ⟨Z2,Tv,Fh,Tv⟩ ?_)
 exact (show Sub (.v (.slice none 0 0)) (.slice .none []) from .nil).trans (.of_eq (show AV.slice .none []=sl encNat (usedL l target) by rw [used_none h5]; rfl))
end Go.Eng

namespace Go.Eng
open Go.Proofs
set_option maxHeartbeats 4000000 in
theorem e22 (l:List Nf) (target:Int) (hl:Few l) (ht:InI64 target):PC 22 [sl encNf l,vi (target:Int)] (sl encNf (trimL l target)):=by
 have hUl:∀ i ∈ usedL l target,i<l.length:=usedL_lt;have hUn:=usedL_len (l:=l) (target:=target);have k19:=e19 l target hl ht;obtain ⟨U,hU⟩ : ∃ U,U=usedL l target:=⟨_,rfl⟩;rw [← hU] at hUl hUn k19;have hl:l.length≤1073741824:=hl;have hUf:Few U:=by unfold Few; omega
 refine Ps ⟨[],[],[],[],[],[],[],[],[],[],[3,7,9]⟩ Tryz.func22 rfl (Nz rfl) ?_;refine Xi .pure (Xi _ (Yi k19 ?_));refine Xi ⟨[(0,sl encNf l),(5,sl encNat U),(6,.slice (.id 12 6) [])],[(12,.tok 6 0)],hfree⟩ (Yi ⟨Z3,Z1,Fh,Tv⟩ ?_)
 refine Xi {i:Nat // i≤U.length} (Xi (fun q=>⟨[(0,sl encNf l),(5,sl encNat U),(6,.slice (.id 12 6) (((U.take q.1).map fun k=>trimN U (l.getD k nf0)).map encNf)),(7,vi q.1)],[(12,.tok 6 q.1)],hfree⟩) (Xi (fun q=>U.length - q.1) (Yi (Xi ⟨0,Nat.zero_le _⟩ ?_) ?_)))
 ·exact ⟨Z4,Z1,Fh,Tv⟩
 intro ⟨i,i1⟩;have i1:i≤U.length:=i1;have hrl:((U.take i).map fun k=>trimN U (l.getD k nf0)).length=i:=by rw [Lm,List.length_take]; omega
 refine Yi (fun h1=>?_) (fun h1=>?_)
 ·have h1:(i:Int)<((U.map encNat).length:Int):=h1;have n1:i<U.length:=by have q:=h1; rw [Lm] at q; omega
  have g1:U[i]?=some U[i]:=Ge n1;have gy:l[U[i]]?=some (l.getD U[i] nf0):=getD_at (hUl _ (List.getElem_mem n1));refine Xi (encNat U[i]) (Yi (Yi (Nn i) (map_at g1)) (Yi rfl ?_));refine Xi (encNf (l.getD U[i] nf0)) (Yi (Yi (show (0:Int)≤(U[i]:Nat) by omega) (map_at gy)) (Yi rfl ?_));refine Yi (Nz rfl) ?_;refine Yi (Nz rfl) ?_;refine Xi ⟨[(0,sl encNf l),(5,sl encNat U),(6,.slice (.id 12 6) (((U.take i).map fun k=>trimN U (l.getD k nf0)).map encNf)),(7,vi i),(8,.ref 8 0)],[(8,.cells (encNf (l.getD U[i] nf0))),(12,.tok 6 i)],hfree⟩ (Yi ⟨Z5,Z2,Fh,Tv⟩ ?_)
  refine Yi (fun h2=>?_) (fun h2=>?_)
  ·have h2:((l.getD U[i] nf0).kind:Int)=(3:Int):=h2;refine Xi _ (Yi (e55 U (l.getD U[i] nf0).left hUf) ?_);refine Xi _ (Yi (e55 U (l.getD U[i] nf0).right hUf) ?_);refine Yi (Nz rfl) ?_;refine Yi (Nz rfl) ?_;refine Yi (by kernel_rfl) ?_;refine Xi ⟨[(0,sl encNf l),(5,sl encNat U),(6,.slice (.id 12 6) (((U.take i).map fun k=>trimN U (l.getD k nf0)).map encNf)),(7,vi i),(8,.ref 8 0)],[(8,.cells [vi (l.getD U[i] nf0).kind,vs (l.getD U[i] nf0).path,vi (l.getD U[i] nf0).place,vi (l.getD U[i] nf0).number,vi (posL U (l.getD U[i] nf0).left),vi (posL U (l.getD U[i] nf0).right)]),(12,.tok 6 i)],hfree⟩ (Yi ⟨Z5,Z2,Fh,Tv⟩ ?_)
   refine Yi (Nz rfl) ?_;have b3:AllLen 6 [[vi (l.getD U[i] nf0).kind,vs (l.getD U[i] nf0).path,vi (l.getD U[i] nf0).place,vi (l.getD U[i] nf0).number,vi (posL U (l.getD U[i] nf0).left),vi (posL U (l.getD U[i] nf0).right)]]∧(((U.take i).map fun k=>trimN U (l.getD k nf0)).map encNf).length=i∧((((U.take i).map fun k=>trimN U (l.getD k nf0)).map encNf).length+([[vi (l.getD U[i] nf0).kind,vs (l.getD U[i] nf0).path,vi (l.getD U[i] nf0).place,vi (l.getD U[i] nf0).number,vi (posL U (l.getD U[i] nf0).left),vi (posL U (l.getD U[i] nf0).right)]]:List (List AV)).length)*56≤140737488355328∧(((U.take i).map fun k=>trimN U (l.getD k nf0)).map encNf).length+([[vi (l.getD U[i] nf0).kind,vs (l.getD U[i] nf0).path,vi (l.getD U[i] nf0).place,vi (l.getD U[i] nf0).number,vi (posL U (l.getD U[i] nf0).left),vi (posL U (l.getD U[i] nf0).right)]]:List (List AV)).length≤9223372036854775807:=⟨⟨rfl,trivial⟩,(by simp only [Lm,List.length_take]; omega),(by simp only [Lm,List.length_cons,List.length_nil,List.length_take]; omega),(by simp only [Lm,List.length_cons,List.length_nil,List.length_take]; omega)⟩;refine Yi b3 ?_;refine Yi (Ii i (by omega)) ?_;have hy : [vi (l.getD U[i] nf0).kind,vs (l.getD U[i] nf0).path,vi (l.getD U[i] nf0).place,vi (l.getD U[i] nf0).number,vi (posL U (l.getD U[i] nf0).left),vi (posL U (l.getD U[i] nf0).right)]=encNf (trimN U (l.getD U[i] nf0)):=by unfold trimN; rw [if_pos h2]; try rfl
   have ht:(U.take (i+1)).map (fun k=>trimN U (l.getD k nf0))=(U.take i).map (fun k=>trimN U (l.getD k nf0))++[trimN U (l.getD U[i] nf0)]:=by rw [List.take_succ_eq_append_getElem n1,List.map_append]; rfl
   refine Xi ⟨i+1,by omega⟩ ?_;exact ⟨Dl U.length i (by omega),⟨Zr,Zr,⟨(show AV.slice (.id 12 6) (((U.take i).map fun k=>trimN U (l.getD k nf0)).map encNf++[[vi (l.getD U[i] nf0).kind,vs (l.getD U[i] nf0).path,vi (l.getD U[i] nf0).place,vi (l.getD U[i] nf0).number,vi (posL U (l.getD U[i] nf0).left),vi (posL U (l.getD U[i] nf0).right)]])=.slice (.id 12 6) (((U.take (i+1)).map fun k=>trimN U (l.getD k nf0)).map encNf) by rw [ht,List.map_append,hy]; rfl),rfl⟩,Zr,Tv⟩,⟨⟨(show HO.tok 6 ((((U.take i).map fun k=>trimN U (l.getD k nf0)).map encNf).length+([[vi (l.getD U[i] nf0).kind,vs (l.getD U[i] nf0).path,vi (l.getD U[i] nf0).place,vi (l.getD U[i] nf0).number,vi (posL U (l.getD U[i] nf0).left),vi (posL U (l.getD U[i] nf0).right)]]:List (List AV)).length)=.tok 6 (i+1) by rw [Lm,hrl]; rfl),rfl⟩,Tv⟩,Fh,Tv⟩
  have h2:¬ (((l.getD U[i] nf0).kind:Int)=(3:Int)):=h2;refine Xi ⟨[(0,sl encNf l),(5,sl encNat U),(6,.slice (.id 12 6) (((U.take i).map fun k=>trimN U (l.getD k nf0)).map encNf)),(7,vi i),(8,.ref 8 0)],[(8,.cells (encNf (l.getD U[i] nf0))),(12,.tok 6 i)],hfree⟩ (Yi ⟨Z5,Z2,Fh,Tv⟩ ?_)
  refine Yi (Nz rfl) ?_;have b5:AllLen 6 [(encNf (l.getD U[i] nf0))]∧(((U.take i).map fun k=>trimN U (l.getD k nf0)).map encNf).length=i∧((((U.take i).map fun k=>trimN U (l.getD k nf0)).map encNf).length+([(encNf (l.getD U[i] nf0))]:List (List AV)).length)*56≤140737488355328∧(((U.take i).map fun k=>trimN U (l.getD k nf0)).map encNf).length+([(encNf (l.getD U[i] nf0))]:List (List AV)).length≤9223372036854775807:=⟨⟨rfl,trivial⟩,(by simp only [Lm,List.length_take]; omega),(by simp only [Lm,List.length_cons,List.length_nil,List.length_take]; omega),(by simp only [Lm,List.length_cons,List.length_nil,List.length_take]; omega)⟩;refine Yi b5 ?_;refine Yi (Ii i (by omega)) ?_;have hy:(encNf (l.getD U[i] nf0))=encNf (trimN U (l.getD U[i] nf0)):=by unfold trimN; rw [if_neg h2]; try rfl
  have ht:(U.take (i+1)).map (fun k=>trimN U (l.getD k nf0))=(U.take i).map (fun k=>trimN U (l.getD k nf0))++[trimN U (l.getD U[i] nf0)]:=by rw [List.take_succ_eq_append_getElem n1,List.map_append]; rfl
  refine Xi ⟨i+1,by omega⟩ ?_;exact ⟨Dl U.length i (by omega),⟨Zr,Zr,⟨(show AV.slice (.id 12 6) (((U.take i).map fun k=>trimN U (l.getD k nf0)).map encNf++[(encNf (l.getD U[i] nf0))])=.slice (.id 12 6) (((U.take (i+1)).map fun k=>trimN U (l.getD k nf0)).map encNf) by rw [ht,List.map_append,hy]; rfl),rfl⟩,Zr,Tv⟩,⟨⟨(show HO.tok 6 ((((U.take i).map fun k=>trimN U (l.getD k nf0)).map encNf).length+([(encNf (l.getD U[i] nf0))]:List (List AV)).length)=.tok 6 (i+1) by rw [Lm,hrl]; rfl),rfl⟩,Tv⟩,Fh,Tv⟩
 have h1:¬ ((i:Int)<((U.map encNat).length:Int)):=h1;have n1:¬ i<U.length:=by have q:=h1; rw [Lm] at q; omega
 exact .of_eq (show sl encNf ((U.take i).map fun k=>trimN U (l.getD k nf0))=sl encNf (trimL l target) by unfold trimL; rw [← hU,List.take_of_length_le (by omega)])
theorem e4 (l:List Nf) (target:Int) (hl:Few l) (ht:InI64 target):PC 4 [sl encNf l,vi (target:Int)] (vb true):=by
 have hUn:=usedL_len (l:=l) (target:=target);have hl0:l.length≤1073741824:=hl;have k17:=e17 (usedL l target) (usedL l target) (by unfold Few; omega);have k20:=e20 (trimL l target) (trimL l target) (by unfold Few trimL; rw [Lm]; omega);rw [decide_eq_true rfl] at k17 k20;refine Ps ⟨[],[],[],[],[],[],[],[],[],[],[]⟩ Tryz.func4 rfl (Nz rfl) ?_;refine Xi .pure (Xi _ (Yi e11 ?_));refine Yi (fun h1=>?_) (fun h1=>?_)
 ·have h1:(400:Int)<((l.map encNf).length:Int):=h1;have n1:400<l.length:=by have q:=h1; rw [Lm] at q; omega
  exact .refl _
 have h1:¬ ((400:Int)<((l.map encNf).length:Int)):=h1;have n1:¬ 400<l.length:=by have q:=h1; rw [Lm] at q; omega
 refine Xi .pure (Xi _ (Yi (e18 l target hl ht) ?_));refine Xi .pure (Xi _ (Yi (e19 l target hl ht) ?_));refine Xi .pure (Xi _ (Yi k17 ?_));refine Xi .pure (Xi _ (Yi (e21 l target hl ht) ?_));refine Xi .pure (Xi _ (Yi (e22 l target hl ht) ?_));refine Xi .pure (Xi _ (Yi k20 ?_));exact .refl _
end Go.Eng
