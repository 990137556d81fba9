/- Lemmas for the claims of this seat, without a condition: part 21 (E3, E4, E5, E6). -/
import Derived.Test.YtpgfieopnnkpfaaGreatDoorDA20
namespace Go.Eng
open Go.Proofs
theorem cat_ok {a b:ByteArray} (ha:a.size≤4000000000000000000) (hb:b.size≤4000000000000000000):((a.size+b.size:Nat):Int)≤9223372036854775807:=by omega
theorem canonF_lt:∀ {l:SpanL} {lo:Int},CanonF lo l→∀ x ∈ l,x.1<x.2:=by
 intro l
 induction l with
 | nil=>intro lo _ x hx; cases hx
 | cons y l ih =>
  intro lo h x hx;obtain ⟨h1,h2,h3,h4⟩:=h;rcases List.mem_cons.1 hx with rfl | hx
  ·omega
  ·exact ih h4 x hx
theorem canon_at (s:SpanL) (i:Nat) (h:i<(canon s).length):(0≤(canon s)[i].1∧(canon s)[i].1<(canon s)[i].2)∧(canon s)[i].2≤1000000:=by
 have h1:=canon_rng (canon_canon s) _ (List.getElem_mem h);have h2:=canonF_lt (canon_canon s) _ (List.getElem_mem h);omega
theorem fmt_at {m p:Int} (hm:0≤m∧m≤999) (hp:0≤p∧p<1000000):verF (atV m p)=plcT m p:=by
 have hv:validB ⟨m,p / 1000,p % 1000⟩=true:=by
  have h1:okPart m:=hm;have h2:okPart (p / 1000):=by unfold okPart; omega
  have h3:okPart (p % 1000):=by unfold okPart; omega
  unfold validB;rw [decide_eq_true h1,decide_eq_true h2,decide_eq_true h3]; rfl
 unfold atV;rw [if_pos ⟨hp.1,hp.2,hv⟩];unfold verF;rw [if_pos hv]; rfl
theorem fmt_size {m p:Int} (hm:0≤m∧m≤999) (hp:0≤p∧p<1000000):(verF (atV m p)).size≤65:=by rw [fmt_at hm hp]; exact plcT_size hm (by omega)
theorem span_bound {m:Int} (hm:0≤m∧m≤999) (s:SpanL):joinN bBar ((canon s).map (spanT m))≤281474976710656:=by
 have h:=joinB_size bBar 132 ((canon s).map (spanT m)) (fun x hx=>by
  obtain ⟨y,hy,rfl⟩:=List.mem_map.1 hx
  have:=canon_rng (canon_canon s) y hy
  exact spanT_size hm this.1 this.2)
 have hl:=canon_len (canon_canon s);rw [Lm] at h;have e:bBar.size=3:=rfl;rw [e] at h;show (joinB bBar ((canon s).map (spanT m))).size≤_;omega
abbrev spT (m:Int) (s:SpanL) (i:Nat):List ByteArray:=((canon s).take i).map (spanT m)
theorem spT_succ (m:Int) (s:SpanL) (i:Nat) (h:i<(canon s).length):spT m s (i+1)=spT m s i++[spanT m (canon s)[i]]:=by
 unfold spT; rw [List.take_succ_eq_append_getElem h,List.map_append]; rfl
set_option maxHeartbeats 4000000 in
theorem e98 (m:Int) (s:SpanL) (hM:0≤m∧m≤999) (hs:Few s):PC 98 [sl encSpan s,vi m] (.tup [vs (setT m s),vi 0]):=by
 have hM:0≤m∧m≤999:=hM;have hcl:=canon_len (canon_canon s);refine Ps ⟨[3],[(7,1)],[],[],[],[],[],[],[],[],[2,3,8,9,10,11,12,13,14,15,16,17,19,20]⟩ Tryz.func98 rfl (Nz rfl) ?_;refine Yi (fun hf=>absurd hf (show ¬ m<0 by omega)) (fun _=>?_);refine Yi (fun hf=>absurd hf (show ¬ (999:Int)<m by omega)) (fun _=>?_);refine Xi ⟨[(0,sl encSpan s),(3,.ref 3 0)],[(3,.ro [vi m])],hfree⟩ (Yi ⟨Z2,Z1,Fh,Tv⟩ ?_)
 refine Xi .pure (Xi _ (Yi (c102 s hs) ?_));refine Xi {i:Nat // i≤(canon s).length} (Xi (fun q=>⟨[(6,.clo 161 [.cptr [vi m]]),(7,.slice (.id 7 1) ((spT m s q.1).map encStr)),(18,sl encSpan (canon s)),(19,vi ((canon s).map encSpan).length),(20,vi q.1)],[(7,.tok 1 q.1)],hfree⟩) (Xi (fun q=>(canon s).length - q.1) (Yi (Xi ⟨0,Nat.zero_le _⟩ ?_) ?_)))
 ·exact ⟨Z5,Z1,Fh,Tv⟩
 intro ⟨i,i1⟩;have i1:i≤(canon s).length:=i1;have hrl:(spT m s i).length=i:=by unfold spT; rw [Lm,List.length_take]; omega
 have hrl2:((canon s).take i).length=i:=by rw [List.length_take]; omega
 refine Yi (fun h1=>?_) (fun h1=>?_)
 ·have h1:(i:Int)<(((canon s).map encSpan).length:Int):=h1;have n1:i<(canon s).length:=by have q:=h1; rw [Lm] at q; omega
  have g1:(canon s)[i]?=some (canon s)[i]:=Ge n1;have hca:=canon_at s i n1;refine Xi (encSpan ((canon s)[i])) (Yi (Yi (Nn i) (map_at g1)) (Yi rfl ?_));refine Yi (Nz rfl) ?_;refine Yi (Nz rfl) ?_;refine Xi ⟨[(6,.clo 161 [.cptr [vi m]]),(7,.slice (.id 7 1) ((spT m s i).map encStr)),(9,.ref 9 0),(18,sl encSpan (canon s)),(19,vi ((canon s).map encSpan).length),(20,vi i)],[(7,.tok 1 i),(9,.cells (encSpan ((canon s)[i])))],hfree⟩ (Yi ⟨Z6,Z2,Fh,Tv⟩ ?_)
  refine Yi (Nz rfl) ?_;refine Yi (fun h2=>?_) (fun h2=>?_)
  ·have h2:(((canon s)[i]).1:Int)=0∧(((canon s)[i]).2:Int)=1000000∧True:=h2;refine Xi ⟨[(6,.clo 161 [.cptr [vi m]]),(7,.slice (.id 7 1) ((spT m s i).map encStr)),(18,sl encSpan (canon s)),(19,vi ((canon s).map encSpan).length),(20,vi i)],[(7,.tok 1 i)],hfree⟩ (Yi ⟨Z5,Z1,Fh,Tv⟩ ?_)
   have b3:AllLen 1 [[vs ⟨#[42]⟩]]∧((spT m s i).map encStr).length=i∧(((spT m s i).map encStr).length+([[vs ⟨#[42]⟩]]:List (List AV)).length)*16≤140737488355328∧((spT m s i).map encStr).length+([[vs ⟨#[42]⟩]]:List (List AV)).length≤9223372036854775807:=⟨⟨rfl,trivial⟩,(by first | (simp; done) | (rw [Lm]; assumption)),(by simp only [Lm,List.length_cons,List.length_nil]; omega),(by simp only [Lm,List.length_cons,List.length_nil]; omega)⟩
   refine Yi b3 ?_;refine Xi ⟨[(6,.clo 161 [.cptr [vi m]]),(7,.slice (.id 7 1) (((spT m s i).map encStr)++[[vs ⟨#[42]⟩]])),(18,sl encSpan (canon s)),(19,vi ((canon s).map encSpan).length),(20,vi i)],[(7,.tok 1 (((spT m s i).map encStr).length+([[vs ⟨#[42]⟩]]:List (List AV)).length))],hfree⟩ (Yi ⟨Z5,Z1,Fh,Tv⟩ ?_)
   refine Yi (Ii i (by omega)) ?_;have hsp:spanT m ((canon s)[i])=⟨#[42]⟩:=by unfold spanT; (try dsimp only); rw [if_pos ⟨h2.1,h2.2.1⟩]
   refine Xi ⟨i+1,by omega⟩ ?_;exact ⟨by show (canon s).length - (i+1)<(canon s).length - i; omega,⟨Zr,⟨(show AV.slice (.id 7 1) ((spT m s i).map encStr++[[vs ⟨#[42]⟩]])=.slice (.id 7 1) ((spT m s (i+1)).map encStr) by rw [spT_succ m s i n1,List.map_append,← hsp]; rfl),rfl⟩,Zr,Zr,Zr,Tv⟩,⟨⟨(show HO.tok 1 (((spT m s i).map encStr).length+([[vs ⟨#[42]⟩]]:List (List AV)).length)=.tok 1 (i+1) by rw [Lm,hrl]; rfl),rfl⟩,Tv⟩,Fh,Tv⟩
  have h2:¬ ((((canon s)[i]).1:Int)=0∧(((canon s)[i]).2:Int)=1000000∧True):=h2;refine Xi ⟨[(6,.clo 161 [.cptr [vi m]]),(7,.slice (.id 7 1) ((spT m s i).map encStr)),(9,.ref 9 0),(18,sl encSpan (canon s)),(19,vi ((canon s).map encSpan).length),(20,vi i)],[(7,.tok 1 i),(9,.cells (encSpan ((canon s)[i])))],hfree⟩ (Yi ⟨Z6,Z2,Fh,Tv⟩ ?_)
  refine Yi (by show InI64 ((((canon s)[i]).1:Int)+(1:Int)); unfold InI64; omega) ?_;refine Yi (fun h5=>?_) (fun h5=>?_)
  ·have h5:(((canon s)[i]).2:Int)=(((canon s)[i]).1+1:Int):=h5;refine Xi ⟨[(6,.clo 161 [.cptr [vi m]]),(7,.slice (.id 7 1) ((spT m s i).map encStr)),(9,.ref 9 0),(18,sl encSpan (canon s)),(19,vi ((canon s).map encSpan).length),(20,vi i)],[(7,.tok 1 i),(9,.cells (encSpan ((canon s)[i])))],hfree⟩ (Yi ⟨Z6,Z2,Fh,Tv⟩ ?_)
   refine Xi .pure (Xi _ (Yi (e161 m ((canon s)[i]).1 (by unfold InI64; omega)) ?_));have b6:AllLen 1 [[vs (verF (atV m ((canon s)[i]).1))]]∧((spT m s i).map encStr).length=i∧(((spT m s i).map encStr).length+([[vs (verF (atV m ((canon s)[i]).1))]]:List (List AV)).length)*16≤140737488355328∧((spT m s i).map encStr).length+([[vs (verF (atV m ((canon s)[i]).1))]]:List (List AV)).length≤9223372036854775807:=⟨⟨rfl,trivial⟩,(by first | (simp; done) | (rw [Lm]; assumption)),(by simp only [Lm,List.length_cons,List.length_nil]; omega),(by simp only [Lm,List.length_cons,List.length_nil]; omega)⟩
   refine Yi b6 ?_;refine Xi ⟨[(6,.clo 161 [.cptr [vi m]]),(7,.slice (.id 7 1) (((spT m s i).map encStr)++[[vs (verF (atV m ((canon s)[i]).1))]])),(18,sl encSpan (canon s)),(19,vi ((canon s).map encSpan).length),(20,vi i)],[(7,.tok 1 (((spT m s i).map encStr).length+([[vs (verF (atV m ((canon s)[i]).1))]]:List (List AV)).length))],hfree⟩ (Yi ⟨Z5,Z1,Fh,Tv⟩ ?_)
   refine Yi (Ii i (by omega)) ?_;have hsp:spanT m ((canon s)[i])=(verF (atV m ((canon s)[i]).1)):=by unfold spanT; (try dsimp only); rw [if_neg (fun h=>h2 ⟨h.1,h.2,trivial⟩)]; rw [if_pos h5,fmt_at hM (by omega)]
   refine Xi ⟨i+1,by omega⟩ ?_;exact ⟨by show (canon s).length - (i+1)<(canon s).length - i; omega,⟨Zr,⟨(show AV.slice (.id 7 1) ((spT m s i).map encStr++[[vs (verF (atV m ((canon s)[i]).1))]])=.slice (.id 7 1) ((spT m s (i+1)).map encStr) by rw [spT_succ m s i n1,List.map_append,← hsp]; rfl),rfl⟩,Zr,Zr,Zr,Tv⟩,⟨⟨(show HO.tok 1 (((spT m s i).map encStr).length+([[vs (verF (atV m ((canon s)[i]).1))]]:List (List AV)).length)=.tok 1 (i+1) by rw [Lm,hrl]; rfl),rfl⟩,Tv⟩,Fh,Tv⟩
  have h5:¬ ((((canon s)[i]).2:Int)=(((canon s)[i]).1+1:Int)):=h5;refine Xi ⟨[(6,.clo 161 [.cptr [vi m]]),(7,.slice (.id 7 1) ((spT m s i).map encStr)),(9,.ref 9 0),(18,sl encSpan (canon s)),(19,vi ((canon s).map encSpan).length),(20,vi i)],[(7,.tok 1 i),(9,.cells (encSpan ((canon s)[i])))],hfree⟩ (Yi ⟨Z6,Z2,Fh,Tv⟩ ?_)
  refine Yi (fun h8=>?_) (fun h8=>?_)
  ·have h8:(((canon s)[i]).2:Int)=(1000000:Int):=h8;refine Xi ⟨[(6,.clo 161 [.cptr [vi m]]),(7,.slice (.id 7 1) ((spT m s i).map encStr)),(9,.ref 9 0),(18,sl encSpan (canon s)),(19,vi ((canon s).map encSpan).length),(20,vi i)],[(7,.tok 1 i),(9,.cells (encSpan ((canon s)[i])))],hfree⟩ (Yi ⟨Z6,Z2,Fh,Tv⟩ ?_)
   refine Xi .pure (Xi _ (Yi (e161 m ((canon s)[i]).1 (by unfold InI64; omega)) ?_));refine Yi (cat_ok (Nat.le_trans (fmt_size hM (p:=((canon s)[i]).1) (by omega)) (by decide)) (by decide)) ?_;have b9:AllLen 1 [[vs ((verF (atV m ((canon s)[i]).1))++⟨#[46,46]⟩)]]∧((spT m s i).map encStr).length=i∧(((spT m s i).map encStr).length+([[vs ((verF (atV m ((canon s)[i]).1))++⟨#[46,46]⟩)]]:List (List AV)).length)*16≤140737488355328∧((spT m s i).map encStr).length+([[vs ((verF (atV m ((canon s)[i]).1))++⟨#[46,46]⟩)]]:List (List AV)).length≤9223372036854775807:=⟨⟨rfl,trivial⟩,(by first | (simp; done) | (rw [Lm]; assumption)),(by simp only [Lm,List.length_cons,List.length_nil]; omega),(by simp only [Lm,List.length_cons,List.length_nil]; omega)⟩
   refine Yi b9 ?_;refine Xi ⟨[(6,.clo 161 [.cptr [vi m]]),(7,.slice (.id 7 1) (((spT m s i).map encStr)++[[vs ((verF (atV m ((canon s)[i]).1))++⟨#[46,46]⟩)]])),(18,sl encSpan (canon s)),(19,vi ((canon s).map encSpan).length),(20,vi i)],[(7,.tok 1 (((spT m s i).map encStr).length+([[vs ((verF (atV m ((canon s)[i]).1))++⟨#[46,46]⟩)]]:List (List AV)).length))],hfree⟩ (Yi ⟨Z5,Z1,Fh,Tv⟩ ?_)
   refine Yi (Ii i (by omega)) ?_;have hsp:spanT m ((canon s)[i])=((verF (atV m ((canon s)[i]).1))++⟨#[46,46]⟩):=by unfold spanT; (try dsimp only); rw [if_neg (fun h=>h2 ⟨h.1,h.2,trivial⟩)]; rw [if_neg h5]; rw [if_pos h8,fmt_at hM (by omega)]
   refine Xi ⟨i+1,by omega⟩ ?_;exact ⟨by show (canon s).length - (i+1)<(canon s).length - i; omega,⟨Zr,⟨(show AV.slice (.id 7 1) ((spT m s i).map encStr++[[vs ((verF (atV m ((canon s)[i]).1))++⟨#[46,46]⟩)]])=.slice (.id 7 1) ((spT m s (i+1)).map encStr) by rw [spT_succ m s i n1,List.map_append,← hsp]; rfl),rfl⟩,Zr,Zr,Zr,Tv⟩,⟨⟨(show HO.tok 1 (((spT m s i).map encStr).length+([[vs ((verF (atV m ((canon s)[i]).1))++⟨#[46,46]⟩)]]:List (List AV)).length)=.tok 1 (i+1) by rw [Lm,hrl]; rfl),rfl⟩,Tv⟩,Fh,Tv⟩
  have h8:¬ ((((canon s)[i]).2:Int)=(1000000:Int)):=h8;refine Xi ⟨[(6,.clo 161 [.cptr [vi m]]),(7,.slice (.id 7 1) ((spT m s i).map encStr)),(9,.ref 9 0),(18,sl encSpan (canon s)),(19,vi ((canon s).map encSpan).length),(20,vi i)],[(7,.tok 1 i),(9,.cells (encSpan ((canon s)[i])))],hfree⟩ (Yi ⟨Z6,Z2,Fh,Tv⟩ ?_)
  refine Yi (fun h11=>?_) (fun h11=>?_)
  ·have h11:(((canon s)[i]).1:Int)=(0:Int):=h11;refine Xi ⟨[(6,.clo 161 [.cptr [vi m]]),(7,.slice (.id 7 1) ((spT m s i).map encStr)),(9,.ref 9 0),(18,sl encSpan (canon s)),(19,vi ((canon s).map encSpan).length),(20,vi i)],[(7,.tok 1 i),(9,.cells (encSpan ((canon s)[i])))],hfree⟩ (Yi ⟨Z6,Z2,Fh,Tv⟩ ?_)
   refine Xi .pure (Xi _ (Yi (e161 m ((canon s)[i]).2 (by unfold InI64; omega)) ?_));refine Yi (cat_ok (by decide) (Nat.le_trans (fmt_size hM (p:=((canon s)[i]).2) (by omega)) (by decide))) ?_;have b12:AllLen 1 [[vs (⟨#[46,46]⟩++(verF (atV m ((canon s)[i]).2)))]]∧((spT m s i).map encStr).length=i∧(((spT m s i).map encStr).length+([[vs (⟨#[46,46]⟩++(verF (atV m ((canon s)[i]).2)))]]:List (List AV)).length)*16≤140737488355328∧((spT m s i).map encStr).length+([[vs (⟨#[46,46]⟩++(verF (atV m ((canon s)[i]).2)))]]:List (List AV)).length≤9223372036854775807:=⟨⟨rfl,trivial⟩,(by first | (simp; done) | (rw [Lm]; assumption)),(by simp only [Lm,List.length_cons,List.length_nil]; omega),(by simp only [Lm,List.length_cons,List.length_nil]; omega)⟩
   refine Yi b12 ?_;refine Xi ⟨[(6,.clo 161 [.cptr [vi m]]),(7,.slice (.id 7 1) (((spT m s i).map encStr)++[[vs (⟨#[46,46]⟩++(verF (atV m ((canon s)[i]).2)))]])),(18,sl encSpan (canon s)),(19,vi ((canon s).map encSpan).length),(20,vi i)],[(7,.tok 1 (((spT m s i).map encStr).length+([[vs (⟨#[46,46]⟩++(verF (atV m ((canon s)[i]).2)))]]:List (List AV)).length))],hfree⟩ (Yi ⟨Z5,Z1,Fh,Tv⟩ ?_)
   refine Yi (Ii i (by omega)) ?_;have hsp:spanT m ((canon s)[i])=(⟨#[46,46]⟩++(verF (atV m ((canon s)[i]).2))):=by unfold spanT; (try dsimp only); rw [if_neg (fun h=>h2 ⟨h.1,h.2,trivial⟩)]; rw [if_neg h5]; rw [if_neg h8]; rw [if_pos h11,fmt_at hM (by omega)]
   refine Xi ⟨i+1,by omega⟩ ?_;exact ⟨by show (canon s).length - (i+1)<(canon s).length - i; omega,⟨Zr,⟨(show AV.slice (.id 7 1) ((spT m s i).map encStr++[[vs (⟨#[46,46]⟩++(verF (atV m ((canon s)[i]).2)))]])=.slice (.id 7 1) ((spT m s (i+1)).map encStr) by rw [spT_succ m s i n1,List.map_append,← hsp]; rfl),rfl⟩,Zr,Zr,Zr,Tv⟩,⟨⟨(show HO.tok 1 (((spT m s i).map encStr).length+([[vs (⟨#[46,46]⟩++(verF (atV m ((canon s)[i]).2)))]]:List (List AV)).length)=.tok 1 (i+1) by rw [Lm,hrl]; rfl),rfl⟩,Tv⟩,Fh,Tv⟩
  have h11:¬ ((((canon s)[i]).1:Int)=(0:Int)):=h11;refine Xi ⟨[(6,.clo 161 [.cptr [vi m]]),(7,.slice (.id 7 1) ((spT m s i).map encStr)),(9,.ref 9 0),(18,sl encSpan (canon s)),(19,vi ((canon s).map encSpan).length),(20,vi i)],[(7,.tok 1 i),(9,.cells (encSpan ((canon s)[i])))],hfree⟩ (Yi ⟨Z6,Z2,Fh,Tv⟩ ?_)
  refine Xi _ (Yi (e161 m ((canon s)[i]).1 (by unfold InI64; omega)) ?_);refine Yi (cat_ok (Nat.le_trans (fmt_size hM (p:=((canon s)[i]).1) (by omega)) (by decide)) (by decide)) ?_;refine Xi _ (Yi (e161 m ((canon s)[i]).2 (by unfold InI64; omega)) ?_);refine Yi (cat_ok (by have q:=fmt_size hM (p:=(canon s)[i].1) (by omega); rw [bsize_app]; show _+2≤_; omega) (Nat.le_trans (fmt_size hM (p:=((canon s)[i]).2) (by omega)) (by decide))) ?_;have b14:AllLen 1 [[vs (((verF (atV m ((canon s)[i]).1))++⟨#[46,46]⟩)++(verF (atV m ((canon s)[i]).2)))]]∧((spT m s i).map encStr).length=i∧(((spT m s i).map encStr).length+([[vs (((verF (atV m ((canon s)[i]).1))++⟨#[46,46]⟩)++(verF (atV m ((canon s)[i]).2)))]]:List (List AV)).length)*16≤140737488355328∧((spT m s i).map encStr).length+([[vs (((verF (atV m ((canon s)[i]).1))++⟨#[46,46]⟩)++(verF (atV m ((canon s)[i]).2)))]]:List (List AV)).length≤9223372036854775807:=⟨⟨rfl,trivial⟩,(by first | (simp; done) | (rw [Lm]; assumption)),(by simp only [Lm,List.length_cons,List.length_nil]; omega),(by simp only [Lm,List.length_cons,List.length_nil]; omega)⟩
  refine Yi b14 ?_;refine Yi (by kernel_rfl) ?_;refine Xi ⟨[(6,.clo 161 [.cptr [vi m]]),(7,.slice (.id 7 1) (((spT m s i).map encStr)++[[vs (((verF (atV m ((canon s)[i]).1))++⟨#[46,46]⟩)++(verF (atV m ((canon s)[i]).2)))]])),(18,sl encSpan (canon s)),(19,vi ((canon s).map encSpan).length),(20,vi i)],[(7,.tok 1 (((spT m s i).map encStr).length+([[vs (((verF (atV m ((canon s)[i]).1))++⟨#[46,46]⟩)++(verF (atV m ((canon s)[i]).2)))]]:List (List AV)).length))],hfree⟩ (Yi ⟨Z5,Z1,Fh,Tv⟩ ?_)
  refine Yi (Ii i (by omega)) ?_;have hsp:spanT m ((canon s)[i])=(((verF (atV m ((canon s)[i]).1))++⟨#[46,46]⟩)++(verF (atV m ((canon s)[i]).2))):=by unfold spanT; (try dsimp only); rw [if_neg (fun h=>h2 ⟨h.1,h.2,trivial⟩)]; rw [if_neg h5]; rw [if_neg h8]; rw [if_neg h11,fmt_at hM (by omega),fmt_at hM (by omega)]
  refine Xi ⟨i+1,by omega⟩ ?_;exact ⟨by show (canon s).length - (i+1)<(canon s).length - i; omega,⟨Zr,⟨(show AV.slice (.id 7 1) ((spT m s i).map encStr++[[vs (((verF (atV m ((canon s)[i]).1))++⟨#[46,46]⟩)++(verF (atV m ((canon s)[i]).2)))]])=.slice (.id 7 1) ((spT m s (i+1)).map encStr) by rw [spT_succ m s i n1,List.map_append,← hsp]; rfl),rfl⟩,Zr,Zr,Zr,Tv⟩,⟨⟨(show HO.tok 1 (((spT m s i).map encStr).length+([[vs (((verF (atV m ((canon s)[i]).1))++⟨#[46,46]⟩)++(verF (atV m ((canon s)[i]).2)))]]:List (List AV)).length)=.tok 1 (i+1) by rw [Lm,hrl]; rfl),rfl⟩,Tv⟩,Fh,Tv⟩
 have h1:¬ ((i:Int)<(((canon s).map encSpan).length:Int)):=h1;have n1:¬ i<(canon s).length:=by have q:=h1; rw [Lm] at q; omega
 refine Yi (fun h16=>?_) (fun h16=>?_)
 ·have h16:(((spT m s i).map encStr).length:Int)=(0:Int):=h16;refine Xi ⟨[],[],hfree⟩ (Yi ⟨Tv,Tv,Fh,Tv⟩ ?_)
  exact .of_eq (show AV.tup [vs bNone,vi 0]=.tup [vs (setT m s),vi 0] by unfold setT; rw [if_pos (List.eq_nil_of_length_eq_zero (by have q:=h16; rw [Lm,hrl] at q; omega))])
 have h16:¬ ((((spT m s i).map encStr).length:Int)=(0:Int)):=h16;refine Xi ⟨[(7,.slice (.id 7 1) ((spT m s i).map encStr))],[(7,.tok 1 i)],hfree⟩ (Yi ⟨Z1,Z1,Fh,Tv⟩ ?_)
 have e49v:=e49 ((canon s).map (spanT m)) bBar (by rw [Lm]; have:=canon_len (canon_canon s); omega) (span_bound hM s);have ej:(canon s).take i=canon s:=List.take_of_length_le (by omega);refine Xi .pure (Xi _ (Yi (show PC 49 [sl encStr (spT m s i),vs bBar] (vs (joinB bBar ((canon s).map (spanT m)))) by unfold spT; rw [ej]; exact e49v) ?_));exact .of_eq (show AV.tup [vs (joinB bBar ((canon s).map (spanT m))),vi 0]=.tup [vs (setT m s),vi 0] by unfold setT; rw [if_neg (fun h=>by have q:=h16; rw [Lm,hrl] at q; rw [h] at i1; simp at i1; omega)])
end Go.Eng

namespace Go.Eng
open Go.Proofs
def lnT (p:ByteArray):ByteArray:=match pathMajor p with | none=>⟨#[]⟩ | some _=>lineNm p
def lnE (p:ByteArray):Int:=match pathMajor p with | none=>4 | some _=>0
theorem e32 (p:ByteArray) (hp:FewS p):PC 32 [vs p] (.tup [vs (lnT p),vi (majorP p),vi (lnE p)]):=by
 have h:=c155 p hp;have e:lineV lineNm p=.tup [vs (lnT p),vi (majorP p),vi (lnE p)]:=by
  unfold lineV lnT lnE majorP;cases pathMajor p <;> rfl
 rwa [e] at h
theorem at_T (p:ByteArray) (pl:Int):verF (atV (majorP p) pl)=atT p pl:=by
 unfold atT;split
 ·rename_i h; exact fmt_at (majorP_rng p) h
 ·rename_i h
  have:atV (majorP p) pl=⟨0,0,0⟩:=by unfold atV; rw [if_neg (fun q=>h ⟨q.1,q.2.1⟩)]
  rw [this]; rfl
theorem atT_size (p:ByteArray) (pl:Int):(atT p pl).size≤65:=by
 unfold atT;split
 ·exact plcT_size (majorP_rng p) (by omega)
 ·exact verT_size (by decide) (by decide) (by decide)
theorem words_bound {B:Nat} {l:List ByteArray} (h:∀ x ∈ l,x.size≤B) (hl:l.length*(B+1)≤281474976710656):joinN bBlank l≤281474976710656:=by
 have:=joinB_size bBlank B l h
 show (joinB bBlank l).size≤_;have e:bBlank.size=1:=rfl;rw [e] at this; omega
theorem term_words (p s:ByteArray):wordsB [p,s]=p++bBlank++s:=by unfold wordsB; rw [joinB_two,bapp_assoc]
abbrev FewP (p:ByteArray):Prop:=p.size≤1048576
theorem FewP.s {p:ByteArray} (h:FewP p):FewS p:=by unfold FewS; unfold FewP at h; omega
theorem setP_size (p:ByteArray) (s:SpanL):(setP p s).size≤135000004:=setT_size (majorP_rng p) s
theorem two_bound {p:ByteArray} (hp:FewP p) (s:SpanL):joinN bBlank [p,setP p s]≤281474976710656:=words_bound (B:=136000000) (fun x hx=>by
 unfold FewP at hp;rcases List.mem_cons.1 hx with rfl | hx
 ·omega
 ·rw [List.mem_singleton.1 hx]; have:=setP_size p s; omega) (by simp)
theorem e99 (p:ByteArray) (hp:FewS p):PC 99 [vs p] (vi (majorP p)):=by
 refine Ps ⟨[],[],[],[],[],[],[],[],[],[],[]⟩ Tryz.func99 rfl (Nz rfl) ?_;refine Xi .pure (Xi _ (Yi (e32 p hp) ?_));exact .refl _
theorem e45 (p:ByteArray) (s:SpanL) (hp:FewS p) (hs:Few s):PC 45 [vs p,sl encSpan s] (vs (setP p s)):=by
 refine Ps ⟨[],[],[],[],[],[],[],[],[],[],[]⟩ Tryz.func45 rfl (Nz rfl) ?_;refine Xi .pure (Xi _ (Yi (e99 p hp) ?_));refine Xi .pure (Xi _ (Yi (e98 (majorP p) s (majorP_rng p) hs) ?_));exact .refl _
set_option maxHeartbeats 4000000 in
theorem e75 (p:ByteArray) (pl:Int) (hp:FewS p) (hpl:InI64 pl):PC 75 [vs p,vi pl] (vs (atT p pl)):=by
 obtain ⟨m,hmm⟩ : ∃ m,m=majorP p:=⟨_,rfl⟩;have h99:=e99 p hp;rw [← hmm] at h99;refine Ps ⟨[],[],[],[],[],[],[],[],[],[],[]⟩ Tryz.func75 rfl (Nz rfl) ?_;refine Xi .pure (Xi _ (Yi h99 ?_));refine Xi .pure (Xi _ (Yi (e130 m pl hpl) ?_));refine Yi (Nz rfl) ?_;refine Yi (Nz rfl) ?_;refine Xi .pure (Xi _ (Yi (e78 (atV m pl)) ?_));exact .of_eq (show vs (verF (atV m pl))=vs (atT p pl) by rw [hmm,at_T])
theorem e44 (l:List ByteArray) (hl:l.length≤1073741824) (hj:joinN bBlank l≤281474976710656):PC 44 [sl encStr l] (vs (wordsB l)):=by
 refine Ps ⟨[],[],[],[],[],[],[],[],[],[],[]⟩ Tryz.func44 rfl (Nz rfl) ?_;refine Xi .pure (Xi _ (Yi (e49 l bBlank hl hj) ?_));exact .refl _
theorem e13 (t:Tm) (hp:FewP t.path) (hs:Few t.set):PC 13 [.agg (encTm t)] (vs (termT t)):=by
 have hcs:Few (compl t.set):=by have:=canon_len (compl_canon t.set); unfold Few; omega
 refine Ps ⟨[],[],[],[],[],[],[],[],[],[],[]⟩ Tryz.func13 rfl (Nz rfl) ?_;refine Yi (fun h1=>?_) (fun h1=>?_)
 ·have h1:t.absent=true:=h1;refine Xi _ (Yi (c103 t.set hs) ?_);refine Xi _ (Yi (e45 t.path (compl t.set) hp.s hcs) ?_);refine Xi _ (Yi (e44 [t.path,(setP t.path (compl t.set))] (by simp) (two_bound hp (compl t.set))) ?_);refine Yi (by kernel_rfl) ?_;exact .of_eq (show vs (wordsB [t.path,(setP t.path (compl t.set))])=vs (termT t) by rw [term_words]; unfold termT; rw [h1]; rfl)
 have h1:t.absent=false:=h1;refine Xi _ (Yi (e45 t.path t.set hp.s hs) ?_);refine Xi _ (Yi (e44 [t.path,(setP t.path t.set)] (by simp) (two_bound hp t.set)) ?_);refine Yi (by kernel_rfl) ?_;exact .of_eq (show vs (wordsB [t.path,(setP t.path t.set)])=vs (termT t) by rw [term_words]; unfold termT; rw [h1]; rfl)
end Go.Eng

namespace Go.Eng
open Go.Proofs
theorem incText_some {l:List Tm} (h:(canonT l).isSome=true):incText l=incF (ofT l):=by
 unfold incText ofT;cases e:canonT l with
 | none=>rw [e] at h; cases h
 | some c=>rfl
theorem incText_none {l:List Tm} (h:(canonT l).isSome=false):incText l=bNothing:=by
 unfold incText;cases e:canonT l with
 | none=>rfl
 | some c=>rw [e] at h; cases h
theorem ofT_mem {l:List Tm} (h:(canonT l).isSome=true):canonT l=some (ofT l):=by
 unfold ofT;cases e:canonT l with
 | none=>rw [e] at h; cases h
 | some c=>rfl
def incW (c:List Tm):ByteArray :=
 if c.length=0 then bThis else if (needL c).length=0∧(haveL c).length=1 then wordsB [joinB bAnd (haveL c),⟨#[105,115,32,105,109,112,111,115,115,105,98,108,101]⟩] else if (needL c).length=0 then wordsB [joinB bAnd (haveL c),⟨#[100,111,32,110,111,116,32,103,111,32,116,111,103,101,116,104,101,114]⟩]
 else if (haveL c).length=0 then wordsB [joinB bOr (needL c),⟨#[105,115,32,110,101,101,100,101,100]⟩] else if (haveL c).length=1 then wordsB [joinB bAnd (haveL c),⟨#[110,101,101,100,115]⟩,joinB bOr (needL c)] else wordsB [joinB bAnd (haveL c),⟨#[110,101,101,100]⟩,joinB bOr (needL c)]
theorem hn_len (c:List Tm):(haveL c).length+(needL c).length=c.length:=by
 unfold haveL needL;rw [Lm,Lm]
 induction c with
 | nil=>rfl
 | cons t c ih=>cases h:t.absent <;> simp only [List.filter_cons,h,Bool.not_true,Bool.not_false,if_true,if_false,List.length_cons,Bool.false_eq_true] <;> omega
theorem w_two (a b:ByteArray):wordsB [a,b]=a++(bBlank++b):=by unfold wordsB; rw [joinB_two]
theorem w_three (a b c:ByteArray):wordsB [a,b,c]=a++(bBlank++b++bBlank)++c:=by unfold wordsB; rw [joinB_cons,joinB_two]; simp only [bapp_assoc]
theorem inc_W (c:List Tm):incW c=incF c:=by
 have hl:=hn_len c;unfold incW incF;have z1:(needL c=[])↔(needL c).length=0:=by rw [List.length_eq_zero_iff]
 have z2:(haveL c=[])↔(haveL c).length=0:=by rw [List.length_eq_zero_iff]
 have b1:bBlank++(⟨#[105,115,32,105,109,112,111,115,115,105,98,108,101]⟩ : ByteArray)=bImp:=bext (by decide +kernel);have b2:bBlank++(⟨#[100,111,32,110,111,116,32,103,111,32,116,111,103,101,116,104,101,114]⟩ : ByteArray)=bDo:=bext (by decide +kernel);have b3:bBlank++(⟨#[105,115,32,110,101,101,100,101,100]⟩ : ByteArray)=bNeeded:=bext (by decide +kernel);have b4:bBlank++(⟨#[110,101,101,100,115]⟩ : ByteArray)++bBlank=bNeeds:=bext (by decide +kernel);have b5:bBlank++(⟨#[110,101,101,100]⟩ : ByteArray)++bBlank=bNeed:=bext (by decide +kernel);simp only [z1,z2,w_two,w_three,b1,b2,b3,b4,b5]
 by_cases h1:(needL c).length=0 <;> by_cases h2:(haveL c).length=0 <;> by_cases h3:(haveL c).length=1 <;> by_cases h4:c.length=0 <;> first | omega | simp [h1,h2,h3,h4]
theorem have_succ (c:List Tm) (i:Nat) (h:i<c.length):haveL (c.take (i+1))=if c[i].absent then haveL (c.take i) else haveL (c.take i)++[termT c[i]]:=by
 unfold haveL;rw [List.take_succ_eq_append_getElem h,List.filter_append,List.map_append];cases e:c[i].absent <;> simp [e]
theorem need_succ (c:List Tm) (i:Nat) (h:i<c.length):needL (c.take (i+1))=if c[i].absent then needL (c.take i)++[termT c[i]] else needL (c.take i):=by
 unfold needL;rw [List.take_succ_eq_append_getElem h,List.filter_append,List.map_append];cases e:c[i].absent <;> simp [e]
theorem texts_size {sep:ByteArray} (hs:sep.size≤5) {c:List Tm} {l:List ByteArray} (hp:∀ t ∈ c,FewP t.path) (hl:∀ x ∈ l,∃ t ∈ c,x=termT t) (hn:l.length≤500000):(joinB sep l).size≤70000100000000:=by
 have:=joinB_size sep 140000000 l (fun x hx=>by
  obtain ⟨t,ht,rfl⟩:=hl x hx;exact termT_size (hp t ht))
 have h2:l.length*(140000000+sep.size)≤500000*(140000000+5):=Nat.mul_le_mul hn (by omega);omega
theorem have_mem (c:List Tm):∀ x ∈ haveL c,∃ t ∈ c,x=termT t:=fun x hx=>by
 obtain ⟨t,ht,rfl⟩:=List.mem_map.1 hx;exact ⟨t,(List.mem_filter.1 ht).1,rfl⟩
theorem need_mem (c:List Tm):∀ x ∈ needL c,∃ t ∈ c,x=termT t:=fun x hx=>by
 obtain ⟨t,ht,rfl⟩:=List.mem_map.1 hx;exact ⟨t,(List.mem_filter.1 ht).1,rfl⟩
theorem canonT_paths {l c:List Tm} (h:canonT l=some c):∀ t ∈ c,∃ u ∈ l,t.path=u.path:=fun t ht=>by
 have:=(canonT_in (U:=l.map (·.path)) h fun u hu=>List.mem_map.2 ⟨u,hu,rfl⟩).2 t ht
 obtain ⟨u,hu,e⟩:=List.mem_map.1 this;exact ⟨u,hu,e.symm⟩
set_option maxHeartbeats 4000000 in
theorem e15 (l:List Tm) (hl:l.length≤500000) (hs:∀ t ∈ l,Few t.set) (hp:∀ t ∈ l,FewP t.path):PC 15 [sl encTm l] (vs (incText l)):=by
 have hl:l.length≤500000:=hl;have h30:=c29 l (by unfold Few; omega) hs;unfold canRes at h30;obtain ⟨c,hc0⟩ : ∃ c,c=ofT l:=⟨_,rfl⟩;rw [← hc0] at h30;refine Ps ⟨[],[(5,1),(6,1)],[],[],[],[],[],[],[],[],[2,5,8,11,13,14,15,16,17,18,19,20,21,22,23]⟩ Tryz.func15 rfl (Nz rfl) ?_;refine Or.elim (Bt (canonT l).isSome) (fun h1=>?_) (fun h1=>?_)
 ·have h1:(canonT l).isSome=true:=h1;have hcs:(canonT l).isSome=true:=h1;have hcd:c=ofT l:=hc0;have hce:canonT l=some c:=by rw [hcd]; exact ofT_mem hcs
  have hcl:c.length≤500000:=Nat.le_trans (canT_len hce) hl;have hcp:∀ t ∈ c,FewP t.path:=fun t ht=>by
   obtain ⟨u,hu,e⟩:=canonT_paths hce t ht;rw [e]; exact hp u hu
  have hcf:∀ t ∈ c,Few t.set:=fun t ht=>few_can ((canonT_sorted hce).canon t ht);obtain ⟨PP,hPP⟩ : ∃ PP,PP=joinB bAnd (haveL c):=⟨_,rfl⟩;obtain ⟨NN,hNN⟩ : ∃ NN,NN=joinB bOr (needL c):=⟨_,rfl⟩;have hPs:(haveL c).length≤500000→PP.size≤70000100000000:=fun h=>by rw [hPP]; exact texts_size (by decide) hcp (have_mem c) h
  have hNs:(needL c).length≤500000→NN.size≤70000100000000:=fun h=>by rw [hNN]; exact texts_size (by decide) hcp (need_mem c) h
  have hc2:=h30;rw [show (canonT l).isSome=true from h1] at hc2;refine Xi .pure (Xi _ (Yi hc2 ?_));refine Xi ⟨[(3,sl encTm c),(4,vb true)],[],hfree⟩ (Yi ⟨Z2,Tv,Fh,Tv⟩ ?_)
  refine Xi ⟨[(3,sl encTm c),(5,.slice (.id 5 1) []),(6,.slice (.id 6 1) [])],[(5,.tok 1 0),(6,.tok 1 0)],hfree⟩ (Yi ⟨Z3,Z2,Fh,Tv⟩ ?_)
  refine Xi {i:Nat // i≤c.length} (Xi (fun q=>⟨[(3,sl encTm c),(5,.slice (.id 5 1) ((haveL (c.take q.1)).map encStr)),(6,.slice (.id 6 1) ((needL (c.take q.1)).map encStr)),(18,sl encTm c),(19,vi (c.map encTm).length),(20,vi q.1)],[(5,.tok 1 (haveL (c.take q.1)).length),(6,.tok 1 (needL (c.take q.1)).length)],hfree⟩) (Xi (fun q=>c.length - q.1) (Yi (Xi ⟨0,Nat.zero_le _⟩ ?_) ?_)))
  ·exact ⟨Z6,Z2,Fh,Tv⟩
  intro ⟨i,i1⟩;have i1:i≤c.length:=i1;have hl1:=hn_len (c.take i);rw [List.length_take,Nat.min_eq_left i1] at hl1;have hv1:(haveL (c.take i)).length≤500000:=by omega
  have hv2:(needL (c.take i)).length≤500000:=by omega
  refine Yi (fun h3=>?_) (fun h3=>?_)
  ·have h3:(i:Int)<((c.map encTm).length:Int):=h3;have n3:i<c.length:=by have q:=h3; rw [Lm] at q; omega
   have g3:c[i]?=some c[i]:=Ge n3;refine Xi (encTm c[i]) (Yi (Yi (Nn i) (map_at g3)) (Yi rfl ?_));refine Yi (Nz rfl) ?_;refine Yi (Nz rfl) ?_;refine Xi ⟨[(3,sl encTm c),(5,.slice (.id 5 1) ((haveL (c.take i)).map encStr)),(6,.slice (.id 6 1) ((needL (c.take i)).map encStr)),(8,.ref 8 0),(18,sl encTm c),(19,vi (c.map encTm).length),(20,vi i)],[(5,.tok 1 (haveL (c.take i)).length),(6,.tok 1 (needL (c.take i)).length),(8,.cells (encTm c[i]))],hfree⟩ (Yi ⟨Z7,Z3,Fh,Tv⟩ ?_)
   refine Yi (fun h4=>?_) (fun h4=>?_)
   ·have h4:c[i].absent=true:=h4;refine Yi (Nz rfl) ?_;refine Xi .pure (Xi _ (Yi (e13 c[i] (hcp _ (List.getElem_mem n3)) (hcf _ (List.getElem_mem n3))) ?_));have b5:AllLen 1 [[vs (termT c[i])]]∧((needL (c.take i)).map encStr).length=(needL (c.take i)).length∧(((needL (c.take i)).map encStr).length+([[vs (termT c[i])]]:List (List AV)).length)*16≤140737488355328∧((needL (c.take i)).map encStr).length+([[vs (termT c[i])]]:List (List AV)).length≤9223372036854775807:=⟨⟨rfl,trivial⟩,(by rw [Lm]),(by simp only [Lm,List.length_cons,List.length_nil]; omega),(by simp only [Lm,List.length_cons,List.length_nil]; omega)⟩;refine Yi b5 ?_;refine Xi ⟨[(3,sl encTm c),(5,.slice (.id 5 1) ((haveL (c.take i)).map encStr)),(6,.slice (.id 6 1) (((needL (c.take i)).map encStr)++[[vs (termT c[i])]])),(18,sl encTm c),(19,vi (c.map encTm).length),(20,vi i)],[(5,.tok 1 (haveL (c.take i)).length),(6,.tok 1 (((needL (c.take i)).map encStr).length+([[vs (termT c[i])]]:List (List AV)).length))],hfree⟩ (Yi ⟨Z6,Z2,Fh,Tv⟩ ?_)
    refine Yi (Ii i (by omega)) ?_;have hs1:=have_succ c i n3;have hs2:=need_succ c i n3;rw [show c[i].absent=true from h4] at hs1 hs2;simp only [if_true] at hs1 hs2;refine Xi ⟨i+1,by omega⟩ ?_;exact ⟨Dl c.length i (by omega),⟨Zr,⟨(show AV.slice (.id 5 1) ((haveL (c.take i)).map encStr)=.slice (.id 5 1) ((haveL (c.take (i+1))).map encStr) by rw [hs1]),rfl⟩,⟨(show AV.slice (.id 6 1) ((needL (c.take i)).map encStr++[[vs (termT c[i])]])=.slice (.id 6 1) ((needL (c.take (i+1))).map encStr) by rw [hs2,List.map_append]; rfl),rfl⟩,Zr,Zr,Zr,Tv⟩,⟨⟨(show HO.tok 1 (haveL (c.take i)).length=.tok 1 (haveL (c.take (i+1))).length by rw [hs1]),rfl⟩,⟨(show HO.tok 1 (((needL (c.take i)).map encStr).length+([[vs (termT c[i])]]:List (List AV)).length)=.tok 1 (needL (c.take (i+1))).length by rw [hs2,List.length_append,Lm]; rfl),rfl⟩,Tv⟩,Fh,Tv⟩
   have h4:c[i].absent=false:=h4;refine Yi (Nz rfl) ?_;refine Xi .pure (Xi _ (Yi (e13 c[i] (hcp _ (List.getElem_mem n3)) (hcf _ (List.getElem_mem n3))) ?_));have b7:AllLen 1 [[vs (termT c[i])]]∧((haveL (c.take i)).map encStr).length=(haveL (c.take i)).length∧(((haveL (c.take i)).map encStr).length+([[vs (termT c[i])]]:List (List AV)).length)*16≤140737488355328∧((haveL (c.take i)).map encStr).length+([[vs (termT c[i])]]:List (List AV)).length≤9223372036854775807:=⟨⟨rfl,trivial⟩,(by rw [Lm]),(by simp only [Lm,List.length_cons,List.length_nil]; omega),(by simp only [Lm,List.length_cons,List.length_nil]; omega)⟩;refine Yi b7 ?_;refine Xi ⟨[(3,sl encTm c),(5,.slice (.id 5 1) (((haveL (c.take i)).map encStr)++[[vs (termT c[i])]])),(6,.slice (.id 6 1) ((needL (c.take i)).map encStr)),(18,sl encTm c),(19,vi (c.map encTm).length),(20,vi i)],[(5,.tok 1 (((haveL (c.take i)).map encStr).length+([[vs (termT c[i])]]:List (List AV)).length)),(6,.tok 1 (needL (c.take i)).length)],hfree⟩ (Yi ⟨Z6,Z2,Fh,Tv⟩ ?_)
   refine Yi (Ii i (by omega)) ?_;have hs1:=have_succ c i n3;have hs2:=need_succ c i n3;rw [show c[i].absent=false from h4] at hs1 hs2;simp only [Bool.false_eq_true,if_false] at hs1 hs2;refine Xi ⟨i+1,by omega⟩ ?_;exact ⟨Dl c.length i (by omega),⟨Zr,⟨(show AV.slice (.id 5 1) ((haveL (c.take i)).map encStr++[[vs (termT c[i])]])=.slice (.id 5 1) ((haveL (c.take (i+1))).map encStr) by rw [hs1,List.map_append]; rfl),rfl⟩,⟨(show AV.slice (.id 6 1) ((needL (c.take i)).map encStr)=.slice (.id 6 1) ((needL (c.take (i+1))).map encStr) by rw [hs2]),rfl⟩,Zr,Zr,Zr,Tv⟩,⟨⟨(show HO.tok 1 (((haveL (c.take i)).map encStr).length+([[vs (termT c[i])]]:List (List AV)).length)=.tok 1 (haveL (c.take (i+1))).length by rw [hs1,List.length_append,Lm]; rfl),rfl⟩,⟨(show HO.tok 1 (needL (c.take i)).length=.tok 1 (needL (c.take (i+1))).length by rw [hs2]),rfl⟩,Tv⟩,Fh,Tv⟩
  have h3:¬ ((i:Int)<((c.map encTm).length:Int)):=h3;have n3:¬ i<c.length:=by have q:=h3; rw [Lm] at q; omega
  have ej:c.take i=c:=List.take_of_length_le (by omega);rw [ej] at hv1 hv2;refine Xi .pure (Xi _ (Yi (show PC 49 [sl encStr (haveL (c.take i)),vs bAnd] (vs PP) by rw [ej,hPP]; exact e49 (haveL c) bAnd (by omega) (Nat.le_trans (texts_size (by decide) hcp (have_mem c) hv1) (by decide))) ?_));refine Xi .pure (Xi _ (Yi (show PC 49 [sl encStr (needL (c.take i)),vs bOr] (vs NN) by rw [ej,hNN]; exact e49 (needL c) bOr (by omega) (Nat.le_trans (texts_size (by decide) hcp (need_mem c) hv2) (by decide))) ?_));refine Xi ⟨[(3,sl encTm c),(5,.slice (.id 5 1) ((haveL (c.take i)).map encStr)),(6,.slice (.id 6 1) ((needL (c.take i)).map encStr)),(9,vs PP),(10,vs NN)],[(5,.tok 1 (haveL (c.take i)).length),(6,.tok 1 (needL (c.take i)).length)],hfree⟩ (Yi ⟨Z5,Z2,Fh,Tv⟩ ?_)
  refine Yi (fun h9=>?_) (fun h9=>?_)
  ·have h9:((c.map encTm).length:Int)=(0:Int):=h9;refine Xi ⟨[],[],hfree⟩ (Yi ⟨Tv,Tv,Fh,Tv⟩ ?_)
   exact .of_eq (show vs ⟨#[116,104,105,115,32,105,115,32,105,109,112,111,115,115,105,98,108,101]⟩=vs (incText l) by rw [incText_some hcs,← hcd,← inc_W]; unfold incW; rw [if_pos (by have q:=h9; rw [Lm] at q; omega)])
  have h9:¬ (((c.map encTm).length:Int)=(0:Int)):=h9;refine Xi ⟨[(5,.slice (.id 5 1) ((haveL (c.take i)).map encStr)),(6,.slice (.id 6 1) ((needL (c.take i)).map encStr)),(9,vs PP),(10,vs NN)],[(5,.tok 1 (haveL (c.take i)).length),(6,.tok 1 (needL (c.take i)).length)],hfree⟩ (Yi ⟨Z4,Z2,Fh,Tv⟩ ?_)
  refine Yi (fun h11=>?_) (fun h11=>?_)
  ·have h11:(((needL (c.take i)).map encStr).length:Int)=(0:Int):=h11;refine Yi (fun h12=>?_) (fun h12=>?_)
   ·have h12:(((haveL (c.take i)).map encStr).length:Int)=(1:Int):=h12;refine Xi ⟨[(9,vs PP)],[],hfree⟩ (Yi ⟨Z1,Tv,Fh,Tv⟩ ?_)
    refine Xi .pure (Xi _ (Yi (e44 [PP,⟨#[105,115,32,105,109,112,111,115,115,105,98,108,101]⟩] (by simp) (words_bound (B:=70000100000000) (by intro x hx; simp only [List.mem_cons,List.mem_nil_iff,or_false] at hx; rcases hx with rfl | rfl <;> first | exact (hPs hv1) | exact (hNs hv2) | decide) (by simp))) ?_))
    exact .of_eq (show vs (wordsB [PP,⟨#[105,115,32,105,109,112,111,115,115,105,98,108,101]⟩])=vs (incText l) by rw [incText_some hcs,← hcd,← inc_W]; unfold incW; rw [← hPP,← hNN]; rw [if_neg (by have q:=h9; rw [Lm] at q; omega)]; rw [if_pos ⟨by have q:=h11; rw [Lm,ej] at q; omega,by have q:=h12; rw [Lm,ej] at q; omega⟩])
   have h12:¬ ((((haveL (c.take i)).map encStr).length:Int)=(1:Int)):=h12;refine Xi ⟨[(5,.slice (.id 5 1) ((haveL (c.take i)).map encStr)),(6,.slice (.id 6 1) ((needL (c.take i)).map encStr)),(9,vs PP),(10,vs NN)],[(5,.tok 1 (haveL (c.take i)).length),(6,.tok 1 (needL (c.take i)).length)],hfree⟩ (Yi ⟨Z4,Z2,Fh,Tv⟩ ?_)
   refine Yi (fun _=>?_) (fun hf=>absurd h11 hf);refine Xi ⟨[(9,vs PP)],[],hfree⟩ (Yi ⟨Z1,Tv,Fh,Tv⟩ ?_)
   refine Xi .pure (Xi _ (Yi (e44 [PP,⟨#[100,111,32,110,111,116,32,103,111,32,116,111,103,101,116,104,101,114]⟩] (by simp) (words_bound (B:=70000100000000) (by intro x hx; simp only [List.mem_cons,List.mem_nil_iff,or_false] at hx; rcases hx with rfl | rfl <;> first | exact (hPs hv1) | exact (hNs hv2) | decide) (by simp))) ?_))
   exact .of_eq (show vs (wordsB [PP,⟨#[100,111,32,110,111,116,32,103,111,32,116,111,103,101,116,104,101,114]⟩])=vs (incText l) by rw [incText_some hcs,← hcd,← inc_W]; unfold incW; rw [← hPP,← hNN]; rw [if_neg (by have q:=h9; rw [Lm] at q; omega)]; rw [if_neg (fun h=>by have q:=h12; rw [Lm,ej] at q; omega),if_pos (by have q:=h11; rw [Lm,ej] at q; omega)])
  have h11:¬ ((((needL (c.take i)).map encStr).length:Int)=(0:Int)):=h11;refine Xi ⟨[(5,.slice (.id 5 1) ((haveL (c.take i)).map encStr)),(6,.slice (.id 6 1) ((needL (c.take i)).map encStr)),(9,vs PP),(10,vs NN)],[(5,.tok 1 (haveL (c.take i)).length),(6,.tok 1 (needL (c.take i)).length)],hfree⟩ (Yi ⟨Z4,Z2,Fh,Tv⟩ ?_)
  refine Yi (fun hf=>absurd hf h11) (fun _=>?_);refine Xi ⟨[(5,.slice (.id 5 1) ((haveL (c.take i)).map encStr)),(9,vs PP),(10,vs NN)],[(5,.tok 1 (haveL (c.take i)).length)],hfree⟩ (Yi ⟨Z3,Z1,Fh,Tv⟩ ?_)
  refine Yi (fun h15=>?_) (fun h15=>?_)
  ·have h15:(((haveL (c.take i)).map encStr).length:Int)=(0:Int):=h15;refine Xi ⟨[(10,vs NN)],[],hfree⟩ (Yi ⟨Z1,Tv,Fh,Tv⟩ ?_)
   refine Xi .pure (Xi _ (Yi (e44 [NN,⟨#[105,115,32,110,101,101,100,101,100]⟩] (by simp) (words_bound (B:=70000100000000) (by intro x hx; simp only [List.mem_cons,List.mem_nil_iff,or_false] at hx; rcases hx with rfl | rfl <;> first | exact (hPs hv1) | exact (hNs hv2) | decide) (by simp))) ?_))
   exact .of_eq (show vs (wordsB [NN,⟨#[105,115,32,110,101,101,100,101,100]⟩])=vs (incText l) by rw [incText_some hcs,← hcd,← inc_W]; unfold incW; rw [← hPP,← hNN]; rw [if_neg (by have q:=h9; rw [Lm] at q; omega)]; rw [if_neg (fun h=>by have q:=h11; rw [Lm,ej] at q; omega),if_neg (by have q:=h11; rw [Lm,ej] at q; omega)]; rw [if_pos (by have q:=h15; rw [Lm,ej] at q; omega)])
  have h15:¬ ((((haveL (c.take i)).map encStr).length:Int)=(0:Int)):=h15;refine Xi ⟨[(5,.slice (.id 5 1) ((haveL (c.take i)).map encStr)),(9,vs PP),(10,vs NN)],[(5,.tok 1 (haveL (c.take i)).length)],hfree⟩ (Yi ⟨Z3,Z1,Fh,Tv⟩ ?_)
  refine Yi (fun h17=>?_) (fun h17=>?_)
  ·have h17:(((haveL (c.take i)).map encStr).length:Int)=(1:Int):=h17;refine Xi ⟨[(9,vs PP),(10,vs NN)],[],hfree⟩ (Yi ⟨Z2,Tv,Fh,Tv⟩ ?_)
   refine Xi .pure (Xi _ (Yi (e44 [PP,⟨#[110,101,101,100,115]⟩,NN] (by simp) (words_bound (B:=70000100000000) (by intro x hx; simp only [List.mem_cons,List.mem_nil_iff,or_false] at hx; rcases hx with rfl | rfl | rfl <;> first | exact (hPs hv1) | exact (hNs hv2) | decide) (by simp))) ?_))
   exact .of_eq (show vs (wordsB [PP,⟨#[110,101,101,100,115]⟩,NN])=vs (incText l) by rw [incText_some hcs,← hcd,← inc_W]; unfold incW; rw [← hPP,← hNN]; rw [if_neg (by have q:=h9; rw [Lm] at q; omega)]; rw [if_neg (fun h=>by have q:=h11; rw [Lm,ej] at q; omega),if_neg (by have q:=h11; rw [Lm,ej] at q; omega)]; rw [if_neg (by have q:=h15; rw [Lm,ej] at q; omega)]; rw [if_pos (by have q:=h17; rw [Lm,ej] at q; omega)])
  have h17:¬ ((((haveL (c.take i)).map encStr).length:Int)=(1:Int)):=h17;refine Xi ⟨[(9,vs PP),(10,vs NN)],[],hfree⟩ (Yi ⟨Z2,Tv,Fh,Tv⟩ ?_)
  refine Xi .pure (Xi _ (Yi (e44 [PP,⟨#[110,101,101,100]⟩,NN] (by simp) (words_bound (B:=70000100000000) (by intro x hx; simp only [List.mem_cons,List.mem_nil_iff,or_false] at hx; rcases hx with rfl | rfl | rfl <;> first | exact (hPs hv1) | exact (hNs hv2) | decide) (by simp))) ?_))
  exact .of_eq (show vs (wordsB [PP,⟨#[110,101,101,100]⟩,NN])=vs (incText l) by rw [incText_some hcs,← hcd,← inc_W]; unfold incW; rw [← hPP,← hNN]; rw [if_neg (by have q:=h9; rw [Lm] at q; omega)]; rw [if_neg (fun h=>by have q:=h11; rw [Lm,ej] at q; omega),if_neg (by have q:=h11; rw [Lm,ej] at q; omega)]; rw [if_neg (by have q:=h15; rw [Lm,ej] at q; omega)]; rw [if_neg (by have q:=h17; rw [Lm,ej] at q; omega)])
 have h1:(canonT l).isSome=false:=h1;have hc20:=h30;rw [show (canonT l).isSome=false from h1] at hc20;refine Xi .pure (Xi _ (Yi hc20 ?_));refine Xi ⟨[(3,sl encTm c),(4,vb false)],[],hfree⟩ (Yi ⟨Z2,Tv,Fh,Tv⟩ ?_)
 exact .of_eq (show vs bNothing=vs (incText l) by rw [incText_none h1])
end Go.Eng

namespace Go.Eng
open Go.Proofs
abbrev encB (b:Bool):List AV:=[vb b]
abbrev encNat (n:Nat):List AV:=[vi n]
abbrev u0 (l:List Nf) (target:Int):List Bool:=(List.replicate l.length false).set target.toNat true
theorem mark_skip {l:List Nf} {u:List Bool} {i:Int} (h0:0≤i) (hl:i.toNat<l.length) (hu:i.toNat<u.length) (h:u[i.toNat]=false∨¬ l[i.toNat].kind=3):markGo l (i+1).toNat u=markGo l (i - 1+1).toNat u:=by
 have e1:(i+1).toNat=i.toNat+1:=by omega
 have e2:(i - 1+1).toNat=i.toNat:=by omega
 rw [e1,e2];show (if u.getD i.toNat false&&decide ((l.getD i.toNat nf0).kind=3) then _ else _)=_;rw [List.getD_eq_getElem?_getD,List.getD_eq_getElem?_getD,Ge hl,Ge hu];simp only [Option.getD_some];rcases h with h | h
 ·rw [h]; rfl
 ·rw [decide_eq_false h,Bool.and_false]; rfl
theorem mark_go {l:List Nf} {u:List Bool} {i:Int} (h0:0≤i) (hl:i.toNat<l.length) (hu:i.toNat<u.length) (h1:u[i.toNat]=true) (h2:l[i.toNat].kind=3) :
  markGo l (i+1).toNat u=if badRef i.toNat l[i.toNat] then none else markGo l (i - 1+1).toNat ((u.set l[i.toNat].left.toNat true).set l[i.toNat].right.toNat true):=by
 have e1:(i+1).toNat=i.toNat+1:=by omega
 have e2:(i - 1+1).toNat=i.toNat:=by omega
 rw [e1,e2];show (if u.getD i.toNat false&&decide ((l.getD i.toNat nf0).kind=3) then (if badRef i.toNat (l.getD i.toNat nf0) then none else markGo l i.toNat ((u.set (l.getD i.toNat nf0).left.toNat true).set (l.getD i.toNat nf0).right.toNat true)) else _)=_;rw [List.getD_eq_getElem?_getD,List.getD_eq_getElem?_getD,Ge hl,Ge hu];simp only [Option.getD_some];rw [h1,decide_eq_true h2]; rfl
def kk (y:Nf) (j:Nat):Int:=if j=0 then y.left else y.right
theorem kk_at (y:Nf) (j:Nat) (h:j<2):([[vi y.left],[vi y.right]]:List (List AV))[((j:Nat):Int).toNat]?=some [vi (kk y j)]:=by
 match j,h with
 | 0,_=>rfl
 | 1,_=>rfl
 | _+2,h=>omega
def RefSt (y:Nf) (i:Int) (u:List Bool) (j:Nat) (u2:List Bool):Prop :=
 u2.length=u.length∧((j=0∧u2=u)∨(j=1∧(0≤y.left∧y.left<i)∧u2=u.set y.left.toNat true)∨(j=2∧(0≤y.left∧y.left<i)∧(0≤y.right∧y.right<i)∧u2=(u.set y.left.toNat true).set y.right.toNat true))
theorem RefSt.next {y:Nf} {i:Int} {u u2:List Bool} {j:Nat} (h:RefSt y i u j u2) (hj:j<2) (h0:¬ kk y j<0) (h1:¬ i≤kk y j):RefSt y i u (j+1) (u2.set (kk y j).toNat true):=by
 obtain ⟨hl,h | h | h⟩:=h
 ·obtain ⟨rfl,rfl⟩:=h;have e:kk y 0=y.left:=rfl;rw [e] at h0 h1 ⊢;exact ⟨by simp,.inr (.inl ⟨rfl,by omega,rfl⟩)⟩
 ·obtain ⟨rfl,h2,rfl⟩:=h;have e:kk y 1=y.right:=rfl;rw [e] at h0 h1 ⊢;exact ⟨by simp,.inr (.inr ⟨rfl,h2,by omega,rfl⟩)⟩
 ·omega
theorem RefSt.bad {y:Nf} {i:Int} {u u2:List Bool} {j:Nat} (hi:0≤i) (h:RefSt y i u j u2) (hj:j<2) (hb:kk y j<0∨i≤kk y j):badRef i.toNat y=true:=by
 unfold badRef;have ei:((i.toNat:Nat):Int)=i:=Int.toNat_of_nonneg hi;rw [ei];obtain ⟨hl,h | h | h⟩:=h
 ·obtain ⟨rfl,rfl⟩:=h;have e:kk y 0=y.left:=rfl;rw [e] at hb;rcases hb with hb | hb <;> simp [hb]
 ·obtain ⟨rfl,h2,rfl⟩:=h;have e:kk y 1=y.right:=rfl;rw [e] at hb;rcases hb with hb | hb <;> simp [hb]
 ·omega
theorem RefSt.done {y:Nf} {i:Int} {u u2:List Bool} {j:Nat} (hi:0≤i) (h:RefSt y i u j u2) (hj:¬ j<2):badRef i.toNat y=false∧u2=(u.set y.left.toNat true).set y.right.toNat true:=by
 obtain ⟨hl,h | h | h⟩:=h
 ·omega
 ·omega
 ·obtain ⟨_,h2,h3,h4⟩:=h;refine ⟨?_,h4⟩;unfold badRef;have ei:((i.toNat:Nat):Int)=i:=Int.toNat_of_nonneg hi;rw [ei];simp only [Bool.or_eq_false_iff,decide_eq_false_iff_not];omega
theorem mark_bad {l:List Nf} {u:List Bool} {i:Int} (h0:0≤i) (hl:i.toNat<l.length) (hu:i.toNat<u.length) (h1:u[i.toNat]=true) (h2:l[i.toNat].kind=3) (hb:badRef i.toNat l[i.toNat]=true):markGo l (i+1).toNat u=none:=by
 rw [mark_go h0 hl hu h1 h2,if_pos hb]
theorem mark_two {l:List Nf} {u:List Bool} {i:Int} (h0:0≤i) (hl:i.toNat<l.length) (hu:i.toNat<u.length) (h1:u[i.toNat]=true) (h2:l[i.toNat].kind=3) (hb:badRef i.toNat l[i.toNat]=false) :
  markGo l (i+1).toNat u=markGo l (i - 1+1).toNat ((u.set l[i.toNat].left.toNat true).set l[i.toNat].right.toNat true):=by
 rw [mark_go h0 hl hu h1 h2,if_neg (by rw [hb]; decide)]
theorem used_out {l:List Nf} {target:Int} (h:target<0∨(l.length:Int)≤target):usedL l target=[]:=by unfold usedL; rw [if_pos h]
theorem used_none {l:List Nf} {target:Int} (h:marksL l target.toNat=none):usedL l target=[]:=by
 unfold usedL; rw [h]; simp
theorem used_some {l:List Nf} {target:Int} {u:List Bool} (h0:¬ (target<0∨(l.length:Int)≤target)) (h:marksL l target.toNat=some u):usedL l target=usedU u:=by
 unfold usedL; rw [if_neg h0,h]
abbrev usK (u:List Bool) (k:Nat):List Nat:=(List.range k).filter fun i=>u.getD i false
theorem usK_succ (u:List Bool) (k:Nat) (h:k<u.length):usK u (k+1)=if u[k] then usK u k++[k] else usK u k:=by
 unfold usK;rw [List.range_succ,List.filter_append];have hk:u.getD k false=u[k]:=by rw [List.getD_eq_getElem?_getD,Ge h]; rfl
 cases e:u[k] with
 | false=>rw [List.filter_cons_of_neg (by rw [hk,e]; decide),List.filter_nil,List.append_nil]; rfl
 | true=>rw [List.filter_cons_of_pos (by rw [hk,e]),List.filter_nil]; rfl
theorem usK_len (u:List Bool) (k:Nat):(usK u k).length≤k:=by
 have:=List.length_filter_le (fun i=>u.getD i false) (List.range k)
 rw [List.length_range] at this; exact this
theorem rep_at (n k:Nat) (h:k<n):(List.replicate n [vb false])[k]?=some [vb false]:=by simp [h]
theorem set_rep (l:List Nf) (target:Int):(List.replicate (((l.map encNf).length:Nat):Int).toNat [vb false]).set (target:Int).toNat [vb true]=(u0 l target).map encB:=by
 rw [Int.toNat_natCast,Lm]; unfold u0;rw [List.map_set,List.map_replicate]
theorem start_ok {l:List Nf} {target:Int} (h:0≤target):markGo l (target+1).toNat (u0 l target)=marksL l target.toNat:=by
 have:(target+1).toNat=target.toNat+1:=by omega
 rw [this]; rfl
theorem map_setB (u:List Bool) (k:Nat):(u.map encB).set k [vb true]=(u.set k true).map encB:=by rw [List.map_set]
theorem mark_zero {l:List Nf} {u:List Bool} {i:Int} (h1 : -1≤i) (h:¬ 0≤i):markGo l (i+1).toNat u=some u:=by
 have:(i+1).toNat=0:=by omega
 rw [this]; rfl
set_option maxHeartbeats 4000000 in
theorem e18 (l:List Nf) (target:Int) (hl:Few l) (ht:InI64 target):PC 18 [sl encNf l,vi (target:Int)] (sl encNat (usedL l target)):=by
 have hml:(l.map encNf).length=l.length:=Lm _;have hl:l.length≤1073741824:=hl;have ht : -9223372036854775808≤target∧target<9223372036854775808:=ht;refine Ps ⟨[],[(9,1)],[(22,1)],[],[],[],[],[],[],[],[2,3,4,5,9,12,13,14,15,20,22]⟩ Tryz.func18 rfl (Nz rfl) ?_;refine Yi (fun h1=>?_) (fun h1=>?_)
 ·have h1:((target:Int):Int)<(0:Int):=h1;refine Xi ⟨[],[],hfree⟩ (Yi ⟨Tv,Tv,Fh,Tv⟩ ?_)
  exact (show Sub (.v (.slice none 0 0)) (.slice .none []) from .nil).trans (.of_eq (show AV.slice .none []=sl encNat (usedL l target) by rw [used_out (.inl h1)]; rfl))
 have h1:¬ (((target:Int):Int)<(0:Int)):=h1;refine Yi (fun h3=>?_) (fun h3=>?_)
 ·have h3:((l.map encNf).length:Int)≤((target:Int):Int):=h3;refine Xi ⟨[],[],hfree⟩ (Yi ⟨Tv,Tv,Fh,Tv⟩ ?_)
  exact (show Sub (.v (.slice none 0 0)) (.slice .none []) from .nil).trans (.of_eq (show AV.slice .none []=sl encNat (usedL l target) by rw [used_out (.inr (by have q:=h3; rw [hml] at q; exact q))]; rfl))
 have h3:¬ (((l.map encNf).length:Int)≤((target:Int):Int)):=h3;refine Xi ⟨[(0,sl encNf l),(1,vi (target:Int))],[],hfree⟩ (Yi ⟨Z2,Tv,Fh,Tv⟩ ?_)
 refine Yi (show (0:Int)≤((l.map encNf).length:Nat)∧(((l.map encNf).length:Nat):Int)≤((l.map encNf).length:Nat)∧(((l.map encNf).length:Nat):Int)*1≤140737488355328∧(((l.map encNf).length:Nat):Int)≤9223372036854775807 by rw [Lm]; omega) ?_;refine Xi ⟨[(0,sl encNf l),(1,vi (target:Int)),(5,.msl 22 ((List.replicate ((l.map encNf).length:Int).toNat [vb false]):List (List AV)).length)],[(22,.arr 1 (List.replicate ((l.map encNf).length:Int).toNat [vb false]))],hfree⟩ (Yi ⟨Z3,Z1,Fh,Tv⟩ ?_)
 refine Yi (show (0:Int)≤target∧target<(((List.replicate (((l.map encNf).length:Nat):Int).toNat [vb false]):List (List AV)).length:Nat) by rw [List.length_replicate,Int.toNat_natCast,Lm]; omega) ?_;refine Yi rfl (Xi [vb false] (Yi (show (List.replicate (((l.map encNf).length:Nat):Int).toNat [vb false])[(target:Int).toNat]?=some [vb false] from rep_at _ _ (by rw [Int.toNat_natCast,Lm]; omega)) (Yi (Nz rfl) ?_)));refine Xi ⟨[(0,sl encNf l),(1,vi (target:Int)),(5,.msl 22 ((List.replicate ((l.map encNf).length:Int).toNat [vb false]):List (List AV)).length)],[(22,.arr 1 ((List.replicate ((l.map encNf).length:Int).toNat [vb false]).set (target:Int).toNat [vb true]))],hfree⟩ (Yi ⟨Z3,Z1,Fh,Tv⟩ ?_)
 refine Xi {q:Int × List Bool // (-1≤q.1∧q.1≤target)∧q.2.length=l.length∧markGo l (q.1+1).toNat q.2=marksL l target.toNat} (Xi (fun q=>⟨[(0,sl encNf l),(5,.msl 22 q.1.2.length),(6,vi (q.1.1:Int))],[(22,.arr 1 (q.1.2.map encB))],hfree⟩) (Xi (fun q=>(q.1.1+1).toNat) (Yi (Xi ⟨(target,u0 l target),⟨by omega,Int.le_refl _⟩,by simp,start_ok (by omega)⟩ ?_) ?_)))
 ·exact ⟨⟨Zr,⟨(show AV.msl 22 ((List.replicate ((l.map encNf).length:Int).toNat [vb false]):List (List AV)).length=.msl 22 (u0 l target).length by simp),rfl⟩,Zr,Tv⟩,⟨⟨(show HO.arr 1 ((List.replicate ((l.map encNf).length:Int).toNat [vb false]).set (target:Int).toNat [vb true])=.arr 1 ((u0 l target).map encB) by rw [← set_rep]),rfl⟩,Tv⟩,Fh,Tv⟩
 intro ⟨⟨i,u⟩,i1,i2,i3⟩;have i1 : -1≤i∧i≤target:=i1;have i2:u.length=l.length:=i2;have i3:markGo l (i+1).toNat u=marksL l target.toNat:=i3;refine Yi (fun h5=>?_) (fun h5=>?_)
 ·have h5:(0:Int)≤((i:Int):Int):=h5;have hi0:0≤i:=h5;have hil:i.toNat<l.length:=by omega
  have hiu:i.toNat<u.length:=by omega
  have gl:l[i.toNat]?=some l[i.toNat]:=Ge hil;have gu:u[i.toNat]?=some u[i.toNat]:=Ge hiu;refine Yi (by show (0:Int)≤(i:Int)∧((i:Int):Int)<(u.length:Nat); omega) ?_;refine Yi (show u.length=(u.map encB).length by simp) (Xi (encB u[i.toNat]) (Yi (map_at gu) ?_));refine Yi (fun h6=>?_) (fun h6=>?_)
  ·have h6:u[i.toNat]=true:=h6;refine Xi (encNf l[i.toNat]) (Yi (Yi hi0 (map_at gl)) (Yi rfl ?_));refine Yi (fun h7=>?_) (fun h7=>?_)
   ·have h7:(l[i.toNat].kind:Int)≠(3:Int):=h7;refine Yi (by show InI64 (((i:Int):Int) - (1:Int)); unfold InI64; omega) ?_;refine Xi ⟨(i - 1,u),⟨by omega,by omega⟩,i2,by rw [← i3,mark_skip hi0 hil hiu (.inr (fun hq=>h7 hq))]⟩ ?_;exact ⟨by show (i - 1+1).toNat<(i+1).toNat; omega,Z3,Z1,Fh,Tv⟩
   have h7:(l[i.toNat].kind:Int)=(3:Int):=Classical.byContradiction h7;refine Xi ⟨[(0,sl encNf l),(5,.msl 22 u.length),(6,vi (i:Int))],[(22,.arr 1 (u.map encB))],hfree⟩ (Yi ⟨Z3,Z1,Fh,Tv⟩ ?_)
   refine Xi (encNf l[i.toNat]) (Yi (Yi hi0 (map_at gl)) (Yi rfl ?_));refine Xi (encNf l[i.toNat]) (Yi (Yi hi0 (map_at gl)) (Yi rfl ?_));refine Yi (by kernel_rfl) ?_;refine Xi {q:Nat × List Bool // RefSt l[i.toNat] i u q.1 q.2} (Xi (fun q=>⟨[(0,sl encNf l),(5,.msl 22 q.1.2.length),(6,vi (i:Int)),(54,.slice (.id 54 1) [[vi l[i.toNat].left],[vi l[i.toNat].right]]),(55,vi 2),(56,vi q.1.1)],[(22,.arr 1 (q.1.2.map encB)),(54,.tok 1 2)],hfree⟩) (Xi (fun q=>2 - q.1.1) (Yi (Xi ⟨(0,u),⟨rfl,.inl ⟨rfl,rfl⟩⟩⟩ ?_) ?_)))
   ·exact ⟨Z6,Z2,Fh,Tv⟩
   intro ⟨⟨j,u2⟩,hj0⟩;have hj:RefSt l[i.toNat] i u j u2:=hj0;have hjl:u2.length=u.length:=hj.1;refine Yi (fun h9=>?_) (fun h9=>?_)
   ·have h9:(j:Int)<(2:Int):=h9;have hj2:j<2:=by omega
    refine Xi [vi (kk l[i.toNat] j)] (Yi (Yi (Nn j) (kk_at l[i.toNat] j hj2)) (Yi rfl ?_));refine Xi ⟨[(0,sl encNf l),(5,.msl 22 u2.length),(6,vi (i:Int)),(8,vi (kk l[i.toNat] j)),(54,.slice (.id 54 1) [[vi l[i.toNat].left],[vi l[i.toNat].right]]),(55,vi 2),(56,vi j)],[(22,.arr 1 (u2.map encB)),(54,.tok 1 2)],hfree⟩ (Yi ⟨Z7,Z2,Fh,Tv⟩ ?_)
    refine Yi (fun h10=>?_) (fun h10=>?_)
    ·have h10:((kk l[i.toNat] j):Int)<(0:Int):=h10;refine Xi ⟨[],[],hfree⟩ (Yi ⟨Tv,Tv,Fh,Tv⟩ ?_)
     have hbd:=RefSt.bad hi0 hj hj2 (.inl h10);have hnn:marksL l target.toNat=none:=by rw [← i3]; exact mark_bad hi0 hil hiu h6 h7 hbd
     exact (show Sub (.v (.slice none 0 0)) (.slice .none []) from .nil).trans (.of_eq (show AV.slice .none []=sl encNat (usedL l target) by rw [used_none hnn]; rfl))
    have h10:¬ (((kk l[i.toNat] j):Int)<(0:Int)):=h10;refine Yi (fun h12=>?_) (fun h12=>?_)
    ·have h12:((i:Int):Int)≤((kk l[i.toNat] j):Int):=h12;refine Xi ⟨[],[],hfree⟩ (Yi ⟨Tv,Tv,Fh,Tv⟩ ?_)
     have hbd:=RefSt.bad hi0 hj hj2 (.inr h12);have hnn:marksL l target.toNat=none:=by rw [← i3]; exact mark_bad hi0 hil hiu h6 h7 hbd
     exact (show Sub (.v (.slice none 0 0)) (.slice .none []) from .nil).trans (.of_eq (show AV.slice .none []=sl encNat (usedL l target) by rw [used_none hnn]; rfl))
    have h12:¬ (((i:Int):Int)≤((kk l[i.toNat] j):Int)):=h12;have hk2:(kk l[i.toNat] j).toNat<u2.length:=by omega
    have gk:u2[(kk l[i.toNat] j).toNat]?=some u2[(kk l[i.toNat] j).toNat]:=Ge hk2;refine Xi ⟨[(0,sl encNf l),(5,.msl 22 u2.length),(6,vi (i:Int)),(8,vi (kk l[i.toNat] j)),(54,.slice (.id 54 1) [[vi l[i.toNat].left],[vi l[i.toNat].right]]),(55,vi 2),(56,vi j)],[(22,.arr 1 (u2.map encB)),(54,.tok 1 2)],hfree⟩ (Yi ⟨Z7,Z2,Fh,Tv⟩ ?_)
    refine Yi (by show (0:Int)≤(kk l[i.toNat] j)∧((kk l[i.toNat] j):Int)<(u2.length:Nat); omega) ?_;refine Yi (show u2.length=(u2.map encB).length by simp) (Xi (encB (u2[(kk l[i.toNat] j).toNat])) (Yi (map_at gk) (Yi (Nz rfl) ?_)));refine Xi ⟨[(0,sl encNf l),(5,.msl 22 u2.length),(6,vi (i:Int)),(54,.slice (.id 54 1) [[vi l[i.toNat].left],[vi l[i.toNat].right]]),(55,vi 2),(56,vi j)],[(22,.arr 1 ((u2.map encB).set ((kk l[i.toNat] j):Int).toNat [vb true])),(54,.tok 1 2)],hfree⟩ (Yi ⟨Z6,Z2,Fh,Tv⟩ ?_)
    refine Yi (Ii j (by omega)) ?_;refine Xi ⟨(j+1,u2.set (kk l[i.toNat] j).toNat true),hj.next hj2 h10 h12⟩ ?_
    exact ⟨Dl 2 j (by omega),⟨Zr,⟨(show AV.msl 22 u2.length=.msl 22 (u2.set (kk l[i.toNat] j).toNat true).length by simp),rfl⟩,Zr,Zr,Zr,Zr,Tv⟩,⟨⟨(show HO.arr 1 ((u2.map encB).set (kk l[i.toNat] j).toNat [vb true])=.arr 1 ((u2.set (kk l[i.toNat] j).toNat true).map encB) by rw [map_setB]),rfl⟩,Zr,Tv⟩,Fh,Tv⟩
   have h9:¬ ((j:Int)<(2:Int)):=h9;refine Yi (by show InI64 (((i:Int):Int) - (1:Int)); unfold InI64; omega) ?_;have hdn:=RefSt.done hi0 hj (by omega);have hu2:u2.length=l.length:=hj.1.trans i2;refine Xi ⟨(i - 1,u2),⟨by omega,by omega⟩,hu2,by rw [← i3,mark_two hi0 hil hiu h6 h7 hdn.1,hdn.2]⟩ ?_;exact ⟨by show (i - 1+1).toNat<(i+1).toNat; omega,Z3,Z1,Fh,Tv⟩
  have h6:u[i.toNat]=false:=h6;refine Yi (by show InI64 (((i:Int):Int) - (1:Int)); unfold InI64; omega) ?_;refine Xi ⟨(i - 1,u),⟨by omega,by omega⟩,i2,by rw [← i3,mark_skip hi0 hil hiu (.inl h6)]⟩ ?_;exact ⟨by show (i - 1+1).toNat<(i+1).toNat; omega,Z3,Z1,Fh,Tv⟩
 have h5:¬ ((0:Int)≤((i:Int):Int)):=h5;refine Xi {k:Nat // k≤u.length} (Xi (fun q=>⟨[(9,.slice (.id 9 1) ((usK u q.1).map encNat)),(71,.msl 22 u.length),(72,vi u.length),(73,vi q.1)],[(9,.tok 1 (usK u q.1).length),(22,.arr 1 (u.map encB))],hfree⟩) (Xi (fun q=>u.length - q.1) (Yi (Xi ⟨0,Nat.zero_le _⟩ ?_) ?_)))
 ·exact ⟨Z4,Z2,Fh,Tv⟩
 intro ⟨k,k1⟩;have k1:k≤u.length:=k1;have hkl:=usK_len u k;refine Yi (fun h17=>?_) (fun h17=>?_)
 ·have h17:(k:Int)<(u.length:Int):=h17;have n17:k<u.length:=by omega
  have g17:u[k]?=some u[k]:=Ge n17;have hku:k<u.length:=by omega
  have guk:u[k]?=some u[k]:=Ge hku;refine Yi (by show (0:Int)≤k∧(k:Int)<(u.length:Nat); omega) ?_;refine Yi (show u.length=(u.map encB).length by simp) (Xi (encB u[k]) (Yi (map_at guk) ?_));refine Yi (fun h18=>?_) (fun h18=>?_)
  ·have h18:u[k]=true:=h18;refine Xi ⟨[(9,.slice (.id 9 1) ((usK u k).map encNat)),(10,vi k),(11,vb true),(71,.msl 22 u.length),(72,vi u.length),(73,vi k)],[(9,.tok 1 (usK u k).length),(22,.arr 1 (u.map encB))],hfree⟩ (Yi ⟨Z6,Z2,Fh,Tv⟩ ?_)
   have b19:AllLen 1 [[vi k]]∧((usK u k).map encNat).length=(usK u k).length∧(((usK u k).map encNat).length+([[vi k]]:List (List AV)).length)*8≤140737488355328∧((usK u k).map encNat).length+([[vi k]]:List (List AV)).length≤9223372036854775807:=⟨⟨rfl,trivial⟩,(by rw [Lm]),(by simp only [Lm,List.length_cons,List.length_nil]; omega),(by simp only [Lm,List.length_cons,List.length_nil]; omega)⟩;refine Yi b19 ?_;refine Xi ⟨[(9,.slice (.id 9 1) (((usK u k).map encNat)++[[vi k]])),(71,.msl 22 u.length),(72,vi u.length),(73,vi k)],[(9,.tok 1 (((usK u k).map encNat).length+([[vi k]]:List (List AV)).length)),(22,.arr 1 (u.map encB))],hfree⟩ (Yi ⟨Z4,Z2,Fh,Tv⟩ ?_)
   refine Yi (Ii k (by omega)) ?_;have hus:=usK_succ u k hku;rw [h18] at hus;simp only [if_true] at hus;refine Xi ⟨k+1,by omega⟩ ?_;exact ⟨Dl u.length k (by omega),⟨⟨(show AV.slice (.id 9 1) ((usK u k).map encNat++[[vi k]])=.slice (.id 9 1) ((usK u (k+1)).map encNat) by rw [hus,List.map_append]; rfl),rfl⟩,Zr,Zr,Zr,Tv⟩,⟨⟨(show HO.tok 1 (((usK u k).map encNat).length+([[vi k]]:List (List AV)).length)=.tok 1 (usK u (k+1)).length by rw [hus,List.length_append,Lm]; rfl),rfl⟩,Zr,Tv⟩,Fh,Tv⟩
  have h18:u[k]=false:=h18;refine Xi ⟨[(9,.slice (.id 9 1) ((usK u k).map encNat)),(10,vi k),(11,vb false),(71,.msl 22 u.length),(72,vi u.length),(73,vi k)],[(9,.tok 1 (usK u k).length),(22,.arr 1 (u.map encB))],hfree⟩ (Yi ⟨Z6,Z2,Fh,Tv⟩ ?_)
  refine Xi ⟨[(9,.slice (.id 9 1) ((usK u k).map encNat)),(71,.msl 22 u.length),(72,vi u.length),(73,vi k)],[(9,.tok 1 (usK u k).length),(22,.arr 1 (u.map encB))],hfree⟩ (Yi ⟨Z4,Z2,Fh,Tv⟩ ?_)
  refine Yi (Ii k (by omega)) ?_;have hus:=usK_succ u k hku;rw [h18] at hus;simp only [Bool.false_eq_true,if_false] at hus;refine Xi ⟨k+1,by omega⟩ ?_;exact ⟨Dl u.length k (by omega),⟨⟨(show AV.slice (.id 9 1) ((usK u k).map encNat)=.slice (.id 9 1) ((usK u (k+1)).map encNat) by rw [hus]),rfl⟩,Zr,Zr,Zr,Tv⟩,⟨⟨(show HO.tok 1 (usK u k).length=.tok 1 (usK u (k+1)).length by rw [hus]),rfl⟩,Zr,Tv⟩,Fh,Tv⟩
 have h17:¬ ((k:Int)<(u.length:Int)):=h17;have n17:¬ k<u.length:=by omega
 have hms:marksL l target.toNat=some u:=by rw [← i3]; exact mark_zero i1.1 (by omega)
 have hku:k=u.length:=by omega
 exact .of_eq (show sl encNat (usK u k)=sl encNat (usedL l target) by rw [used_some (by omega) hms,hku]; rfl)
end Go.Eng
