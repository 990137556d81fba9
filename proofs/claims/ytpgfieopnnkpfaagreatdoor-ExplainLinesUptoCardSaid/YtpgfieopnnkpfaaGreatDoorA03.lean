/- Lemmas for the claims of this seat, without a condition: part 3 (P21, P22, P32, P23, P24, P25, P26, P27, P28, P29, P30, P13). -/
import Derived.Test.YtpgfieopnnkpfaaGreatDoorA02
import Derived.Lib.ItoaLen
import Derived.Lib.LastIndexLaws
import Derived.Lib.IndexMore
import Derived.Lib.AtoiAll
namespace Go.Eng
theorem plc_range (v:Ver):0≤plc v∧plc v<1000000:=by
 unfold plc;split
 ·rename_i h;unfold validB at h;simp only [Bool.and_eq_true,decide_eq_true_eq] at h;obtain ⟨⟨h1,h2⟩,h3⟩:=h;unfold okPart at h1 h2 h3;unfold place;omega
 ·omega
theorem canon_one {p:Int} (h:0≤p∧p<1000000):canon [(p,p+1)]=[(p,p+1)]:=canon_of_canon ⟨h.1,by show p<p+1; omega,by show p+1≤1000000; omega,trivial⟩
theorem spanT_one (m:Int) {p:Int} (_h:0≤p∧p<1000000):spanT m (p,p+1)=plcT m p:=by
 unfold spanT;dsimp only;rw [if_neg (by omega),if_pos rfl]
theorem setT_one (m:Int) {p:Int} (h:0≤p∧p<1000000):setT m [(p,p+1)]=plcT m p:=by
 unfold setT;rw [canon_one h,if_neg (by simp),List.map_singleton,joinB_one,spanT_one m h]
def atT (p:ByteArray) (pl:Int):ByteArray:=if 0≤pl∧pl<1000000 then plcT (majorP p) pl else verT 0 0 0
def atR (p:ByteArray) (pl:Int):ByteArray:=setP p [(pl,pl+1)]
theorem at_eq {p:ByteArray} {pl:Int} (h:0≤pl∧pl<1000000):atT p pl=atR p pl:=by
 unfold atT atR setP;rw [if_pos h,setT_one _ h]
abbrev bOpen:ByteArray:=⟨#[40]⟩
abbrev bClose:ByteArray:=⟨#[41]⟩
abbrev bRoot:ByteArray:=(⟨#[40,114,111,111,116]⟩ : ByteArray)
abbrev bBy:ByteArray:=(⟨#[40,98,121]⟩ : ByteArray)
abbrev bNoOther:ByteArray:=(⟨#[40,110,111,32,111,116,104,101,114,32,114,101,108,101,97,115,101,115,41]⟩ : ByteArray)
abbrev bFrom:ByteArray:=(⟨#[40,102,114,111,109]⟩ : ByteArray)
abbrev bAnd1:ByteArray:=(⟨#[97,110,100]⟩ : ByteArray)
def reasonI (y:Nf):ByteArray :=
 if y.kind=0 then joinB bBlank [bRoot,itB (y.number+1)++bClose]
 else if y.kind=1 then joinB bBlank [bBy,y.path,atT y.path y.place++bClose]
 else if y.kind=2 then bNoOther
 else joinB bBlank [bFrom,itB (y.left+1),bAnd1,itB (y.right+1)++bClose]
abbrev rRoot:ByteArray:=(⟨#[114,111,111,116,32]⟩ : ByteArray)
abbrev rBy:ByteArray:=(⟨#[98,121,32]⟩ : ByteArray)
abbrev rNoOther:ByteArray:=(⟨#[110,111,32,111,116,104,101,114,32,114,101,108,101,97,115,101,115]⟩ : ByteArray)
abbrev rFrom:ByteArray:=(⟨#[102,114,111,109,32]⟩ : ByteArray)
def decZ (n:Int):ByteArray:=decB n.toNat
def reasonR (y:Nf):ByteArray :=
 if y.kind=0 then rRoot++decZ (y.number+1)
 else if y.kind=1 then rBy++y.path++bBlank++atR y.path y.place
 else if y.kind=2 then rNoOther
 else rFrom++decZ (y.left+1)++bAnd++decZ (y.right+1)
def NfOk (y:Nf):Prop:=(y.kind=0→0≤y.number)∧(y.kind=1→0≤y.place∧y.place<1000000)∧(y.kind=3→0≤y.left∧0≤y.right)∧(y.kind=0∨y.kind=1∨y.kind=2∨y.kind=3)
theorem u_root:bRoot++bBlank=bOpen++rRoot:=bext (by decide +kernel)
theorem u_by:bBy++bBlank=bOpen++rBy:=bext (by decide +kernel)
theorem u_no:bNoOther=bOpen++rNoOther++bClose:=bext (by decide +kernel)
theorem u_from:bFrom++bBlank=bOpen++rFrom:=bext (by decide +kernel)
theorem u_and:bBlank++(bAnd1++bBlank)=bAnd:=bext (by decide +kernel)
theorem reason_eq {y:Nf} (h:NfOk y):reasonI y=bOpen++reasonR y++bClose:=by
 obtain ⟨h0,h1,h3,hk⟩:=h;unfold reasonI reasonR
 by_cases k0:y.kind=0
 ·rw [if_pos k0,if_pos k0,joinB_two,itB_eq (by have:=h0 k0; omega),← bapp_assoc,u_root];unfold decZ; simp only [bapp_assoc]
 ·rw [if_neg k0,if_neg k0]
  by_cases k1:y.kind=1
  ·rw [if_pos k1,if_pos k1,joinB_cons,joinB_two,at_eq (h1 k1),← bapp_assoc,u_by];simp only [bapp_assoc]
  ·rw [if_neg k1,if_neg k1]
   by_cases k2:y.kind=2
   ·rw [if_pos k2,if_pos k2,u_no]
   ·rw [if_neg k2,if_neg k2];have k3:y.kind=3:=by omega
    have:=h3 k3
    rw [joinB_cons,joinB_cons,joinB_two,itB_eq (by omega),itB_eq (by omega),← bapp_assoc,u_from,← u_and];unfold decZ; simp only [bapp_assoc]
abbrev bDotBlank:ByteArray:=⟨#[46,32]⟩
def lineI (k:Nat) (t:List Tm) (y:Nf):ByteArray:=joinB bBlank [itB ((k:Int)+1)++bDot,incText t,reasonI y]
def lineR (k:Nat) (t:List Tm) (y:Nf):ByteArray:=decZ ((k:Int)+1)++bDotBlank++incText t++(⟨#[32,40]⟩ : ByteArray)++reasonR y++bClose
theorem line_eq {k:Nat} {t:List Tm} {y:Nf} (h:NfOk y):lineI k t y=lineR k t y:=by
 unfold lineI lineR;rw [joinB_cons,joinB_two,reason_eq h,itB_eq (by omega),show bDotBlank=bDot++bBlank from bext (by decide +kernel),show (⟨#[32,40]⟩ : ByteArray)=bBlank++bOpen from bext (by decide +kernel)];unfold decZ; simp only [bapp_assoc]
theorem infer_ok {x:List Rl} {roots:List Rq} {d:List (List Tm)} {y:Nf} {t:List Tm} (h:inferP x roots d y=some t):NfOk y:=by
 have h':=h;unfold inferP at h
 by_cases k0:y.kind=0
 ·rw [if_pos k0] at h;split at h
  ·cases e:nthZ roots y.number with
   | none=>rw [e] at h; cases h
   | some q=>exact ⟨fun _=>(nthZ_lt e).1,fun k=>by omega,fun k=>by omega,.inl k0⟩
  ·cases h
 ·rw [if_neg k0] at h
  by_cases k1:y.kind=1
  ·rw [if_pos k1] at h;split at h
   ·split at h
    ·cases h
    ·rename_i r hr
     have:=List.find?_some hr
     simp only [Bool.and_eq_true,decide_eq_true_eq] at this;have hp:=plc_range r.ver;exact ⟨fun k=>by omega,fun _=>by omega,fun k=>by omega,.inr (.inl k1)⟩
   ·cases h
  ·rw [if_neg k1] at h
   by_cases k2:y.kind=2
   ·exact ⟨fun k=>by omega,fun k=>by omega,fun k=>by omega,.inr (.inr (.inl k2))⟩
   ·rw [if_neg k2] at h
    by_cases k3:y.kind=3
    ·obtain ⟨a,b,ha,hb,_⟩:=infer_ref h' k3;exact ⟨fun k=>by omega,fun k=>by omega,fun _=>⟨(nthZ_lt ha).1,(nthZ_lt hb).1⟩,.inr (.inr (.inr k3))⟩
    ·rw [if_neg k3] at h; cases h
theorem derive_ok {x:List Rl} {roots:List Rq} {l:List Nf} {d:List (List Tm)} (h:deriveGo x roots l []=some d) {i:Nat} (hi:i<l.length):NfOk (l.getD i nf0):=infer_ok ((derive_at h).2 i hi)
def linesW (f:Nat→List Tm→Nf→ByteArray) (own:List Nf) (d:List (List Tm)):List ByteArray:=(List.range own.length).map fun k=>f k (d.getD k []) (own.getD k nf0)
def linesP (x:List Rl) (roots:List Rq) (l:List Nf) (target:Int):List ByteArray × Int :=
 if (deriveP x roots l).2≠0 then ([],(deriveP x roots l).2)
 else if target<0∨(l.length:Int)≤target then ([],2)
 else (linesW lineI (trimL l target) ((usedL l target).map fun i=>(deriveP x roots l).1.getD i []),0)
def linesQ (x:List Rl) (roots:List Rq) (l:List Nf) (target:Int):List ByteArray × Int :=
 if (deriveP x roots l).2≠0 then ([],(deriveP x roots l).2)
 else if target<0∨(l.length:Int)≤target then ([],2)
 else (linesW lineR (trimL l target) (deriveP x roots (trimL l target)).1,0)
theorem lines_eq (x:List Rl) (roots:List Rq) (l:List Nf) (target:Int):linesP x roots l target=linesQ x roots l target:=by
 unfold linesP linesQ
 by_cases h:(deriveP x roots l).2≠0
 ·rw [if_pos h,if_pos h]
 ·rw [if_neg h,if_neg h]
  by_cases ht:target<0∨(l.length:Int)≤target
  ·rw [if_pos ht,if_pos ht]
  ·rw [if_neg ht,if_neg ht];obtain ⟨h1,h2,h3,h4⟩:=deriveP_ok (Decidable.not_not.1 h);obtain ⟨t,rfl⟩:=Int.eq_ofNat_of_zero_le (a:=target) (by omega);have ht' : t<l.length:=by omega
   have hD:=derive_trim h4 ht';obtain ⟨m,f1,f2,f3,f4,_⟩:=trim_facts h4 ht';have hle:(trimL l t).length≤65536:=by
    have:(trimL l t).length≤l.length:=by
     unfold trimL;rw [List.length_map];obtain ⟨u,hu,hU⟩:=derive_marks h4 ht';rw [hU]
     have:=(marks_spec ht' hu).1
     unfold usedU;exact Nat.le_trans (List.length_filter_le _ _) (by rw [List.length_range]; omega)
    omega
   rw [deriveP_of h1 h2 hle hD];refine congrArg (·,(0:Int)) ?_;unfold linesW;refine List.map_congr_left fun k hk=>?_;exact line_eq (derive_ok hD (List.mem_range.1 hk))
end Go.Eng

namespace Go.Eng
def verF (v:Ver):ByteArray:=if validB v then verT v.a v.b v.c else mkB []
end Go.Eng

namespace Go.Eng
theorem bsize_app (a b:ByteArray):(a++b).size=a.size+b.size:=ByteArray.size_append
theorem bsize_mk (l:List UInt8):(mkB l).size=l.length:=by simp [ByteArray.size]
theorem itB_size {n:Int} (h0 : -9223372036854775808≤n) (h1:n≤9223372036854775807):(itB n).size≤21:=by
 unfold itB; rw [bsize_mk]; exact Go.Lib.itoa_length_le n h0 h1
theorem joinB_size (sep:ByteArray) (B:Nat):∀ (l:List ByteArray),(∀ x ∈ l,x.size≤B)→(joinB sep l).size≤l.length*(B+sep.size)
 | [],_=>by simp [joinB_nil,bsize_mk]
 | [x],h=>by rw [joinB_one]; have:=h x (List.mem_singleton.2 rfl); simp; omega
 | x :: y :: r,h=>by
  rw [joinB_cons,bsize_app,bsize_app];have h1:=joinB_size sep B (y :: r) (fun z hz=>h z (List.mem_cons_of_mem _ hz));have h2:=h x (List.mem_cons_self ..);simp only [List.length_cons] at h1 ⊢;rw [Nat.add_mul (r.length+1) 1]; omega
theorem verT_size {a b c:Int} (ha : -1000000000≤a∧a≤1000000000) (hb : -1000000000≤b∧b≤1000000000) (hc : -1000000000≤c∧c≤1000000000):(verT a b c).size≤65:=by
 unfold verT;simp only [bsize_app]
 have:=itB_size (n:=a) (by omega) (by omega)
 have:=itB_size (n:=b) (by omega) (by omega)
 have:=itB_size (n:=c) (by omega) (by omega)
 have:bDot.size=1:=rfl
 omega
theorem plcT_size {m p:Int} (hm:0≤m∧m≤999) (hp:0≤p∧p≤1000000):(plcT m p).size≤65:=verT_size (by omega) (by omega) (by omega)
theorem spanT_size {m:Int} {x:Int × Int} (hm:0≤m∧m≤999) (h1:0≤x.1∧x.1≤1000000) (h2:0≤x.2∧x.2≤1000000):(spanT m x).size≤132:=by
 have:=plcT_size hm h1
 have:=plcT_size hm h2
 have e1:bStar.size=1:=rfl;have e2:bDots.size=2:=rfl;unfold spanT
 repeat' split
 all_goals (try simp only [bsize_app])
 all_goals omega
theorem canonF_rng:∀ {l:SpanL} {lo:Int},CanonF lo l→0≤lo→∀ x ∈ l,(0≤x.1∧x.1≤1000000)∧(0≤x.2∧x.2≤1000000):=by
 intro l
 induction l with
 | nil=>intro lo _ _ x hx; cases hx
 | cons y l ih =>
  intro lo h h0 x hx;obtain ⟨h1,h2,h3,h4⟩:=h;rcases List.mem_cons.1 hx with rfl | hx
  ·omega
  ·exact ih h4 (by omega) x hx
theorem canon_rng {s:SpanL} (h:Canon s):∀ x ∈ s,(0≤x.1∧x.1≤1000000)∧(0≤x.2∧x.2≤1000000):=canonF_rng h (Int.le_refl 0)
theorem setT_size {m:Int} (hm:0≤m∧m≤999) (s:SpanL):(setT m s).size≤135000004:=by
 unfold setT;split
 ·show (4:Nat)≤_; omega
 ·have h:=joinB_size bBar 132 ((canon s).map (spanT m)) (fun x hx=>by
   obtain ⟨y,hy,rfl⟩:=List.mem_map.1 hx
   have:=canon_rng (canon_canon s) y hy
   exact spanT_size hm this.1 this.2)
  have hl:=canon_len (canon_canon s);rw [List.length_map] at h;have e:bBar.size=3:=rfl;rw [e] at h;omega
theorem verL_rng {p:List UInt8} {n:Int} (h:verL p=some n):0≤n∧n≤999:=by
 have dg:∀ {c:UInt8},digitC c=true→48≤(c.toNat:Int)∧(c.toNat:Int)≤57:=fun {c} h=>by
  unfold digitC at h;simp only [Bool.and_eq_true,decide_eq_true_eq,UInt8.le_iff_toNat_le] at h;have h1:(48:UInt8).toNat=48:=rfl;have h2:(57:UInt8).toNat=57:=rfl;omega
 unfold verL at h;split at h
 ·rename_i c r;split at h
  ·split at h
   ·cases h
   ·rename_i hb;simp only [Bool.or_eq_true,not_or,decide_eq_true_eq,Bool.not_eq_true,Bool.not_eq_false'] at hb;obtain ⟨⟨⟨_,h3⟩,_⟩,h4⟩:=hb;have h4:r.all digitC=true:=by simpa using h4
    rw [List.all_eq_true] at h4;cases h
    match r,h3,h4 with
    | [],_,_=>decide
    | [a],_,h4=>have:=dg (h4 a (by simp)); simp only [numL,List.foldl_cons,List.foldl_nil]; omega
    | [a,b],_,h4=>have:=dg (h4 a (by simp)); have:=dg (h4 b (by simp)); simp only [numL,List.foldl_cons,List.foldl_nil]; omega
    | [a,b,c],_,h4=>have:=dg (h4 a (by simp)); have:=dg (h4 b (by simp)); have:=dg (h4 c (by simp)); simp only [numL,List.foldl_cons,List.foldl_nil]; omega
    | _ :: _ :: _ :: _ :: _,h3,_=>simp at h3
  ·cases h
 ·cases h
theorem majorP_rng (p:ByteArray):0≤majorP p∧majorP p≤999:=by
 unfold majorP pathMajor majorL;cases e:verL ((splitL 47 p.data.toList).getLastD []) with
 | none=>simp
 | some n =>
  have:=verL_rng e
  dsimp only;split
  ·simp
  ·split
   ·exact this
   ·simp
theorem termT_size {t:Tm} (h:t.path.size≤1048576):(termT t).size≤140000000:=by
 unfold termT setP;simp only [bsize_app]
 have:=setT_size (majorP_rng t.path) (if t.absent then compl t.set else t.set)
 have e:bBlank.size=1:=rfl;omega
end Go.Eng

namespace Go.Eng
end Go.Eng

namespace Go.Eng
end Go.Eng

namespace Go.Eng
def Stop (r:List UInt8):Prop:=r=[]∨∃ c t,r=32 :: c :: t∧c≠124
def shown (t:Tm):SpanL:=if t.absent then compl t.set else t.set
end Go.Eng

namespace Go.Eng
end Go.Eng

namespace Go.Eng
open Go.Lib (lastIndex index cut occAt atoiAll parseUint10 parseMag decDigits)
end Go.Eng

namespace Go.Eng
-- no parenthesis in the text of an incompatibility
end Go.Eng

namespace Go.Eng
open Go.Lib (lastIndex)
end Go.Eng

namespace Go.Eng
abbrev exL2:ByteArray:=(⟨#[51,46,32,97,47,118,49,32,49,46,48,46,48,32,105,115,32,110,101,101,100,101,100,32,40,102,114,111,109,32,49,32,97,110,100,32,50,41]⟩ : ByteArray)
abbrev exL3:ByteArray:=(⟨#[52,46,32,97,47,118,49,32,49,46,48,46,48,32,110,101,101,100,115,32,98,47,118,49,32,49,46,50,46,48,46,46,32,40,98,121,32,97,47,118,49,32,49,46,48,46,48,41]⟩ : ByteArray)
abbrev exL5:ByteArray:=(⟨#[54,46,32,97,47,118,49,32,49,46,48,46,48,32,105,115,32,105,109,112,111,115,115,105,98,108,101,32,40,102,114,111,109,32,52,32,97,110,100,32,53,41]⟩ : ByteArray)
abbrev exL6:ByteArray:=(⟨#[55,46,32,116,104,105,115,32,105,115,32,105,109,112,111,115,115,105,98,108,101,32,40,102,114,111,109,32,51,32,97,110,100,32,54,41]⟩ : ByteArray)
def awake38:Bool :=
 decide ((linesP exIx exRoots exInf 6).2=0)&&decide ((linesP exIx exRoots exInf 6).1.length=7)&&decide ((linesP exIx exRoots exInf 6).1[2]?=some exL2)&&decide ((linesP exIx exRoots exInf 6).1[3]?=some exL3) &&
 decide ((linesP exIx exRoots exInf 6).1[5]?=some exL5)&&decide ((linesP exIx exRoots exInf 6).1[6]?=some exL6)&&decide (usedL exInf 5=[3,4,5])&&decide ((trimL exInf 2).length=3)
theorem awake38_true:awake38=true:=by decide +kernel
theorem refutes_last {d:List (List Tm)} {m:Nat} (h:d.length=m+1):refutedB d=decide (d.getD m []=[]):=by
 unfold refutedB;rw [List.getLast?_eq_getElem?,h,Nat.add_sub_cancel,List.getD_eq_getElem?_getD];cases e:d[m]? with
 | none=>rw [List.getElem?_eq_none_iff] at e; omega
 | some t=>cases t <;> rfl
theorem keeps_ok {x:List Rl} {roots:List Rq} {l:List Nf} (h:(deriveP x roots l).2=0) {t:Nat} (ht:t<l.length) :
  ∃ m,(trimL l t).length=m+1∧(deriveP x roots (trimL l t)).2=0∧(deriveP x roots (trimL l t)).1.length=m+1∧(deriveP x roots (trimL l t)).1.getD m []=(deriveP x roots l).1.getD t [] ∧
   (usedL (trimL l t) m).length=m+1∧trimL (trimL l t) m=trimL l t∧(refutesP x roots (trimL l t)=0↔(deriveP x roots l).1.getD t []=[]):=by
 obtain ⟨h1,h2,h3,h4⟩:=deriveP_ok h;have hD:=derive_trim h4 ht;obtain ⟨m,f1,f2,f3,f4,f5,f6⟩:=trim_facts h4 ht;have hle:(trimL l t).length≤65536:=by
  obtain ⟨u,hu,hU⟩:=derive_marks h4 ht
  have:=(marks_spec ht hu).1
  have h5:(usedL l t).length≤u.length:=by
   rw [hU]; unfold usedU;exact Nat.le_trans (List.length_filter_le _ _) (by rw [List.length_range]; omega)
  omega
 have hP:=deriveP_of h1 h2 hle hD;refine ⟨m,f2,by rw [hP],by rw [hP]; exact f4,by rw [hP]; exact f3,by rw [f5,List.length_range],f6,?_⟩;unfold refutesP;rw [hP];dsimp only;rw [if_neg (by decide),refutes_last f4,f3]
 by_cases e:(deriveP x roots l).1.getD t []=[]
 ·rw [if_pos (by rw [e]; decide)]; exact ⟨fun _=>e,fun _=>rfl⟩
 ·rw [if_neg (by rw [decide_eq_false e]; decide)]; exact ⟨fun h=>absurd h (by decide),fun h=>absurd h e⟩
end Go.Eng

namespace Go.Eng
def kwW:List (List UInt8):=[[97,110,100],[97,110,121],[97,115],[98,111,111,108],[100,101,112,114,101,99,97,116,101,100],[101,108,115,101],[101,120,112,111,114,116],[102,97,108,115,101],[102,110],[102,111,108,100],[102,114,111,109],[105,102],[105,109,112,111,114,116],[105,110],[105,110,116],[108,101,110,103,116,104],[108,101,116],[108,105,115,116],[109,97,116,99,104],[109,111,100,117,108,101],[110,111,110,101],[110,111,116],[111,114],[116,101,120,116],[116,104,101,110],[116,114,117,101],[116,121,112,101],[117,115,101]]
theorem keyTxt_eq:keyTxt=32 :: kwW.flatMap (fun w=>w++[32]):=by decide +kernel
theorem kwW_ok:∀ w ∈ kwW,∀ c ∈ w,c≠32:=by decide +kernel
theorem preL_word:∀ (s w r:List UInt8),(∀ c ∈ s,c≠32)→(∀ c ∈ w,c≠32)→preL (s++[32]) (w++32 :: r)=decide (w=s)
 | [],[],r,_,_=>by simp [preL]
 | [],b :: w,r,_,hw=>by
  have:=hw b (List.mem_cons_self ..)
  simp [preL,this.symm]
 | a :: s,[],r,hs,_=>by
  have:=hs a (List.mem_cons_self ..)
  simp [preL,this]
 | a :: s,b :: w,r,hs,hw=>by
  have ih:=preL_word s w r (fun c hc=>hs c (List.mem_cons_of_mem _ hc)) (fun c hc=>hw c (List.mem_cons_of_mem _ hc));rw [List.cons_append,List.cons_append,preL,ih]
  by_cases e:a=b
  ·subst e; simp
  ·have e2:¬ b=a:=fun h=>e h.symm;simp [e,e2]
theorem inL_skip (x:List UInt8):∀ (w r:List UInt8),(∀ c ∈ w,c≠32)→inL (32 :: x) (w++r)=inL (32 :: x) r
 | [],_,_=>rfl
 | b :: w,r,h=>by
  have hb:=h b (List.mem_cons_self ..);rw [List.cons_append,inL,inL_skip x w r (fun c hc=>h c (List.mem_cons_of_mem _ hc))]
  have:preL (32 :: x) (b :: (w++r))=false:=by simp [preL,hb.symm]
  rw [this,Bool.false_or]
theorem inL_words (s:List UInt8) (hs:∀ c ∈ s,c≠32):∀ ws:List (List UInt8),(∀ w ∈ ws,∀ c ∈ w,c≠32)→inL (32 :: (s++[32])) (32 :: ws.flatMap (fun w=>w++[32]))=ws.any (fun w=>decide (w=s))
 | [],_=>by
  cases s with
  | nil=>simp [inL,preL]
  | cons a s=>simp [inL,preL]
 | w :: ws,h=>by
  have hw:=h w (List.mem_cons_self ..);have ih:=inL_words s hs ws (fun v hv=>h v (List.mem_cons_of_mem _ hv));have e:(w :: ws).flatMap (fun w=>w++[32])=w++32 :: ws.flatMap (fun w=>w++[32]):=by simp [List.flatMap_cons]
  rw [e,inL,preL,preL_word s w _ hs hw,inL_skip _ w _ hw,ih,List.any_cons];simp
theorem word_32 {s:List UInt8} (h:s.all wordC=true):∀ c ∈ s,c≠32:=fun c hc e=>by
 have:=List.all_eq_true.1 h c hc
 rw [e] at this;exact absurd this (by decide)
theorem keyB_words {s:List UInt8} (h:s.all wordC=true):keyB s=kwW.any (fun w=>decide (w=s)):=by
 unfold keyB;rw [keyTxt_eq,inL_words s (word_32 h) kwW kwW_ok]
end Go.Eng
