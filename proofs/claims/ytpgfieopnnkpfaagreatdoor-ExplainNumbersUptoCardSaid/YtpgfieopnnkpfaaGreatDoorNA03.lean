/- Lemmas for the claims of this seat, without a condition: part 3 (P21, P22, P32, P23, P24, P25, P26, P27, P28, P29, P30, P13). -/
import Derived.Test.YtpgfieopnnkpfaaGreatDoorNA02
import Derived.Lib.ItoaLen
import Derived.Lib.LastIndexLaws
import Derived.Lib.IndexMore
import Derived.Lib.AtoiAll
namespace Go.Eng
theorem plc_range (v:Ver):0≤plc v∧plc v<1000000:=by
 unfold plc;split
 ·rename_i h;unfold validB at h;simp only [Bool.and_eq_true,decide_eq_true_eq] at h;obtain ⟨⟨h1,h2⟩,h3⟩:=h;unfold okPart at h1 h2 h3;unfold place;omega
 ·omega
theorem canon_one {p:Int} (h:0≤p∧p<1000000):canon [(p,p+1)]=[(p,p+1)]:=canon_of_canon ⟨h.1,by show p<p+1; omega,by show p+1≤1000000; omega,trivial⟩
theorem spanT_one (m:Int) {p:Int} (_h:0≤p∧p<1000000):spanT m (p,p+1)=plcT m p:=by
 unfold spanT;dsimp only;rw [if_neg (by omega),if_pos rfl]
theorem setT_one (m:Int) {p:Int} (h:0≤p∧p<1000000):setT m [(p,p+1)]=plcT m p:=by
 unfold setT;rw [canon_one h,if_neg (by simp),List.map_singleton,joinB_one,spanT_one m h]
def atT (p:ByteArray) (pl:Int):ByteArray:=if 0≤pl∧pl<1000000 then plcT (majorP p) pl else verT 0 0 0
def atR (p:ByteArray) (pl:Int):ByteArray:=setP p [(pl,pl+1)]
theorem at_eq {p:ByteArray} {pl:Int} (h:0≤pl∧pl<1000000):atT p pl=atR p pl:=by
 unfold atT atR setP;rw [if_pos h,setT_one _ h]
abbrev bOpen:ByteArray:=⟨#[40]⟩
abbrev bClose:ByteArray:=⟨#[41]⟩
abbrev bRoot:ByteArray:=(⟨#[40,114,111,111,116]⟩ : ByteArray)
abbrev bBy:ByteArray:=(⟨#[40,98,121]⟩ : ByteArray)
abbrev bNoOther:ByteArray:=(⟨#[40,110,111,32,111,116,104,101,114,32,114,101,108,101,97,115,101,115,41]⟩ : ByteArray)
abbrev bFrom:ByteArray:=(⟨#[40,102,114,111,109]⟩ : ByteArray)
abbrev bAnd1:ByteArray:=(⟨#[97,110,100]⟩ : ByteArray)
def reasonI (y:Nf):ByteArray :=
 if y.kind=0 then joinB bBlank [bRoot,itB (y.number+1)++bClose]
 else if y.kind=1 then joinB bBlank [bBy,y.path,atT y.path y.place++bClose]
 else if y.kind=2 then bNoOther
 else joinB bBlank [bFrom,itB (y.left+1),bAnd1,itB (y.right+1)++bClose]
abbrev rRoot:ByteArray:=(⟨#[114,111,111,116,32]⟩ : ByteArray)
abbrev rBy:ByteArray:=(⟨#[98,121,32]⟩ : ByteArray)
abbrev rNoOther:ByteArray:=(⟨#[110,111,32,111,116,104,101,114,32,114,101,108,101,97,115,101,115]⟩ : ByteArray)
abbrev rFrom:ByteArray:=(⟨#[102,114,111,109,32]⟩ : ByteArray)
def decZ (n:Int):ByteArray:=decB n.toNat
def reasonR (y:Nf):ByteArray :=
 if y.kind=0 then rRoot++decZ (y.number+1)
 else if y.kind=1 then rBy++y.path++bBlank++atR y.path y.place
 else if y.kind=2 then rNoOther
 else rFrom++decZ (y.left+1)++bAnd++decZ (y.right+1)
def NfOk (y:Nf):Prop:=(y.kind=0→0≤y.number)∧(y.kind=1→0≤y.place∧y.place<1000000)∧(y.kind=3→0≤y.left∧0≤y.right)∧(y.kind=0∨y.kind=1∨y.kind=2∨y.kind=3)
theorem u_root:bRoot++bBlank=bOpen++rRoot:=bext (by decide +kernel)
theorem u_by:bBy++bBlank=bOpen++rBy:=bext (by decide +kernel)
theorem u_no:bNoOther=bOpen++rNoOther++bClose:=bext (by decide +kernel)
theorem u_from:bFrom++bBlank=bOpen++rFrom:=bext (by decide +kernel)
theorem u_and:bBlank++(bAnd1++bBlank)=bAnd:=bext (by decide +kernel)
theorem reason_eq {y:Nf} (h:NfOk y):reasonI y=bOpen++reasonR y++bClose:=by
 obtain ⟨h0,h1,h3,hk⟩:=h;unfold reasonI reasonR
 by_cases k0:y.kind=0
 ·rw [if_pos k0,if_pos k0,joinB_two,itB_eq (by have:=h0 k0; omega),← bapp_assoc,u_root];unfold decZ; simp only [bapp_assoc]
 ·rw [if_neg k0,if_neg k0]
  by_cases k1:y.kind=1
  ·rw [if_pos k1,if_pos k1,joinB_cons,joinB_two,at_eq (h1 k1),← bapp_assoc,u_by];simp only [bapp_assoc]
  ·rw [if_neg k1,if_neg k1]
   by_cases k2:y.kind=2
   ·rw [if_pos k2,if_pos k2,u_no]
   ·rw [if_neg k2,if_neg k2];have k3:y.kind=3:=by omega
    have:=h3 k3
    rw [joinB_cons,joinB_cons,joinB_two,itB_eq (by omega),itB_eq (by omega),← bapp_assoc,u_from,← u_and];unfold decZ; simp only [bapp_assoc]
abbrev bDotBlank:ByteArray:=⟨#[46,32]⟩
def lineI (k:Nat) (t:List Tm) (y:Nf):ByteArray:=joinB bBlank [itB ((k:Int)+1)++bDot,incText t,reasonI y]
def lineR (k:Nat) (t:List Tm) (y:Nf):ByteArray:=decZ ((k:Int)+1)++bDotBlank++incText t++(⟨#[32,40]⟩ : ByteArray)++reasonR y++bClose
theorem line_eq {k:Nat} {t:List Tm} {y:Nf} (h:NfOk y):lineI k t y=lineR k t y:=by
 unfold lineI lineR;rw [joinB_cons,joinB_two,reason_eq h,itB_eq (by omega),show bDotBlank=bDot++bBlank from bext (by decide +kernel),show (⟨#[32,40]⟩ : ByteArray)=bBlank++bOpen from bext (by decide +kernel)];unfold decZ; simp only [bapp_assoc]
theorem infer_ok {x:List Rl} {roots:List Rq} {d:List (List Tm)} {y:Nf} {t:List Tm} (h:inferP x roots d y=some t):NfOk y:=by
 have h':=h;unfold inferP at h
 by_cases k0:y.kind=0
 ·rw [if_pos k0] at h;split at h
  ·cases e:nthZ roots y.number with
   | none=>rw [e] at h; cases h
   | some q=>exact ⟨fun _=>(nthZ_lt e).1,fun k=>by omega,fun k=>by omega,.inl k0⟩
  ·cases h
 ·rw [if_neg k0] at h
  by_cases k1:y.kind=1
  ·rw [if_pos k1] at h;split at h
   ·split at h
    ·cases h
    ·rename_i r hr
     have:=List.find?_some hr
     simp only [Bool.and_eq_true,decide_eq_true_eq] at this;have hp:=plc_range r.ver;exact ⟨fun k=>by omega,fun _=>by omega,fun k=>by omega,.inr (.inl k1)⟩
   ·cases h
  ·rw [if_neg k1] at h
   by_cases k2:y.kind=2
   ·exact ⟨fun k=>by omega,fun k=>by omega,fun k=>by omega,.inr (.inr (.inl k2))⟩
   ·rw [if_neg k2] at h
    by_cases k3:y.kind=3
    ·obtain ⟨a,b,ha,hb,_⟩:=infer_ref h' k3;exact ⟨fun k=>by omega,fun k=>by omega,fun _=>⟨(nthZ_lt ha).1,(nthZ_lt hb).1⟩,.inr (.inr (.inr k3))⟩
    ·rw [if_neg k3] at h; cases h
theorem derive_ok {x:List Rl} {roots:List Rq} {l:List Nf} {d:List (List Tm)} (h:deriveGo x roots l []=some d) {i:Nat} (hi:i<l.length):NfOk (l.getD i nf0):=infer_ok ((derive_at h).2 i hi)
def linesW (f:Nat→List Tm→Nf→ByteArray) (own:List Nf) (d:List (List Tm)):List ByteArray:=(List.range own.length).map fun k=>f k (d.getD k []) (own.getD k nf0)
def linesP (x:List Rl) (roots:List Rq) (l:List Nf) (target:Int):List ByteArray × Int :=
 if (deriveP x roots l).2≠0 then ([],(deriveP x roots l).2)
 else if target<0∨(l.length:Int)≤target then ([],2)
 else (linesW lineI (trimL l target) ((usedL l target).map fun i=>(deriveP x roots l).1.getD i []),0)
end Go.Eng

namespace Go.Eng
def verF (v:Ver):ByteArray:=if validB v then verT v.a v.b v.c else mkB []
end Go.Eng

namespace Go.Eng
theorem bsize_app (a b:ByteArray):(a++b).size=a.size+b.size:=ByteArray.size_append
theorem bsize_mk (l:List UInt8):(mkB l).size=l.length:=by simp [ByteArray.size]
theorem itB_size {n:Int} (h0 : -9223372036854775808≤n) (h1:n≤9223372036854775807):(itB n).size≤21:=by
 unfold itB; rw [bsize_mk]; exact Go.Lib.itoa_length_le n h0 h1
theorem joinB_size (sep:ByteArray) (B:Nat):∀ (l:List ByteArray),(∀ x ∈ l,x.size≤B)→(joinB sep l).size≤l.length*(B+sep.size)
 | [],_=>by simp [joinB_nil,bsize_mk]
 | [x],h=>by rw [joinB_one]; have:=h x (List.mem_singleton.2 rfl); simp; omega
 | x :: y :: r,h=>by
  rw [joinB_cons,bsize_app,bsize_app];have h1:=joinB_size sep B (y :: r) (fun z hz=>h z (List.mem_cons_of_mem _ hz));have h2:=h x (List.mem_cons_self ..);simp only [List.length_cons] at h1 ⊢;rw [Nat.add_mul (r.length+1) 1]; omega
theorem verT_size {a b c:Int} (ha : -1000000000≤a∧a≤1000000000) (hb : -1000000000≤b∧b≤1000000000) (hc : -1000000000≤c∧c≤1000000000):(verT a b c).size≤65:=by
 unfold verT;simp only [bsize_app]
 have:=itB_size (n:=a) (by omega) (by omega)
 have:=itB_size (n:=b) (by omega) (by omega)
 have:=itB_size (n:=c) (by omega) (by omega)
 have:bDot.size=1:=rfl
 omega
theorem plcT_size {m p:Int} (hm:0≤m∧m≤999) (hp:0≤p∧p≤1000000):(plcT m p).size≤65:=verT_size (by omega) (by omega) (by omega)
theorem spanT_size {m:Int} {x:Int × Int} (hm:0≤m∧m≤999) (h1:0≤x.1∧x.1≤1000000) (h2:0≤x.2∧x.2≤1000000):(spanT m x).size≤132:=by
 have:=plcT_size hm h1
 have:=plcT_size hm h2
 have e1:bStar.size=1:=rfl;have e2:bDots.size=2:=rfl;unfold spanT
 repeat' split
 all_goals (try simp only [bsize_app])
 all_goals omega
theorem canonF_rng:∀ {l:SpanL} {lo:Int},CanonF lo l→0≤lo→∀ x ∈ l,(0≤x.1∧x.1≤1000000)∧(0≤x.2∧x.2≤1000000):=by
 intro l
 induction l with
 | nil=>intro lo _ _ x hx; cases hx
 | cons y l ih =>
  intro lo h h0 x hx;obtain ⟨h1,h2,h3,h4⟩:=h;rcases List.mem_cons.1 hx with rfl | hx
  ·omega
  ·exact ih h4 (by omega) x hx
theorem canon_rng {s:SpanL} (h:Canon s):∀ x ∈ s,(0≤x.1∧x.1≤1000000)∧(0≤x.2∧x.2≤1000000):=canonF_rng h (Int.le_refl 0)
theorem setT_size {m:Int} (hm:0≤m∧m≤999) (s:SpanL):(setT m s).size≤135000004:=by
 unfold setT;split
 ·show (4:Nat)≤_; omega
 ·have h:=joinB_size bBar 132 ((canon s).map (spanT m)) (fun x hx=>by
   obtain ⟨y,hy,rfl⟩:=List.mem_map.1 hx
   have:=canon_rng (canon_canon s) y hy
   exact spanT_size hm this.1 this.2)
  have hl:=canon_len (canon_canon s);rw [List.length_map] at h;have e:bBar.size=3:=rfl;rw [e] at h;omega
theorem verL_rng {p:List UInt8} {n:Int} (h:verL p=some n):0≤n∧n≤999:=by
 have dg:∀ {c:UInt8},digitC c=true→48≤(c.toNat:Int)∧(c.toNat:Int)≤57:=fun {c} h=>by
  unfold digitC at h;simp only [Bool.and_eq_true,decide_eq_true_eq,UInt8.le_iff_toNat_le] at h;have h1:(48:UInt8).toNat=48:=rfl;have h2:(57:UInt8).toNat=57:=rfl;omega
 unfold verL at h;split at h
 ·rename_i c r;split at h
  ·split at h
   ·cases h
   ·rename_i hb;simp only [Bool.or_eq_true,not_or,decide_eq_true_eq,Bool.not_eq_true,Bool.not_eq_false'] at hb;obtain ⟨⟨⟨_,h3⟩,_⟩,h4⟩:=hb;have h4:r.all digitC=true:=by simpa using h4
    rw [List.all_eq_true] at h4;cases h
    match r,h3,h4 with
    | [],_,_=>decide
    | [a],_,h4=>have:=dg (h4 a (by simp)); simp only [numL,List.foldl_cons,List.foldl_nil]; omega
    | [a,b],_,h4=>have:=dg (h4 a (by simp)); have:=dg (h4 b (by simp)); simp only [numL,List.foldl_cons,List.foldl_nil]; omega
    | [a,b,c],_,h4=>have:=dg (h4 a (by simp)); have:=dg (h4 b (by simp)); have:=dg (h4 c (by simp)); simp only [numL,List.foldl_cons,List.foldl_nil]; omega
    | _ :: _ :: _ :: _ :: _,h3,_=>simp at h3
  ·cases h
 ·cases h
theorem majorP_rng (p:ByteArray):0≤majorP p∧majorP p≤999:=by
 unfold majorP pathMajor majorL;cases e:verL ((splitL 47 p.data.toList).getLastD []) with
 | none=>simp
 | some n =>
  have:=verL_rng e
  dsimp only;split
  ·simp
  ·split
   ·exact this
   ·simp
theorem termT_size {t:Tm} (h:t.path.size≤1048576):(termT t).size≤140000000:=by
 unfold termT setP;simp only [bsize_app]
 have:=setT_size (majorP_rng t.path) (if t.absent then compl t.set else t.set)
 have e:bBlank.size=1:=rfl;omega
end Go.Eng

namespace Go.Eng
def preB (p s:ByteArray):Bool:=decide (s.data.toList.take p.data.toList.length=p.data.toList)
theorem preB_app (p r:ByteArray):preB p (p++r)=true:=by
 unfold preB;simp
end Go.Eng

namespace Go.Eng
theorem decDigits_small {n:Nat} (h:n<10):Go.Lib.decDigits n=[UInt8.ofNat (48+n)]:=by rw [Go.Lib.decDigits,dif_pos h]
theorem decDigits_big {n:Nat} (h:¬ n<10):Go.Lib.decDigits n=Go.Lib.decDigits (n / 10)++[UInt8.ofNat (48+n % 10)]:=by rw [Go.Lib.decDigits,dif_neg h]
theorem digit_ofNat {k:Nat} (h:k<10):digitC (UInt8.ofNat (48+k))=true∧(UInt8.ofNat (48+k)).toNat=48+k:=by
 have:(UInt8.ofNat (48+k)).toNat=48+k:=by rw [UInt8.toNat_ofNat']; omega
 refine ⟨?_,this⟩;unfold digitC;simp only [Bool.and_eq_true,decide_eq_true_eq,UInt8.le_iff_toNat_le,this];exact ⟨by show 48≤48+k; omega,by show 48+k≤57; omega⟩
theorem decDigits_digit:∀ (n:Nat),∀ c ∈ Go.Lib.decDigits n,digitC c=true:=by
 intro n
 induction n using Nat.strongRecOn with
 | ind n ih =>
  intro c hc
  by_cases h:n<10
  ·rw [decDigits_small h,List.mem_singleton] at hc;rw [hc]; exact (digit_ofNat h).1
  ·rw [decDigits_big h,List.mem_append,List.mem_singleton] at hc;rcases hc with hc | hc
   ·exact ih (n / 10) (by omega) c hc
   ·rw [hc]; exact (digit_ofNat (by omega)).1
theorem decDigits_ne (n:Nat):Go.Lib.decDigits n≠[]:=by
 by_cases h:n<10
 ·rw [decDigits_small h]; simp
 ·rw [decDigits_big h]; simp
def plcL (m p:Nat):List UInt8:=Go.Lib.decDigits m++46 :: (Go.Lib.decDigits (p / 1000)++46 :: Go.Lib.decDigits (p % 1000))
theorem plcT_bytes (m p:Nat):(plcT m p).data.toList=plcL m p:=by
 unfold plcT verT plcL;rw [show ((p:Int) / 1000)=((p / 1000:Nat):Int) by omega,show ((p:Int) % 1000)=((p % 1000:Nat):Int) by omega,itB_nat,itB_nat,itB_nat];unfold decB;simp
def tailL (m a b:Nat):List UInt8:=if b=a+1 then [] else if b=1000000 then [46,46] else 46 :: 46 :: plcL m b
def spanL2 (m a b:Nat):List UInt8:=if a=0∧b=1000000 then [42] else if b=a+1∨b=1000000∨a≠0 then plcL m a++tailL m a b else 46 :: 46 :: plcL m b
theorem spanT_bytes (m a b:Nat):(spanT m ((a:Int),(b:Int))).data.toList=spanL2 m a b:=by
 unfold spanT spanL2 tailL;dsimp only
 by_cases h1:a=0∧b=1000000
 ·rw [if_pos (by omega),if_pos h1]
 ·rw [if_neg (by omega),if_neg h1]
  by_cases h2:b=a+1
  ·rw [if_pos (by omega),if_pos (.inl h2),if_pos h2,plcT_bytes,List.append_nil]
  ·rw [if_neg (by omega),if_neg h2]
   by_cases h3:b=1000000
   ·rw [if_pos (by omega),if_pos (.inr (.inl h3)),if_pos h3,ByteArray.toList_data_append,plcT_bytes]
   ·rw [if_neg (by omega),if_neg h3]
    by_cases h4:a=0
    ·rw [if_pos (by omega),if_neg (by omega),ByteArray.toList_data_append,plcT_bytes]; rfl
    ·rw [if_neg (by omega),if_pos (by omega),ByteArray.toList_data_append,ByteArray.toList_data_append,plcT_bytes,plcT_bytes,List.append_assoc]; rfl
end Go.Eng

namespace Go.Eng
theorem numGo_nonneg:∀ (l:List UInt8) (n:Int),0≤n→l.all digitC=true→0≤l.foldl (fun n c=>10*n+((c.toNat:Int) - 48)) n
 | [],n,h,_=>h
 | c :: l,n,h,hd=>by
  rw [List.all_cons,Bool.and_eq_true] at hd;rw [List.foldl_cons];refine numGo_nonneg l _ ?_ hd.2
  have:=hd.1
  unfold digitC at this;simp only [Bool.and_eq_true,decide_eq_true_eq,UInt8.le_iff_toNat_le] at this;have h1:48≤c.toNat:=this.1;omega
theorem verL_pos0:∀ {s:List UInt8} {n:Int},verL s=some n→0≤n
 | [],_,h=>by cases h
 | c :: r,n,h=>by
  unfold verL at h;dsimp only at h;split at h
  ·split at h
   ·cases h
   ·rename_i hr;have hd:r.all digitC=true:=by
     cases e:r.all digitC with
     | true=>rfl
     | false=>rw [e] at hr; simp at hr
    rw [← Option.some.inj h];exact numGo_nonneg r 0 (Int.le_refl _) hd
  ·cases h
theorem majorP_nonneg (p:ByteArray):0≤majorP p:=by
 unfold majorP pathMajor majorL;split
 ·exact Int.le_refl _
 ·rename_i n hn;have h0:=verL_pos0 hn;split
  ·exact Int.le_refl _
  ·split
   ·exact h0
   ·exact Int.le_refl _
def spC (c:UInt8):Bool:=digitC c||(decide (c=46)||decide (c=42))
theorem spC_digit {c:UInt8} (h:digitC c=true):spC c=true:=by unfold spC; rw [h]; rfl
theorem plcL_spC (m p:Nat):∀ c ∈ plcL m p,spC c=true:=fun c hc=>by
 unfold plcL at hc;simp only [List.mem_append,List.mem_cons] at hc;rcases hc with hc | rfl | hc | rfl | hc
 ·exact spC_digit (decDigits_digit _ c hc)
 ·decide
 ·exact spC_digit (decDigits_digit _ c hc)
 ·decide
 ·exact spC_digit (decDigits_digit _ c hc)
theorem tailL_spC (m a b:Nat):∀ c ∈ tailL m a b,spC c=true:=fun c hc=>by
 unfold tailL at hc;split at hc
 ·cases hc
 ·split at hc
  ·simp only [List.mem_cons,List.not_mem_nil,or_false,or_self] at hc; rw [hc]; decide
  ·rcases List.mem_cons.1 hc with rfl | hc
   ·decide
   ·rcases List.mem_cons.1 hc with rfl | hc
    ·decide
    ·exact plcL_spC _ _ c hc
theorem spanL2_spC (m a b:Nat):∀ c ∈ spanL2 m a b,spC c=true:=fun c hc=>by
 unfold spanL2 at hc;split at hc
 ·rw [List.mem_singleton.1 hc]; decide
 ·split at hc
  ·rcases List.mem_append.1 hc with hc | hc
   ·exact plcL_spC _ _ c hc
   ·exact tailL_spC _ _ _ c hc
  ·rcases List.mem_cons.1 hc with rfl | hc
   ·decide
   ·rcases List.mem_cons.1 hc with rfl | hc
    ·decide
    ·exact plcL_spC _ _ c hc
def Stop (r:List UInt8):Prop:=r=[]∨∃ c t,r=32 :: c :: t∧c≠124
def InR (x:Int × Int):Prop:=0≤x.1∧0≤x.2
theorem spanT_nat {m:Int} {x:Int × Int} (hm:0≤m) (h:InR x):(spanT m x).data.toList=spanL2 m.toNat x.1.toNat x.2.toNat:=by
 have:=spanT_bytes m.toNat x.1.toNat x.2.toNat
 rw [Int.toNat_of_nonneg hm,Int.toNat_of_nonneg h.1,Int.toNat_of_nonneg h.2] at this;exact this
def shown (t:Tm):SpanL:=if t.absent then compl t.set else t.set
theorem shown_canon {t:Tm} (h:Canon t.set):Canon (shown t):=by
 unfold shown; split
 ·exact compl_canon _
 ·exact h
end Go.Eng

namespace Go.Eng
theorem splitL_src (s:UInt8):∀ (p:List UInt8) (c:UInt8),c ∈ p→c=s∨∃ g ∈ splitL s p,c ∈ g
 | b :: r,c,hc=>by
  unfold splitL
  by_cases hb:b=s
  ·rw [if_pos hb];rcases List.mem_cons.1 hc with rfl | hc
   ·exact .inl hb
   ·rcases splitL_src s r c hc with h | ⟨g,h1,h2⟩
    ·exact .inl h
    ·exact .inr ⟨g,List.mem_cons_of_mem _ h1,h2⟩
  ·rw [if_neg hb];cases e:splitL s r with
   | nil =>
    rcases List.mem_cons.1 hc with rfl | hc
    ·exact .inr ⟨[c],List.mem_singleton.2 rfl,List.mem_singleton.2 rfl⟩
    ·rcases splitL_src s r c hc with h | ⟨g,h1,h2⟩
     ·exact .inl h
     ·rw [e] at h1; cases h1
   | cons x l =>
    rcases List.mem_cons.1 hc with rfl | hc
    ·exact .inr ⟨c :: x,List.mem_cons_self ..,List.mem_cons_self ..⟩
    ·rcases splitL_src s r c hc with h | ⟨g,h1,h2⟩
     ·exact .inl h
     ·rw [e] at h1;rcases List.mem_cons.1 h1 with rfl | h1
      ·exact .inr ⟨b :: g,List.mem_cons_self ..,List.mem_cons_of_mem _ h2⟩
      ·exact .inr ⟨g,List.mem_cons_of_mem _ h1,h2⟩
end Go.Eng

namespace Go.Eng
open Go.Lib (lastIndex index cut occAt atoiAll parseUint10 parseMag decDigits)
theorem parse_app:∀ (l:List UInt8) (acc u:Nat) (m:List UInt8),parseUint10 acc l=.ok u→parseUint10 acc (l++m)=parseUint10 u m
 | [],acc,u,m,h=>by
  simp only [parseUint10] at h
  injection h with h
  rw [h]; rfl
 | c :: r,acc,u,m,h=>by
  rw [List.cons_append];simp only [parseUint10] at h ⊢;split at h
  ·rename_i h1;rw [if_pos h1];split at h
   ·cases h
   ·rename_i h2;rw [if_neg h2];split at h
    ·cases h
    ·rename_i h3;rw [if_neg h3];exact parse_app r _ u m h
  ·cases h
theorem parse_dec (n:Nat):n<1000000000000000→parseUint10 0 (decDigits n)=.ok n:=by
 induction n using Nat.strongRecOn with
 | ind n ih =>
  intro hn
  by_cases h:n<10
  ·rw [decDigits_small h];simp only [parseUint10];rw [(digit_ofNat h).2,if_pos (by omega),if_neg (by omega),if_neg (by omega)]
   congr 1; omega
  ·rw [decDigits_big h,parse_app _ _ _ _ (ih (n / 10) (by omega) (by omega))];simp only [parseUint10];rw [(digit_ofNat (by omega:n % 10<10)).2,if_pos (by omega),if_neg (by omega),if_neg (by omega)]
   congr 1; omega
theorem atoi_dec {n:Nat} (h:n<1000000000000000):atoiAll (decDigits n)=.ok (n:Int):=by
 have hp:=parse_dec n h;cases e:decDigits n with
 | nil=>exact absurd e (decDigits_ne n)
 | cons c r =>
  have hd:=decDigits_digit n c (by rw [e]; exact List.mem_cons_self ..);unfold digitC at hd;simp only [Bool.and_eq_true,decide_eq_true_eq,UInt8.le_iff_toNat_le] at hd;have h1:48≤c.toNat:=hd.1;unfold atoiAll;dsimp only;rw [if_neg (by omega)]
  have:parseMag (c :: r)=.ok n:=by unfold parseMag; rw [if_neg (List.cons_ne_nil _ _),← e]; exact hp
  rw [this];dsimp only;rw [if_neg (by omega),if_neg (by omega),if_neg (by omega)]
theorem occ_head {s sub:List UInt8} {j:Nat} {a:UInt8} (h:s[j]?≠some a):occAt s (a :: sub) j=false:=by
 unfold occAt;cases e:s.drop j with
 | nil=>rfl
 | cons c r =>
  have:s[j]?=some c:=by rw [← List.head?_drop,e]; rfl
  rw [this] at h;simp only [List.isPrefixOf_cons_cons,Bool.and_eq_false_iff,beq_eq_false_iff_ne];exact .inl fun e=>h (by rw [e])
theorem occ_second {s sub:List UInt8} {j:Nat} {a b:UInt8} (h:s[j+1]?≠some b):occAt s (a :: b :: sub) j=false:=by
 unfold occAt;cases e:s.drop j with
 | nil=>rfl
 | cons c r =>
  have:s[j+1]?=r[0]?:=by
   have:=List.getElem?_drop (xs:=s) (i:=j) (j:=1)
   rw [← this,e]; rfl
  rw [this] at h;cases r with
  | nil=>simp only [List.isPrefixOf_cons_cons]; exact Bool.and_false _
  | cons d r =>
   simp only [List.isPrefixOf_cons_cons,Bool.and_eq_false_iff,beq_eq_false_iff_ne];exact .inr (.inl fun e=>h (by rw [e]; rfl))
theorem occ_pre (a sub r:List UInt8):occAt (a++(sub++r)) sub a.length=true:=by
 unfold occAt;rw [List.drop_left];exact List.isPrefixOf_iff_prefix.2 (List.prefix_append sub r)
theorem cut_and {a b:List UInt8} (ha:∀ c ∈ a,c≠32):cut (a++([32,97,110,100,32]++b)) [32,97,110,100,32]=(a,b,true):=by
 have hi:index (a++([32,97,110,100,32]++b)) [32,97,110,100,32]=a.length:=by
  refine Go.Lib.index_first (by rw [List.length_append]; omega) (occ_pre _ _ _) fun j hj=>occ_head ?_;rw [List.getElem?_append_left hj,List.getElem?_eq_getElem hj];exact fun e=>ha _ (List.getElem_mem hj) (Option.some.inj e)
 unfold cut;rw [hi,if_pos (by omega),Int.toNat_natCast,List.take_left,← List.drop_drop,List.drop_left]
 rfl
abbrev fromL:List UInt8:=[32,40,102,114,111,109,32]
theorem last_from {a r:List UInt8} (ha:40 ∉ a) (hr:40 ∉ r) :
  lastIndex (a++(32 :: 40 :: r)) fromL=-1∨lastIndex (a++(32 :: 40 :: r)) fromL=a.length:=by
 have h40:∀ j,(a++(32 :: 40 :: r))[j+1]?=some 40→j=a.length:=fun j hj=>by
  rcases Nat.lt_trichotomy j a.length with h | h | h
  ·by_cases h2:j+1<a.length
   ·rw [List.getElem?_append_left h2] at hj;exact absurd (List.mem_of_getElem? hj) ha
   ·rw [List.getElem?_append_right (by omega),show j+1 - a.length=0 by omega] at hj;exact absurd (Option.some.inj hj) (by decide)
  ·exact h
  ·rw [List.getElem?_append_right (by omega)] at hj;obtain ⟨k,hk⟩ : ∃ k,j+1 - a.length=k+2:=⟨j+1 - a.length - 2,by omega⟩;rw [hk] at hj;exact absurd (List.mem_of_getElem? (l:=r) (i:=k) hj) hr
 unfold lastIndex;split
 ·rcases Go.Lib.lastOcc_spec (a++(32 :: 40 :: r)) fromL ((a++(32 :: 40 :: r)).length - fromL.length+1) with h | ⟨i,_,h2,h3,_⟩
  ·exact .inl h.1
  ·refine .inr ?_;rw [h2]
   by_cases e:i=a.length
   ·rw [e]
   ·rw [occ_second fun e2=>e (h40 i e2)] at h3; cases h3
 ·exact .inl rfl
theorem last_yes {a r:List UInt8} (ha:40 ∉ a) (hr:40 ∉ r):lastIndex (a++(32 :: 40 :: 102 :: 114 :: 111 :: 109 :: 32 :: r)) fromL=a.length:=by
 have hr' : (40:UInt8) ∉ 102 :: 114 :: 111 :: 109 :: 32 :: r:=by simp [hr]
 rcases last_from (r:=102 :: 114 :: 111 :: 109 :: 32 :: r) ha hr' with h | h
 ·exfalso
  have ho:occAt (a++(32 :: 40 :: 102 :: 114 :: 111 :: 109 :: 32 :: r)) fromL a.length=true:=occ_pre a fromL r;unfold lastIndex at h;split at h
  ·rename_i hl;rcases Go.Lib.lastOcc_spec (a++(32 :: 40 :: 102 :: 114 :: 111 :: 109 :: 32 :: r)) fromL ((a++(32 :: 40 :: 102 :: 114 :: 111 :: 109 :: 32 :: r)).length - fromL.length+1) with h2 | ⟨i,_,h2,_,_⟩
   ·have:=h2.2 a.length (by simp only [List.length_append,List.length_cons,List.length_nil]; omega)
    rw [this] at ho; cases ho
   ·rw [h2] at h; omega
  ·rename_i hl;simp only [List.length_append,List.length_cons,List.length_nil] at hl;omega
 ·exact h
theorem last_no {a r:List UInt8} (ha:40 ∉ a) (hr:40 ∉ r) (h5:r[0]?≠some 102):lastIndex (a++(32 :: 40 :: r)) fromL=-1:=by
 have ho:occAt (a++(32 :: 40 :: r)) fromL a.length=false:=by
  unfold occAt;rw [List.drop_left];cases r with
  | nil=>rfl
  | cons c r =>
   have:(102:UInt8)≠c:=fun e=>h5 (by rw [e]; rfl)
   simp only [List.isPrefixOf_cons_cons];rw [beq_eq_false_iff_ne.2 this]; simp
 rcases last_from ha hr with h | h
 ·exact h
 ·exfalso
  unfold lastIndex at h;split at h
  ·rcases Go.Lib.lastOcc_spec (a++(32 :: 40 :: r)) fromL ((a++(32 :: 40 :: r)).length - fromL.length+1) with h2 | ⟨i,_,h2,h3,_⟩
   ·rw [h2.1] at h; omega
   ·rw [h2] at h
    have:i=a.length:=by omega
    rw [this,ho] at h3; cases h3
  ·omega
end Go.Eng

namespace Go.Eng
theorem checkRqs_path:∀ {l:List Rq} {b:Option ByteArray},checkRqsGo b l=0→∀ q ∈ l,(pathMajor q.path).isSome=true
 | q :: l,b,h,z,hz=>by
  unfold checkRqsGo at h;split at h
  ·rename_i h1;rcases List.mem_cons.1 hz with rfl | hz
   ·unfold rqOk at h1;split at h1
    ·cases h1
    ·rename_i h2;cases e:pathMajor z.path with
     | none=>rw [e] at h2; exact absurd rfl h2
     | some n=>rfl
   ·exact checkRqs_path h z hz
  ·rename_i h1; exact absurd h h1
theorem rqs_path {l:List Rq} (h:checkRqs l=0):∀ q ∈ l,(pathMajor q.path).isSome=true:=by
 unfold checkRqs at h;split at h
 ·cases h
 ·exact checkRqs_path h
def Vp (t:List Tm):Prop:=SortedT none t∧∀ u ∈ t,(pathMajor u.path).isSome=true
theorem ofT_vp {l:List Tm} (h:∀ u ∈ l,(pathMajor u.path).isSome=true):Vp (ofT l):=by
 have:=ofT_in (U:=l.map (·.path)) (l:=l) fun u hu=>List.mem_map.2 ⟨u,hu,rfl⟩
 refine ⟨this.1,fun u hu=>?_⟩;obtain ⟨v,hv,e⟩:=List.mem_map.1 (this.2 u hu);rw [← e]; exact h v hv
theorem resolveT_vp {a b:List Tm} {p:ByteArray} (ha:Vp a) (hb:Vp b):Vp (resolveT a b p).1:=by
 have:=resolveT_in (U:=(a++b).map (·.path)) (a:=a) (b:=b) (p:=p) ⟨ha.1,fun u hu=>List.mem_map.2 ⟨u,List.mem_append_left _ hu,rfl⟩⟩ ⟨hb.1,fun u hu=>List.mem_map.2 ⟨u,List.mem_append_right _ hu,rfl⟩⟩
 refine ⟨this.1,fun u hu=>?_⟩;obtain ⟨v,hv,e⟩:=List.mem_map.1 (this.2 u hu);rw [← e];rcases List.mem_append.1 hv with hv | hv
 ·exact ha.2 v hv
 ·exact hb.2 v hv
theorem ne0_eq {a b:List Tm} (h:ne0 a=some b):b=a:=by
 unfold ne0 at h;split at h
 ·cases h
 ·exact (Option.some.inj h).symm
theorem infer_vp {x:List Rl} {roots:List Rq} {d:List (List Tm)} {y:Nf} {t:List Tm} (hx:checkIx x=0) (hr:checkRqs roots=0) (hd:∀ a ∈ d,Vp a)
  (hk:y.kind=2→(pathMajor y.path).isSome=true) (h:inferP x roots d y=some t):Vp t:=by
 have h':=h;unfold inferP at h
 by_cases k0:y.kind=0
 ·rw [if_pos k0] at h;split at h
  ·cases e:nthZ roots y.number with
   | none=>rw [e] at h; cases h
   | some q =>
    rw [e] at h;rw [← Option.some.inj h];refine ofT_vp fun u hu=>?_;rw [List.mem_singleton.1 hu];exact rqs_path hr q (List.mem_of_getElem? (nthZ_lt e).2.2)
  ·cases h
 ·rw [if_neg k0] at h
  by_cases k1:y.kind=1
  ·rw [if_pos k1] at h;split at h
   ·split at h
    ·cases h
    ·rename_i r hrel;split at h
     ·cases h
     ·rename_i q hq;rw [ne0_eq h];have h1:=List.find?_some hrel;simp only [Bool.and_eq_true,decide_eq_true_eq] at h1;have hrl:=(checkIx_ok hx).1 r (List.mem_of_find?_eq_some hrel);refine ofT_vp fun u hu=>?_;simp only [List.mem_cons,List.not_mem_nil,or_false] at hu;rcases hu with rfl | rfl
      ·dsimp only; rw [← h1.1,hrl.maj]; rfl
      ·exact rqs_path hrl.reqs q (List.mem_of_getElem? (nthZ_lt hq).2.2)
   ·cases h
  ·rw [if_neg k1] at h
   by_cases k2:y.kind=2
   ·rw [if_pos k2] at h;split at h
    ·rw [ne0_eq h];refine ofT_vp fun u hu=>?_;rw [List.mem_singleton.1 hu];exact hk k2
    ·cases h
   ·rw [if_neg k2] at h
    by_cases k3:y.kind=3
    ·obtain ⟨a,b,ha,hb,_,_,_,e⟩:=infer_ref h' k3;rw [← e];exact resolveT_vp (hd a (List.mem_of_getElem? (nthZ_lt ha).2.2)) (hd b (List.mem_of_getElem? (nthZ_lt hb).2.2))
    ·rw [if_neg k3] at h; cases h
theorem derive_vp {x:List Rl} {roots:List Rq} (hx:checkIx x=0) (hr:checkRqs roots=0):∀ {l:List Nf} {d d' : List (List Tm)},(∀ a ∈ d,Vp a)→(∀ y ∈ l,y.kind=2→(pathMajor y.path).isSome=true) →
  deriveGo x roots l d=some d'→∀ a ∈ d',Vp a
 | [],d,d',hd,_,h=>by cases h; exact hd
 | y :: l,d,d',hd,hk,h=>by
  unfold deriveGo at h;split at h
  ·cases h
  ·rename_i t ht;refine derive_vp hx hr (d:=d++[t]) (fun a ha=>?_) (fun z hz=>hk z (List.mem_cons_of_mem _ hz)) h;rcases List.mem_append.1 ha with ha | ha
   ·exact hd a ha
   ·rw [List.mem_singleton.1 ha];exact infer_vp hx hr hd (hk y (List.mem_cons_self ..)) ht
-- no parenthesis in the text of an incompatibility
def noP (c:UInt8):Bool:=decide (c≠40)
abbrev NoP (s:ByteArray):Prop:=∀ c ∈ s.data.toList,noP c=true
theorem NoP.app {a b:ByteArray} (ha:NoP a) (hb:NoP b):NoP (a++b):=fun c hc=>by
 rw [ByteArray.toList_data_append] at hc;rcases List.mem_append.1 hc with hc | hc
 ·exact ha c hc
 ·exact hb c hc
theorem NoP.join {sep:ByteArray} (hs:NoP sep):∀ {l:List ByteArray},(∀ z ∈ l,NoP z)→NoP (joinB sep l)
 | [],_=>by rw [joinB_nil]; exact fun c hc=>by cases hc
 | [z],h=>by rw [joinB_one]; exact h z (List.mem_cons_self ..)
 | z :: w :: r,h=>by
  rw [joinB_cons];exact (h z (List.mem_cons_self ..)).app (hs.app (NoP.join hs fun u hu=>h u (List.mem_cons_of_mem _ hu)))
theorem spC_noP {c:UInt8} (h:spC c=true):noP c=true:=by
 unfold noP;refine decide_eq_true fun e=>?_;subst e
 revert h; decide
theorem digit_noP {c:UInt8} (h:digitC c=true):noP c=true:=spC_noP (spC_digit h)
theorem NoP.dec (n:Nat):NoP (decB n):=fun c hc=>digit_noP (decDigits_digit n c hc)
theorem path_noP {p:ByteArray} (h:(pathMajor p).isSome=true):NoP p:=by
 unfold pathMajor majorL at h;split at h
 ·cases h
 ·split at h
  ·cases h
  ·split at h
   ·rename_i h2;intro c hc;unfold noP;refine decide_eq_true fun e=>?_;subst e;rcases splitL_src 47 _ _ hc with e | ⟨g,g1,g2⟩
    ·exact absurd e (by decide)
    ·have:=List.all_eq_true.1 h2 g g1
     unfold segOk at this;rw [Bool.and_eq_true] at this
     have:=List.all_eq_true.1 this.2 40 g2
     revert this; decide
   ·cases h
theorem set_noP {m:Int} (hm:0≤m) {s:SpanL} (hs:Canon s):NoP (setT m s):=by
 unfold setT;rw [canon_of_canon hs];split
 ·decide
 ·refine NoP.join (by decide) fun z hz=>?_;obtain ⟨w,hw,rfl⟩:=List.mem_map.1 hz
  have:=hs.low w hw
  intro c hc;rw [spanT_nat hm ⟨by omega,by omega⟩] at hc;exact spC_noP (spanL2_spC _ _ _ c hc)
theorem term_noP {t:Tm} (hc:Canon t.set) (hp:(pathMajor t.path).isSome=true):NoP (termT t):=by
 change NoP (t.path++bBlank++setT (majorP t.path) (shown t))
 exact ((path_noP hp).app (by decide)).app (set_noP (majorP_nonneg _) (shown_canon hc))
theorem inc_noP {t:List Tm} (h:Vp t) (hf:canonT t=some t):NoP (incText t):=by
 unfold incText;rw [hf];have hh:NoP (joinB bAnd (haveL t)):=NoP.join (by decide) fun z hz=>by
  obtain ⟨u,hu,rfl⟩:=List.mem_map.1 hz;exact term_noP (h.1.canon u (List.mem_filter.1 hu).1) (h.2 u (List.mem_filter.1 hu).1)
 have hn:NoP (joinB bOr (needL t)):=NoP.join (by decide) fun z hz=>by
  obtain ⟨u,hu,rfl⟩:=List.mem_map.1 hz;exact term_noP (h.1.canon u (List.mem_filter.1 hu).1) (h.2 u (List.mem_filter.1 hu).1)
 have k1:NoP bThis:=by unfold NoP; decide +kernel
 have k2:NoP bImp:=by unfold NoP; decide +kernel
 have k3:NoP bDo:=by unfold NoP; decide +kernel
 have k4:NoP bNeeded:=by unfold NoP; decide +kernel
 have k5:NoP bNeeds:=by unfold NoP; decide +kernel
 have k6:NoP bNeed:=by unfold NoP; decide +kernel
 dsimp only;unfold incF;split
 ·split
  ·exact k1
  ·split
   ·exact hh.app k2
   ·exact hh.app k3
 ·split
  ·exact hn.app k4
  ·split
   ·exact (hh.app k5).app hn
   ·exact (hh.app k6).app hn
end Go.Eng

namespace Go.Eng
open Go.Lib (lastIndex)
theorem infer_path {x:List Rl} {roots:List Rq} {d:List (List Tm)} {y:Nf} {t:List Tm} (hx:checkIx x=0) (h:inferP x roots d y=some t) (k1:y.kind=1):(pathMajor y.path).isSome=true:=by
 unfold inferP at h;rw [k1,if_neg (by decide),if_pos rfl] at h;split at h
 ·split at h
  ·cases h
  ·rename_i r hrel;have h1:=List.find?_some hrel;simp only [Bool.and_eq_true,decide_eq_true_eq] at h1;rw [← h1.1,((checkIx_ok hx).1 r (List.mem_of_find?_eq_some hrel)).maj]; rfl
 ·cases h
theorem l_rFrom:rFrom.data.toList=[102,114,111,109,32]:=by decide +kernel
theorem reason_no {y:Nf} (h:NfOk y) (h1:y.kind=1→(pathMajor y.path).isSome=true):NoP (reasonR y)∧(y.kind≠3→(reasonR y).data.toList[0]?≠some 102∧(reasonR y).data.toList≠[]):=by
 obtain ⟨_,h2,_,hk⟩:=h;have k1:NoP rRoot:=by unfold NoP; decide +kernel
 have k2:NoP rBy:=by unfold NoP; decide +kernel
 have k3:NoP rNoOther:=by unfold NoP; decide +kernel
 have k4:NoP rFrom:=by unfold NoP; decide +kernel
 have e1:rRoot.data.toList=[114,111,111,116,32]:=by decide +kernel
 have e2:rBy.data.toList=[98,121,32]:=by decide +kernel
 have e3:rNoOther.data.toList=110 :: (rNoOther.data.toList.drop 1):=by decide +kernel
 unfold reasonR
 by_cases c0:y.kind=0
 ·rw [if_pos c0];refine ⟨k1.app (NoP.dec _),fun _=>?_⟩;rw [ByteArray.toList_data_append,e1];exact ⟨by simp,by simp⟩
 ·rw [if_neg c0]
  by_cases c1:y.kind=1
  ·rw [if_pos c1];refine ⟨((k2.app (path_noP (h1 c1))).app (by decide)).app (set_noP (majorP_nonneg _) ?_),fun _=>?_⟩
   ·have:=h2 c1
    exact ⟨this.1,by show y.place<y.place+1; omega,by show y.place+1≤1000000; omega,trivial⟩
   ·simp only [ByteArray.toList_data_append,e2];exact ⟨by simp,by simp⟩
  ·rw [if_neg c1]
   by_cases c2:y.kind=2
   ·rw [if_pos c2];refine ⟨k3,fun _=>?_⟩;rw [e3];exact ⟨by simp,by simp⟩
   ·rw [if_neg c2];exact ⟨((k4.app (NoP.dec _)).app (by decide)).app (NoP.dec _),fun h=>absurd (by omega) h⟩
def NumOk (i:Nat) (s:ByteArray):Prop :=
 (∃ r,s=itB ((i:Int)+1)++bDotBlank++r)∧(∃ r,s=r++bClose) ∧
 (lastIndex s.data.toList fromL=-1∨∃ (p:List UInt8) (a b:Nat),s.data.toList=p++(fromL++(Go.Lib.decDigits a++([32,97,110,100,32]++(Go.Lib.decDigits b++[41]))))∧lastIndex s.data.toList fromL=p.length∧(1≤a∧a≤i)∧(1≤b∧b≤i))
theorem lineR_num {k:Nat} {t:List Tm} {y:Nf} (hv:Vp t) (hf:canonT t=some t) (h:NfOk y) (h1:y.kind=1→(pathMajor y.path).isSome=true) (h3:y.kind=3→badRef k y=false):NumOk k (lineR k t y):=by
 have hr:=reason_no h h1;have hi:=inc_noP hv hf;have hA:NoP (decZ ((k:Int)+1)++bDotBlank++incText t):=((NoP.dec _).app (by decide)).app hi;generalize hAe:decZ ((k:Int)+1)++bDotBlank++incText t=A at hA;have hA40:40 ∉ A.data.toList:=fun hm=>by have:=hA 40 hm; revert this; decide
 have hR40:40 ∉ (reasonR y).data.toList++[41]:=fun hm=>by
  rcases List.mem_append.1 hm with hm | hm
  ·have:=hr.1 40 hm; revert this; decide
  ·simp at hm
 have hs:(lineR k t y).data.toList=A.data.toList++(32 :: 40 :: ((reasonR y).data.toList++[41])):=by
  unfold lineR;rw [hAe];simp only [ByteArray.toList_data_append,List.append_assoc]
  rfl
 refine ⟨⟨incText t++(⟨#[32,40]⟩ : ByteArray)++reasonR y++bClose,?_⟩,⟨decZ ((k:Int)+1)++bDotBlank++incText t++(⟨#[32,40]⟩ : ByteArray)++reasonR y,rfl⟩,?_⟩
 ·unfold lineR;rw [itB_eq (by omega)];unfold decZ; simp only [bapp_assoc]
 ·rw [hs]
  by_cases k3:y.kind=3
  ·obtain ⟨⟨b1,b2⟩,⟨b3,b4⟩⟩:=bad_false (h3 k3);have hre:(reasonR y).data.toList=[102,114,111,109,32]++(Go.Lib.decDigits (y.left+1).toNat++([32,97,110,100,32]++Go.Lib.decDigits (y.right+1).toNat)):=by
    unfold reasonR;rw [if_neg (by omega),if_neg (by omega),if_neg (by omega)];simp only [ByteArray.toList_data_append,l_rFrom,List.append_assoc]
    rfl
   rw [hre] at hR40 ⊢;refine .inr ⟨A.data.toList,(y.left+1).toNat,(y.right+1).toNat,by simp only [List.append_assoc]; rfl,?_,by omega,by omega⟩
   have:=last_yes (a:=A.data.toList) (r:=Go.Lib.decDigits (y.left+1).toNat++([32,97,110,100,32]++Go.Lib.decDigits (y.right+1).toNat)++[41]) hA40 (fun hm=>hR40 (by
    rw [List.append_assoc];exact List.mem_append_right _ hm))
   rw [← this];simp only [List.append_assoc]; rfl
  ·refine .inl (last_no hA40 hR40 ?_)
   have:=hr.2 k3
   cases e:(reasonR y).data.toList with
   | nil=>exact absurd e this.2
   | cons c r =>
    rw [e] at this;rw [List.cons_append];exact this.1
theorem form_trim {x:List Rl} {roots:List Rq} {l:List Nf} {d:List (List Tm)} (h:deriveGo x roots l []=some d):∀ t ∈ d,canonT t=some t :=
 deriveGo_form (fun t ht=>by cases ht) h
theorem numbers_ok {x:List Rl} {roots:List Rq} {l:List Nf} (h:(deriveP x roots l).2=0) (hk:∀ y ∈ l,y.kind=2→(pathMajor y.path).isSome=true) {t:Nat} (ht:t<l.length) :
  (linesP x roots l t).2=0∧(linesP x roots l t).1.length=(usedL l t).length∧∀ i,i<(usedL l t).length→NumOk i ((linesP x roots l t).1.getD i mt):=by
 obtain ⟨h1,h2,h3,h4⟩:=deriveP_ok h;have hD:=derive_trim h4 ht;obtain ⟨m,f1,f2,f3,f4,_⟩:=trim_facts h4 ht;have hvp:=derive_vp h1 h2 (fun a ha=>by cases ha) hk h4;have hform:=form_trim h4;have e:linesP x roots l t=(linesW lineI (trimL l t) ((usedL l t).map fun i=>(deriveP x roots l).1.getD i []),0):=by
  unfold linesP;rw [if_neg (by rw [h]; decide),if_neg (by omega)]
 rw [e];refine ⟨rfl,by unfold linesW; rw [List.length_map,List.length_range,f2,f1],fun i hi=>?_⟩;have hio:i<(trimL l t).length:=by omega
 have hg:(linesW lineI (trimL l t) ((usedL l t).map fun i=>(deriveP x roots l).1.getD i [])).getD i mt=lineI i (((usedL l t).map fun i=>(deriveP x roots l).1.getD i []).getD i []) ((trimL l t).getD i nf0) :=
  getD_of (by unfold linesW; rw [List.getElem?_map,List.getElem?_range hio]; rfl)
 dsimp only;rw [hg,line_eq (derive_ok hD hio)];have hD2:=(derive_at hD).2 i hio;have hmem:((usedL l t).map fun i=>(deriveP x roots l).1.getD i []).getD i [] ∈ (deriveP x roots l).1∨((usedL l t).map fun i=>(deriveP x roots l).1.getD i []).getD i []=[]:=by
  obtain ⟨j,hj⟩ : ∃ j,(usedL l t)[i]?=some j:=⟨_,List.getElem?_eq_getElem hi⟩;rw [getD_of (d:=[]) (a:=(deriveP x roots l).1.getD j []) (by rw [List.getElem?_map,hj]; rfl)]
  by_cases hl:j<(deriveP x roots l).1.length
  ·exact .inl (List.mem_of_getElem? (getD_some [] hl))
  ·exact .inr (by rw [List.getD_eq_getElem?_getD,List.getElem?_eq_none (by omega)]; rfl)
 have hV:Vp (((usedL l t).map fun i=>(deriveP x roots l).1.getD i []).getD i [])∧canonT (((usedL l t).map fun i=>(deriveP x roots l).1.getD i []).getD i [])=some (((usedL l t).map fun i=>(deriveP x roots l).1.getD i []).getD i []):=by
  rcases hmem with hm | hm
  ·exact ⟨hvp _ hm,hform _ hm⟩
  ·rw [hm]; exact ⟨⟨trivial,fun u hu=>by cases hu⟩,rfl⟩
 exact lineR_num hV.1 hV.2 (derive_ok hD hio) (fun k1=>infer_path h1 hD2 k1) (fun k3=>derive_refs hD i hio k3)
end Go.Eng

namespace Go.Eng
abbrev exL2:ByteArray:=(⟨#[51,46,32,97,47,118,49,32,49,46,48,46,48,32,105,115,32,110,101,101,100,101,100,32,40,102,114,111,109,32,49,32,97,110,100,32,50,41]⟩ : ByteArray)
abbrev exL3:ByteArray:=(⟨#[52,46,32,97,47,118,49,32,49,46,48,46,48,32,110,101,101,100,115,32,98,47,118,49,32,49,46,50,46,48,46,46,32,40,98,121,32,97,47,118,49,32,49,46,48,46,48,41]⟩ : ByteArray)
abbrev exL5:ByteArray:=(⟨#[54,46,32,97,47,118,49,32,49,46,48,46,48,32,105,115,32,105,109,112,111,115,115,105,98,108,101,32,40,102,114,111,109,32,52,32,97,110,100,32,53,41]⟩ : ByteArray)
abbrev exL6:ByteArray:=(⟨#[55,46,32,116,104,105,115,32,105,115,32,105,109,112,111,115,115,105,98,108,101,32,40,102,114,111,109,32,51,32,97,110,100,32,54,41]⟩ : ByteArray)
def awake38:Bool :=
 decide ((linesP exIx exRoots exInf 6).2=0)&&decide ((linesP exIx exRoots exInf 6).1.length=7)&&decide ((linesP exIx exRoots exInf 6).1[2]?=some exL2)&&decide ((linesP exIx exRoots exInf 6).1[3]?=some exL3) &&
 decide ((linesP exIx exRoots exInf 6).1[5]?=some exL5)&&decide ((linesP exIx exRoots exInf 6).1[6]?=some exL6)&&decide (usedL exInf 5=[3,4,5])&&decide ((trimL exInf 2).length=3)
theorem awake38_true:awake38=true:=by decide +kernel
theorem refutes_last {d:List (List Tm)} {m:Nat} (h:d.length=m+1):refutedB d=decide (d.getD m []=[]):=by
 unfold refutedB;rw [List.getLast?_eq_getElem?,h,Nat.add_sub_cancel,List.getD_eq_getElem?_getD];cases e:d[m]? with
 | none=>rw [List.getElem?_eq_none_iff] at e; omega
 | some t=>cases t <;> rfl
theorem keeps_ok {x:List Rl} {roots:List Rq} {l:List Nf} (h:(deriveP x roots l).2=0) {t:Nat} (ht:t<l.length) :
  ∃ m,(trimL l t).length=m+1∧(deriveP x roots (trimL l t)).2=0∧(deriveP x roots (trimL l t)).1.length=m+1∧(deriveP x roots (trimL l t)).1.getD m []=(deriveP x roots l).1.getD t [] ∧
   (usedL (trimL l t) m).length=m+1∧trimL (trimL l t) m=trimL l t∧(refutesP x roots (trimL l t)=0↔(deriveP x roots l).1.getD t []=[]):=by
 obtain ⟨h1,h2,h3,h4⟩:=deriveP_ok h;have hD:=derive_trim h4 ht;obtain ⟨m,f1,f2,f3,f4,f5,f6⟩:=trim_facts h4 ht;have hle:(trimL l t).length≤65536:=by
  obtain ⟨u,hu,hU⟩:=derive_marks h4 ht
  have:=(marks_spec ht hu).1
  have h5:(usedL l t).length≤u.length:=by
   rw [hU]; unfold usedU;exact Nat.le_trans (List.length_filter_le _ _) (by rw [List.length_range]; omega)
  omega
 have hP:=deriveP_of h1 h2 hle hD;refine ⟨m,f2,by rw [hP],by rw [hP]; exact f4,by rw [hP]; exact f3,by rw [f5,List.length_range],f6,?_⟩;unfold refutesP;rw [hP];dsimp only;rw [if_neg (by decide),refutes_last f4,f3]
 by_cases e:(deriveP x roots l).1.getD t []=[]
 ·rw [if_pos (by rw [e]; decide)]; exact ⟨fun _=>e,fun _=>rfl⟩
 ·rw [if_neg (by rw [decide_eq_false e]; decide)]; exact ⟨fun h=>absurd h (by decide),fun h=>absurd h e⟩
end Go.Eng

namespace Go.Eng
def kwW:List (List UInt8):=[[97,110,100],[97,110,121],[97,115],[98,111,111,108],[100,101,112,114,101,99,97,116,101,100],[101,108,115,101],[101,120,112,111,114,116],[102,97,108,115,101],[102,110],[102,111,108,100],[102,114,111,109],[105,102],[105,109,112,111,114,116],[105,110],[105,110,116],[108,101,110,103,116,104],[108,101,116],[108,105,115,116],[109,97,116,99,104],[109,111,100,117,108,101],[110,111,110,101],[110,111,116],[111,114],[116,101,120,116],[116,104,101,110],[116,114,117,101],[116,121,112,101],[117,115,101]]
theorem keyTxt_eq:keyTxt=32 :: kwW.flatMap (fun w=>w++[32]):=by decide +kernel
theorem kwW_ok:∀ w ∈ kwW,∀ c ∈ w,c≠32:=by decide +kernel
theorem preL_word:∀ (s w r:List UInt8),(∀ c ∈ s,c≠32)→(∀ c ∈ w,c≠32)→preL (s++[32]) (w++32 :: r)=decide (w=s)
 | [],[],r,_,_=>by simp [preL]
 | [],b :: w,r,_,hw=>by
  have:=hw b (List.mem_cons_self ..)
  simp [preL,this.symm]
 | a :: s,[],r,hs,_=>by
  have:=hs a (List.mem_cons_self ..)
  simp [preL,this]
 | a :: s,b :: w,r,hs,hw=>by
  have ih:=preL_word s w r (fun c hc=>hs c (List.mem_cons_of_mem _ hc)) (fun c hc=>hw c (List.mem_cons_of_mem _ hc));rw [List.cons_append,List.cons_append,preL,ih]
  by_cases e:a=b
  ·subst e; simp
  ·have e2:¬ b=a:=fun h=>e h.symm;simp [e,e2]
theorem inL_skip (x:List UInt8):∀ (w r:List UInt8),(∀ c ∈ w,c≠32)→inL (32 :: x) (w++r)=inL (32 :: x) r
 | [],_,_=>rfl
 | b :: w,r,h=>by
  have hb:=h b (List.mem_cons_self ..);rw [List.cons_append,inL,inL_skip x w r (fun c hc=>h c (List.mem_cons_of_mem _ hc))]
  have:preL (32 :: x) (b :: (w++r))=false:=by simp [preL,hb.symm]
  rw [this,Bool.false_or]
theorem inL_words (s:List UInt8) (hs:∀ c ∈ s,c≠32):∀ ws:List (List UInt8),(∀ w ∈ ws,∀ c ∈ w,c≠32)→inL (32 :: (s++[32])) (32 :: ws.flatMap (fun w=>w++[32]))=ws.any (fun w=>decide (w=s))
 | [],_=>by
  cases s with
  | nil=>simp [inL,preL]
  | cons a s=>simp [inL,preL]
 | w :: ws,h=>by
  have hw:=h w (List.mem_cons_self ..);have ih:=inL_words s hs ws (fun v hv=>h v (List.mem_cons_of_mem _ hv));have e:(w :: ws).flatMap (fun w=>w++[32])=w++32 :: ws.flatMap (fun w=>w++[32]):=by simp [List.flatMap_cons]
  rw [e,inL,preL,preL_word s w _ hs hw,inL_skip _ w _ hw,ih,List.any_cons];simp
theorem word_32 {s:List UInt8} (h:s.all wordC=true):∀ c ∈ s,c≠32:=fun c hc e=>by
 have:=List.all_eq_true.1 h c hc
 rw [e] at this;exact absurd this (by decide)
theorem keyB_words {s:List UInt8} (h:s.all wordC=true):keyB s=kwW.any (fun w=>decide (w=s)):=by
 unfold keyB;rw [keyTxt_eq,inL_words s (word_32 h) kwW kwW_ok]
end Go.Eng
