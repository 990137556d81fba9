/- Lemmas for the claims of this seat, without a condition: part 1 (P1, P2, P3, P4, P5, P6, P7). -/
namespace Go.Eng
def inSpan (p:Int) (s:Int × Int):Bool:=decide (s.1≤p)&&decide (p<s.2)
def has (s:List (Int × Int)) (p:Int):Bool:=decide (0≤p)&&decide (p<1000000)&&s.any (inSpan p)
abbrev SpanL:=List (Int × Int)
def CanonF (lo:Int):SpanL→Prop
 | []=>True
 | y :: r=>lo≤y.1∧y.1<y.2∧y.2≤1000000∧CanonF (y.2+1) r
abbrev Canon (l:SpanL):Prop:=CanonF 0 l
def addS (x:Int × Int):SpanL→SpanL
 | []=>[x]
 | y :: r=>if x.2<y.1 then x :: y :: r else if y.2<x.1 then y :: addS x r else addS (min x.1 y.1,max x.2 y.2) r
def clip (x:Int × Int):Int × Int:=(max x.1 0,min x.2 1000000)
def canon:SpanL→SpanL
 | []=>[]
 | x :: r=>if (clip x).1<(clip x).2 then addS (clip x) (canon r) else canon r
def complF (at_:Int):SpanL→SpanL
 | []=>if at_<1000000 then [(at_,1000000)] else []
 | y :: r=>if at_<y.1 then (at_,y.1) :: complF y.2 r else complF y.2 r
def compl (s:SpanL):SpanL:=complF 0 (canon s)
def unionL (l:List SpanL):SpanL:=canon l.flatten
def interL (l:List SpanL):SpanL:=compl (l.map compl).flatten
def union (a b:SpanL):SpanL:=unionL [a,b]
def inter (a b:SpanL):SpanL:=interL [a,b]
def minus (a b:SpanL):SpanL:=inter a (compl b)
def subset (a b:SpanL):Bool:=(minus a b).isEmpty

theorem CanonF.mono {lo lo' : Int} : ∀ {l:SpanL},CanonF lo l→lo'≤lo→CanonF lo' l
 | [],_,_=>trivial
 | _ :: _,⟨h1,h2,h3,h4⟩,h=>⟨Int.le_trans h h1,h2,h3,h4⟩
theorem CanonF.low {lo:Int} : ∀ {l:SpanL},CanonF lo l→∀ y ∈ l,lo≤y.1∧y.1<y.2∧y.2≤1000000
 | y :: r,⟨h1,h2,h3,h4⟩,z,hz=>by
  rcases List.mem_cons.1 hz with rfl | hz
  ·exact ⟨h1,h2,h3⟩
  ·have:=h4.low z hz
   exact ⟨by omega,this.2.1,this.2.2⟩
theorem inSpan_iff {p:Int} {s:Int × Int} : inSpan p s=true↔s.1≤p∧p<s.2:=by simp [inSpan]
theorem any_low {lo:Int} {l:SpanL} (h:CanonF lo l) {p:Int} (hp:l.any (inSpan p)=true):lo≤p:=by
 obtain ⟨y,hy,h2⟩:=List.any_eq_true.1 hp
 have:=h.low y hy
 have:=inSpan_iff.1 h2
 omega
theorem any_high {lo:Int} {l:SpanL} (h:CanonF lo l) {p:Int} (hp:l.any (inSpan p)=true):p<1000000:=by
 obtain ⟨y,hy,h2⟩:=List.any_eq_true.1 hp
 have:=h.low y hy
 have:=inSpan_iff.1 h2
 omega
theorem addS_canon:∀ (l:SpanL) {lo:Int} {x:Int × Int},CanonF lo l→lo≤x.1→x.1<x.2→x.2≤1000000→CanonF lo (addS x l)
 | [],lo,x,_,h1,h2,h3=>⟨h1,h2,h3,trivial⟩
 | y :: r,lo,x,⟨g1,g2,g3,g4⟩,h1,h2,h3=>by
  unfold addS;split
  ·exact ⟨h1,h2,h3,by omega,g2,g3,g4⟩
  ·split
   ·exact ⟨g1,g2,g3,addS_canon r g4 (by omega) h2 h3⟩
   ·refine addS_canon r (g4.mono (by omega)) ?_ ?_ ?_ <;> dsimp only <;> omega
theorem addS_any:∀ (l:SpanL) {lo:Int} {x:Int × Int} (p:Int),CanonF lo l→x.1<x.2→(addS x l).any (inSpan p)=(inSpan p x||l.any (inSpan p))
 | [],lo,x,p,_,_=>by simp [addS]
 | y :: r,lo,x,p,⟨g1,g2,g3,g4⟩,h2=>by
  unfold addS;split
  ·simp
  ·split
   ·rw [List.any_cons,addS_any r p g4 h2,List.any_cons,← Bool.or_assoc,← Bool.or_assoc,Bool.or_comm (inSpan p y)]
   ·rw [addS_any r p g4 (by dsimp only; omega),List.any_cons,← Bool.or_assoc]
    congr 1
    simp only [inSpan];rw [Bool.eq_iff_iff];simp only [Bool.and_eq_true,Bool.or_eq_true,decide_eq_true_eq];omega
theorem canon_canon:∀ s:SpanL,Canon (canon s)
 | []=>trivial
 | x :: r=>by
  unfold canon;split
  ·rename_i h;refine addS_canon _ (canon_canon r) ?_ h ?_ <;> simp only [clip] <;> omega
  ·exact canon_canon r
theorem canon_any:∀ (s:SpanL) (p:Int),(canon s).any (inSpan p)=has s p
 | [],p=>by simp [has,canon]
 | x :: r,p=>by
  have ih:=canon_any r p;unfold canon;have hx:inSpan p (clip x)=(decide (0≤p)&&decide (p<1000000)&&inSpan p x):=by
   simp only [inSpan,clip];rw [Bool.eq_iff_iff];simp only [Bool.and_eq_true,decide_eq_true_eq,Int.max_le,Int.lt_min];omega
  split
  ·rename_i h;rw [addS_any _ p (canon_canon r) h,ih,hx];simp only [has,List.any_cons];cases decide (0≤p) <;> cases decide (p<1000000) <;> simp
  ·rename_i h;rw [ih];simp only [has,List.any_cons]
   have:inSpan p (clip x)=false:=by
    rw [Bool.eq_false_iff];intro h3
    have:=inSpan_iff.1 h3
    omega
   rw [this] at hx;cases h1:decide (0≤p) <;> cases h2:decide (p<1000000) <;> simp_all
theorem has_of_canon {l:SpanL} (h:Canon l) (p:Int):has l p=l.any (inSpan p):=by
 unfold has;cases e:l.any (inSpan p) with
 | false=>simp
 | true=>have h1:0≤p:=any_low h e; have h2:=any_high h e; simp [h1,h2]
theorem has_canon (s:SpanL) (p:Int):has (canon s) p=has s p:=by
 rw [has_of_canon (canon_canon s),canon_any]
theorem canonF_unique:∀ {a b:SpanL} {lo:Int},CanonF lo a→CanonF lo b→(∀ p,a.any (inSpan p)=b.any (inSpan p))→a=b
 | [],[],_,_,_,_=>rfl
 | [],z :: s,_,_,⟨g1,g2,g3,g4⟩,h=>by
  have:=h z.1
  rw [List.any_cons,inSpan_iff.2 ⟨Int.le_refl _,g2⟩] at this;simp at this
 | y :: r,[],_,⟨g1,g2,g3,g4⟩,_,h=>by
  have:=h y.1
  rw [List.any_cons,inSpan_iff.2 ⟨Int.le_refl _,g2⟩] at this;simp at this
 | y :: r,z :: s,lo,⟨f1,f2,f3,f4⟩,⟨g1,g2,g3,g4⟩,h=>by
  have below:∀ {x:Int × Int} {t:SpanL} {p:Int},CanonF (x.2+1) t→(x :: t).any (inSpan p)=true→p≤x.2→x.1≤p∧p<x.2:=fun {x t p} ht hp hle=>by
   rw [List.any_cons,Bool.or_eq_true] at hp;rcases hp with hp | hp
   ·exact inSpan_iff.1 hp
   ·have:=any_low ht hp; omega
  have low:∀ {x:Int × Int} {t:SpanL} {p:Int},x.1<x.2→CanonF (x.2+1) t→(x :: t).any (inSpan p)=true→x.1≤p:=fun {x t p} hx ht hp=>by
   rw [List.any_cons,Bool.or_eq_true] at hp;rcases hp with hp | hp
   ·exact (inSpan_iff.1 hp).1
   ·have:=any_low ht hp; omega
  have cov:∀ {x:Int × Int} {t:SpanL} {p:Int},x.1≤p→p<x.2→(x :: t).any (inSpan p)=true:=fun {x t p} h1 h2=>by
   rw [List.any_cons,inSpan_iff.2 ⟨h1,h2⟩,Bool.true_or]
  have e1:y.1=z.1:=by
   have a1:=low f2 f4 ((h z.1).trans (cov (Int.le_refl _) g2));have a2:=low g2 g4 ((h y.1).symm.trans (cov (Int.le_refl _) f2));omega
  have e2:y.2=z.2:=by
   rcases Int.lt_trichotomy y.2 z.2 with hl | he | hl
   ·have:=below f4 ((h y.2).trans (cov (by omega) hl)) (Int.le_refl _); omega
   ·exact he
   ·have:=below g4 ((h z.2).symm.trans (cov (by omega) hl)) (Int.le_refl _); omega
  have e:y=z:=Prod.ext e1 e2;subst e
  congr 1
  refine canonF_unique f4 g4 fun p=>?_;have hp:=h p;simp only [List.any_cons] at hp;cases hs:inSpan p y with
  | false=>rw [hs,Bool.false_or,Bool.false_or] at hp; exact hp
  | true =>
   have:=inSpan_iff.1 hs
   have n:∀ {t:SpanL},CanonF (y.2+1) t→t.any (inSpan p)=false:=fun {t} ht=>by
    rw [Bool.eq_false_iff]; intro hx; have:=any_low ht hx; omega
   rw [n f4,n g4]
theorem canon_unique {a b:SpanL} (ha:Canon a) (hb:Canon b) (h:∀ p,has a p=has b p):a=b :=
 canonF_unique ha hb fun p=>by rw [← has_of_canon ha,← has_of_canon hb,h]
theorem canon_eq {a s:SpanL} (ha:Canon a) (h:∀ p,has a p=has s p):a=canon s :=
 canon_unique ha (canon_canon s) fun p=>by rw [h,has_canon]
theorem canon_of_canon {a:SpanL} (ha:Canon a):canon a=a:=(canon_eq ha fun _=>rfl).symm
theorem has_in {s:SpanL} {p:Int} (h:has s p=true):0≤p∧p<1000000:=by
 unfold has at h; simp only [Bool.and_eq_true,decide_eq_true_eq] at h; exact h.1
def inPl (p:Int):Bool:=decide (0≤p)&&decide (p<1000000)
theorem complF_canon:∀ (l:SpanL) {at_ lo:Int},0≤at_→CanonF lo l→lo≤at_+1→at_≤lo→CanonF at_ (complF at_ l)∧∀ p,(complF at_ l).any (inSpan p)=(decide (at_≤p)&&decide (p<1000000)&&!l.any (inSpan p))
 | [],at_,lo,h0,_,h1,h2=>by
  unfold complF;split
  ·exact ⟨⟨Int.le_refl _,by dsimp only; omega,Int.le_refl _,trivial⟩,fun p=>by simp [inSpan]⟩
  ·refine ⟨trivial,fun p=>?_⟩
   have:(decide (at_≤p)&&decide (p<1000000))=false:=by
    rw [Bool.eq_false_iff]; simp only [ne_eq,Bool.and_eq_true,decide_eq_true_eq]; omega
   simp [this]
 | y :: r,at_,lo,h0,⟨g1,g2,g3,g4⟩,h1,h2=>by
  have ih:=complF_canon r (at_:=y.2) (by omega) g4 (Int.le_refl _) (by omega);have key:∀ p,(decide (at_≤p)&&decide (p<y.1)||(complF y.2 r).any (inSpan p))=(decide (at_≤p)&&decide (p<1000000)&&!(y :: r).any (inSpan p)):=fun p=>by
   rw [ih.2,List.any_cons];cases hr:r.any (inSpan p) with
   | true =>
    have:=any_low g4 hr
    have a:decide (p<y.1)=false:=decide_eq_false (by omega);simp [a]
   | false =>
    rw [Bool.eq_iff_iff];simp only [inSpan,Bool.and_eq_true,Bool.or_eq_true,decide_eq_true_eq,Bool.not_eq_true',Bool.or_false,Bool.and_eq_false_iff,decide_eq_false_iff_not,Bool.not_false,and_true];omega
  unfold complF;split
  ·rename_i h;refine ⟨⟨Int.le_refl _,h,by dsimp only; omega,ih.1 |> fun c=>?_⟩,fun p=>?_⟩
   ·dsimp only;cases e:complF y.2 r with
    | nil=>trivial
    | cons z s =>
     rw [e] at c;exact ⟨by have:=c.1; omega,c.2⟩
   ·rw [List.any_cons,← key]; rfl
  ·rename_i h;refine ⟨ih.1.mono (by omega),fun p=>?_⟩;rw [← key]
   have:(decide (at_≤p)&&decide (p<y.1))=false:=by
    rw [Bool.eq_false_iff]; simp only [ne_eq,Bool.and_eq_true,decide_eq_true_eq]; omega
   rw [this,Bool.false_or]
theorem compl_canon (s:SpanL):Canon (compl s):=by
 unfold compl;exact (complF_canon _ (Int.le_refl _) (canon_canon s) (by omega) (Int.le_refl _)).1
theorem has_compl (s:SpanL) (p:Int):has (compl s) p=(inPl p&&!has s p):=by
 rw [has_of_canon (compl_canon s)];unfold compl;rw [(complF_canon _ (Int.le_refl _) (canon_canon s) (by omega) (Int.le_refl _)).2,canon_any]; rfl
theorem has_append (a b:SpanL) (p:Int):has (a++b) p=(has a p||has b p):=by
 simp only [has,List.any_append];cases decide (0≤p) <;> cases decide (p<1000000) <;> simp
theorem has_flatten:∀ (l:List SpanL) (p:Int),has l.flatten p=l.any fun s=>has s p
 | [],p=>by simp [has]
 | s :: l,p=>by rw [List.flatten_cons,has_append,has_flatten l p,List.any_cons]
theorem has_unionL (l:List SpanL) (p:Int):has (unionL l) p=l.any fun s=>has s p:=by
 unfold unionL; rw [has_canon,has_flatten]
theorem unionL_canon (l:List SpanL):Canon (unionL l):=canon_canon _
theorem interL_canon (l:List SpanL):Canon (interL l):=compl_canon _
theorem has_interL (l:List SpanL) (p:Int):has (interL l) p=(inPl p&&l.all fun s=>has s p):=by
 unfold interL;rw [has_compl,has_flatten,List.any_map];cases h:inPl p with
 | false=>rfl
 | true =>
  rw [Bool.true_and,Bool.true_and,List.not_any_eq_all_not]
  congr 1
  funext s
  simp [has_compl,h]
theorem union_canon (a b:SpanL):Canon (union a b):=canon_canon _
theorem inter_canon (a b:SpanL):Canon (inter a b):=compl_canon _
theorem has_union (a b:SpanL) (p:Int):has (union a b) p=(has a p||has b p):=by
 unfold union; rw [has_unionL]; simp
theorem has_inter (a b:SpanL) (p:Int):has (inter a b) p=(has a p&&has b p):=by
 unfold inter; rw [has_interL];simp only [List.all_cons,List.all_nil,Bool.and_true];cases h:has a p with
 | false=>simp
 | true=>have:=has_in h; simp [inPl,this]
theorem inter_self (s:SpanL):inter s s=canon s:=canon_unique (inter_canon _ _) (canon_canon _) fun p=>by rw [has_inter,has_canon,Bool.and_self]
theorem canon_nil_iff {s:SpanL} : canon s=[]↔∀ p,has s p=false:=by
 constructor
 ·intro h p; rw [← has_canon,h]; simp [has]
 ·intro h; exact canon_unique (canon_canon s) (b:=[]) trivial fun p=>by rw [has_canon,h p]; simp [has]
theorem nil_iff_of_canon {s:SpanL} (hs:Canon s):s=[]↔∀ p,has s p=false:=by
 rw [← canon_nil_iff,canon_of_canon hs]
def cnt (l:List SpanL) (p:Int):Nat:=l.countP fun s=>has s p
theorem canonF_len:∀ {l:SpanL} {lo:Int},CanonF lo l→lo≤1000000→(l.length:Int)≤1000000 - lo
 | [],lo,_,h=>by simp; omega
 | y :: r,lo,⟨g1,g2,g3,g4⟩,h=>by
  by_cases h3:y.2+1≤1000000
  ·have:=canonF_len g4 h3
   simp only [List.length_cons]; omega
  ·cases r with
   | nil=>simp; omega
   | cons z s=>have:=g4.1; have:=g4.2.1; have:=g4.2.2.1; omega
theorem canon_len {l:SpanL} (h:Canon l):l.length≤1000000:=by have:=canonF_len h (by omega); omega
end Go.Eng

namespace Go.Eng
structure Ver where
 (a b c:Int)
structure Rq where
 path:ByteArray
 set:List (Int × Int)
structure Rl where
 path:ByteArray
 ver:Ver
 reqs:List Rq
 (arch ifc cert:ByteArray)
 yanked:Bool
structure Sl where
 path:ByteArray
 ver:Ver
structure Tm where
 path:ByteArray
 absent:Bool
 set:List (Int × Int)
structure Nf where
 kind:Int
 path:ByteArray
 (place number left right:Int)
structure Sk where
 path:ByteArray
 (place inf:Int)
structure An where
 found:Bool
 sel:List Sl
 infs:List Nf
 skips:List Sk
instance:DecidableEq Ver:=fun x y=>decidable_of_iff (x.a=y.a∧x.b=y.b∧x.c=y.c) ⟨fun ⟨h1,h2,h3⟩=>by cases x; cases y; simp_all,fun h=>by subst h; exact ⟨rfl,rfl,rfl⟩⟩
instance:DecidableEq Sl:=fun x y=>decidable_of_iff (x.path=y.path∧x.ver=y.ver) ⟨fun ⟨h1,h2⟩=>by cases x; cases y; simp_all,fun h=>by subst h; exact ⟨rfl,rfl⟩⟩
theorem tm_ext {x y:Tm} (h1:x.path=y.path) (h2:x.absent=y.absent) (h3:x.set=y.set):x=y:=by cases x; cases y; simp_all
def okPart (n:Int):Prop:=0≤n∧n≤999
instance (n:Int):Decidable (okPart n):=by unfold okPart; infer_instance
def validB (v:Ver):Bool:=decide (okPart v.a)&&decide (okPart v.b)&&decide (okPart v.c)
def place (v:Ver):Int:=1000*v.b+v.c
def plc (v:Ver):Int:=if validB v then place v else 0
def findSl (s:List Sl) (p:ByteArray):Option Sl:=s.find? fun x=>decide (x.path=p)
def holds (t:Tm) (s:List Sl):Bool :=
 match s.find? (fun x=>decide (x.path=t.path)) with
 | none=>t.absent
 | some x=>validB x.ver&&has t.set (place x.ver)
def hasPath (s:List Sl) (p:ByteArray):Bool:=s.any fun x=>decide (x.path=p)
def violated (l:List Tm) (s:List Sl):Bool:=l.all fun t=>holds t s
def entailed (l:List Tm) (s:List Sl):Bool:=violated l s&&!l.any fun t=>!hasPath s t.path

def lexB:List UInt8→List UInt8→Bool
 | [],[]=>false
 | [],_ :: _=>true
 | _ :: _,[]=>false
 | a :: x,b :: y=>decide (a<b)||(decide (a=b)&&lexB x y)
def blt (a b:ByteArray):Bool:=lexB a.data.toList b.data.toList
theorem lexB_irrefl:∀ x,lexB x x=false
 | []=>rfl
 | a :: x=>by
  unfold lexB;simp [lexB_irrefl x]
theorem lexB_trans:∀ {x y z},lexB x y=true→lexB y z=true→lexB x z=true
 | [],[],_,h,_=>by simp [lexB] at h
 | [],_ :: _,[],_,h=>by simp [lexB] at h
 | [],_ :: _,_ :: _,_,_=>rfl
 | _ :: _,[],_,h,_=>by simp [lexB] at h
 | _ :: _,_ :: _,[],_,h=>by simp [lexB] at h
 | a :: x,b :: y,c :: z,h1,h2=>by
  unfold lexB at *
  simp only [Bool.or_eq_true,Bool.and_eq_true,decide_eq_true_eq] at *
  rcases h1 with h1 | ⟨rfl,h1⟩
  ·rcases h2 with h2 | ⟨rfl,h2⟩
   ·exact .inl (UInt8.lt_trans h1 h2)
   ·exact .inl h1
  ·rcases h2 with h2 | ⟨rfl,h2⟩
   ·exact .inl h2
   ·exact .inr ⟨rfl,lexB_trans h1 h2⟩
theorem lexB_tri:∀ {x y},lexB x y=false→lexB y x=false→x=y
 | [],[],_,_=>rfl
 | [],_ :: _,h,_=>by simp [lexB] at h
 | _ :: _,[],_,h=>by simp [lexB] at h
 | a :: x,b :: y,h1,h2=>by
  unfold lexB at *
  simp only [Bool.or_eq_false_iff,Bool.and_eq_false_iff,decide_eq_false_iff_not] at *
  have e:a=b:=by
   have l1:=UInt8.not_lt.1 h1.1;have l2:=UInt8.not_lt.1 h2.1;exact UInt8.le_antisymm l2 l1
  subst e
  have:=lexB_tri (x:=x) (y:=y) (by simpa using h1.2) (by simpa using h2.2)
  rw [this]
theorem bext {a b:ByteArray} (h:a.data.toList=b.data.toList):a=b:=by
 cases a; cases b; simp only [ByteArray.mk.injEq]; exact Array.toList_inj.1 h
theorem blt_irrefl (a:ByteArray):blt a a=false:=lexB_irrefl _
theorem blt_trans {a b c:ByteArray} (h:blt a b=true) (k:blt b c=true):blt a c=true:=lexB_trans h k
theorem blt_tri {a b:ByteArray} (h:blt a b=false) (k:blt b a=false):a=b:=bext (lexB_tri h k)
theorem blt_ne {a b:ByteArray} (h:blt a b=true):a≠b:=fun e=>by subst e; rw [blt_irrefl] at h; cases h
theorem blt_asymm {a b:ByteArray} (h:blt a b=true):blt b a=false:=by
 rw [Bool.eq_false_iff]; intro k; have:=blt_trans h k; rw [blt_irrefl] at this; cases this

def canT1 (t:Tm):Tm:=⟨t.path,t.absent,canon t.set⟩
def bothT (u t:Tm):Tm:=⟨u.path,u.absent&&t.absent,inter u.set t.set⟩
def insT (t:Tm):List Tm→List Tm
 | []=>[canT1 t]
 | u :: r=>if blt u.path t.path then u :: insT t r else if u.path=t.path then bothT u t :: r else canT1 t :: u :: r
def mergeT (l:List Tm):List Tm:=l.foldl (fun acc t=>insT t acc) []
def neverT (t:Tm):Bool:=!t.absent&&t.set.isEmpty
def alwaysT (t:Tm):Bool:=t.absent&&decide (t.set=[(0,1000000)])
def canonT (l:List Tm):Option (List Tm):=if (mergeT l).any neverT then none else some ((mergeT l).filter fun t=>!alwaysT t)
def ofT (l:List Tm):List Tm:=(canonT l).getD []
def outside (q:Rq):Tm:=⟨q.path,true,compl q.set⟩
def rootT (q:Rq):List Tm:=ofT [outside q]
def requiresT (path:ByteArray) (pl:Int) (q:Rq):List Tm:=ofT [⟨path,false,[(pl,pl+1)]⟩,outside q]
def noneT (path:ByteArray) (avail:SpanL):List Tm:=ofT [⟨path,false,compl avail⟩]
def findT (l:List Tm) (p:ByteArray):Option Tm:=l.find? fun t=>decide (t.path=p)
def withoutT (l:List Tm) (p:ByteArray):List Tm:=l.filter fun t=>!decide (t.path=p)
def eitherT (a b:Tm):Tm:=⟨a.path,a.absent||b.absent,union a.set b.set⟩
def splitT (l:List Tm) (p:ByteArray):Option (Tm × List Tm):=match canonT l with
 | none=>none
 | some c=>match findT c p with
  | none=>none
  | some t=>some (t,withoutT c p)
def resolveT (a b:List Tm) (p:ByteArray):List Tm × Int :=
 match splitT a p,splitT b p with
 | some (t,r),some (u,m)=>match canonT (r++m++[eitherT t u]) with
  | some o=>(o,0)
  | none=>([],8)
 | _,_=>([],1)

def SortedT (lo:Option ByteArray):List Tm→Prop
 | []=>True
 | t :: r=>(∀ p,lo=some p→blt p t.path=true)∧Canon t.set∧SortedT (some t.path) r
theorem SortedT.weak {lo:Option ByteArray} : ∀ {l:List Tm},SortedT lo l→SortedT none l
 | [],_=>trivial
 | _ :: _,⟨_,h2,h3⟩=>⟨fun _ h=>(by cases h),h2,h3⟩
theorem SortedT.low {p:ByteArray} : ∀ {l:List Tm},SortedT (some p) l→∀ t ∈ l,blt p t.path=true
 | t :: r,⟨h1,h2,h3⟩,u,hu=>by
  rcases List.mem_cons.1 hu with rfl | hu
  ·exact h1 p rfl
  ·exact blt_trans (h1 p rfl) (h3.low u hu)
theorem SortedT.canon {lo:Option ByteArray} : ∀ {l:List Tm},SortedT lo l→∀ t ∈ l,Canon t.set
 | t :: r,⟨h1,h2,h3⟩,u,hu=>by
  rcases List.mem_cons.1 hu with rfl | hu
  ·exact h2
  ·exact h3.canon u hu
theorem SortedT.mono {p q:ByteArray} : ∀ {l:List Tm},SortedT (some p) l→blt q p=true→SortedT (some q) l
 | [],_,_=>trivial
 | t :: r,⟨h1,h2,h3⟩,h=>⟨fun _ e=>by cases e; exact blt_trans h (h1 p rfl),h2,h3⟩
theorem insT_sorted:∀ {l:List Tm} {lo:Option ByteArray} (t:Tm),SortedT lo l→(∀ p,lo=some p→blt p t.path=true)→SortedT lo (insT t l)
 | [],lo,t,_,h=>⟨h,canon_canon _,trivial⟩
 | u :: r,lo,t,⟨h1,h2,h3⟩,h=>by
  unfold insT;split
  ·rename_i hlt;exact ⟨h1,h2,insT_sorted t h3 fun p e=>by cases e; exact hlt⟩
  ·rename_i hlt;split
   ·rename_i he;exact ⟨h1,inter_canon _ _,h3⟩
   ·rename_i he;refine ⟨h,canon_canon _,fun p e=>?_,h2,h3⟩;cases e
    have:blt u.path t.path=false:=by simpa using hlt
    cases hb:blt t.path u.path with
    | true=>exact hb
    | false=>exact absurd (blt_tri this hb) he
theorem foldl_sorted:∀ (l acc:List Tm),SortedT none acc→SortedT none (l.foldl (fun acc t=>insT t acc) acc)
 | [],_,h=>h
 | t :: l,acc,h=>foldl_sorted l _ (insT_sorted t h fun _ e=>by cases e)
theorem mergeT_sorted (l:List Tm):SortedT none (mergeT l):=foldl_sorted l [] trivial
theorem findT_cons (t:Tm) (r:List Tm) (p:ByteArray):findT (t :: r) p=if t.path=p then some t else findT r p:=by
 unfold findT; rw [List.find?_cons]; by_cases h:t.path=p <;> simp [h]
theorem findT_none_of_low {p q:ByteArray} {l:List Tm} (h:SortedT (some p) l) (hq:blt p q=false):findT l q=none:=by
 unfold findT;rw [List.find?_eq_none];intro t ht
 have:=h.low t ht
 simp only [decide_eq_true_eq];intro e; subst e; rw [hq] at this; cases this
def putO (o:Option Tm) (t:Tm):Tm:=match o with | none=>canT1 t | some u=>bothT u t
theorem putO_path (o:Option Tm) (t:Tm) (h:∀ u,o=some u→u.path=t.path):(putO o t).path=t.path:=by
 cases o with
 | none=>rfl
 | some u=>exact h u rfl
theorem findT_path {l:List Tm} {p:ByteArray} {u:Tm} (h:findT l p=some u):u.path=p:=by
 have:=List.find?_some h; simpa using this
theorem findT_mem {l:List Tm} {p:ByteArray} {u:Tm} (h:findT l p=some u):u ∈ l:=List.mem_of_find?_eq_some h
theorem findT_insT:∀ {l:List Tm} {lo:Option ByteArray} (t:Tm) (p:ByteArray),SortedT lo l→findT (insT t l) p=if t.path=p then some (putO (findT l p) t) else findT l p
 | [],lo,t,p,_=>by
  unfold insT;rw [findT_cons];show (if t.path=p then some (canT1 t) else none)=_
  by_cases h:t.path=p <;> simp [h,findT,putO]
 | u :: r,lo,t,p,⟨h1,h2,h3⟩=>by
  unfold insT;split
  ·rename_i hlt;rw [findT_cons,findT_cons,findT_insT t p h3]
   by_cases hu:u.path=p
   ·have:¬ t.path=p:=fun e=>blt_ne hlt (hu.trans e.symm)
    simp [hu,this]
   ·simp [hu]
  ·rename_i hlt;split
   ·rename_i he;rw [findT_cons,findT_cons];show (if u.path=p then some (bothT u t) else _)=_
    by_cases hu:u.path=p
    ·simp [hu,he▸hu,putO]
    ·have:¬ t.path=p:=fun e=>hu (he.trans e)
     simp [hu,this]
   ·rename_i he;rw [findT_cons];show (if t.path=p then some (canT1 t) else _)=_
    by_cases ht:t.path=p
    ·have hn:findT (u :: r) p=none:=by
      rw [findT_cons];have hu:¬ u.path=p:=fun e=>he (e.trans ht.symm);simp only [hu,if_false];exact findT_none_of_low h3 (by subst ht; simpa using hlt)
     simp [ht,hn,putO]
    ·simp [ht]
def stepO (p:ByteArray) (o:Option Tm) (t:Tm):Option Tm:=if t.path=p then some (putO o t) else o
theorem findT_foldl (p:ByteArray):∀ (l acc:List Tm),SortedT none acc→findT (l.foldl (fun acc t=>insT t acc) acc) p=l.foldl (stepO p) (findT acc p)
 | [],_,_=>rfl
 | t :: l,acc,h=>by
  rw [List.foldl_cons,findT_foldl p l _ (insT_sorted t h fun _ e=>by cases e),findT_insT t p h]; rfl
theorem findT_mergeT (l:List Tm) (p:ByteArray):findT (mergeT l) p=l.foldl (stepO p) none:=findT_foldl p l [] trivial
theorem sortedT_unique:∀ {a b:List Tm} {lo:Option ByteArray},SortedT lo a→SortedT lo b→(∀ p,findT a p=findT b p)→a=b
 | [],[],_,_,_,_=>rfl
 | [],z :: s,_,_,_,h=>by have:=h z.path; rw [findT_cons,if_pos rfl] at this; cases this
 | z :: s,[],_,_,_,h=>by have:=h z.path; rw [findT_cons,if_pos rfl] at this; cases this
 | y :: r,z :: s,lo,⟨f1,f2,f3⟩,⟨g1,g2,g3⟩,h=>by
  have e:y=z:=by
   have a1:=h y.path;have a2:=h z.path;rw [findT_cons,if_pos rfl,findT_cons] at a1;rw [findT_cons,findT_cons z,if_pos rfl] at a2
   by_cases e:z.path=y.path
   ·rw [if_pos e] at a1; exact Option.some.inj a1
   ·rw [if_neg e] at a1;rw [if_neg (fun c=>e c.symm)] at a2;have b1:=SortedT.low g3 y (findT_mem a1.symm);have b2:=SortedT.low f3 z (findT_mem a2)
    have:=blt_trans b1 b2
    rw [blt_irrefl] at this; cases this
  subst e
  congr 1
  refine sortedT_unique f3 g3 fun p=>?_;have hp:=h p;rw [findT_cons,findT_cons] at hp
  by_cases e:y.path=p
  ·subst e;rw [findT_none_of_low f3 (blt_irrefl _),findT_none_of_low g3 (blt_irrefl _)]
  ·simpa [e] using hp
theorem SortedT.filter (q:Tm→Bool):∀ {l:List Tm} {lo:Option ByteArray},SortedT lo l→SortedT lo (l.filter q)
 | [],_,_=>trivial
 | t :: r,lo,⟨h1,h2,h3⟩=>by
  have ih:=SortedT.filter q h3;rw [List.filter_cons];split
  ·exact ⟨h1,h2,ih⟩
  ·cases lo with
   | none=>exact ih.weak
   | some p=>exact ih.mono (h1 p rfl)
theorem findT_some_iff {l:List Tm} {lo:Option ByteArray} {t:Tm} (h:SortedT lo l):t ∈ l↔findT l t.path=some t:=by
 constructor
 ·induction l generalizing lo with
  | nil=>intro h; cases h
  | cons u r ih =>
   intro ht;rw [findT_cons];rcases List.mem_cons.1 ht with rfl | ht
   ·rw [if_pos rfl]
   ·have:=SortedT.low h.2.2 t ht
    rw [if_neg (blt_ne this)];exact ih h.2.2 ht
 ·exact findT_mem
end Go.Eng

namespace Go.Eng
def holdsS (t:Tm) (o:Option Sl):Bool:=match o with | none=>t.absent | some x=>validB x.ver&&has t.set (place x.ver)
theorem holds_eq (t:Tm) (s:List Sl):holds t s=holdsS t (findSl s t.path):=by
 unfold holds holdsS findSl; rfl
theorem findSl_path {s:List Sl} {p:ByteArray} {x:Sl} (h:findSl s p=some x):x.path=p:=by
 have:=List.find?_some h; simpa using this
theorem findSl_mem {s:List Sl} {p:ByteArray} {x:Sl} (h:findSl s p=some x):x ∈ s:=List.mem_of_find?_eq_some h
theorem hasPath_iff {s:List Sl} {p:ByteArray} : hasPath s p=(findSl s p).isSome:=by
 unfold hasPath findSl; rw [Bool.eq_iff_iff,List.find?_isSome,List.any_eq_true]
theorem holdsS_can (t:Tm) (o:Option Sl):holdsS (canT1 t) o=holdsS t o:=by
 unfold holdsS canT1; cases o <;> simp [has_canon]
theorem holdsS_both (u t:Tm) (o:Option Sl):holdsS (bothT u t) o=(holdsS u o&&holdsS t o):=by
 unfold holdsS bothT;cases o with
 | none=>rfl
 | some x=>simp only [has_inter]; cases validB x.ver <;> simp
theorem holdsS_either (u t:Tm) (o:Option Sl):holdsS (eitherT u t) o=(holdsS u o||holdsS t o):=by
 unfold holdsS eitherT;cases o with
 | none=>rfl
 | some x=>simp only [has_union]; cases validB x.ver <;> simp
def allP (p:ByteArray) (o:Option Sl) (l:List Tm):Bool:=l.all fun t=>!decide (t.path=p)||holdsS t o
theorem foldl_stepO (p:ByteArray) (o:Option Sl):∀ (l:List Tm) (a:Option Tm),(∀ u,a=some u→u.path=p) →
  (l.foldl (stepO p) a=none↔a=none∧l.all (fun t=>!decide (t.path=p))=true)∧(∀ u,l.foldl (stepO p) a=some u→u.path=p∧holdsS u o=((match a with | none=>true | some b=>holdsS b o)&&allP p o l))
 | [],a,ha=>by
  refine ⟨by simp,fun u h=>?_⟩;have h:a=some u:=h;subst h;exact ⟨ha u rfl,by simp [allP]⟩
 | t :: l,a,ha=>by
  rw [List.foldl_cons]
  by_cases e:t.path=p
  ·have hs:stepO p a t=some (putO a t):=by unfold stepO; rw [if_pos e]
   rw [hs];have ih:=foldl_stepO p o l (some (putO a t)) (fun u h=>by cases h; rw [putO_path a t fun u h=>(ha u h).trans e.symm]; exact e);refine ⟨⟨fun h=>?_,fun h=>?_⟩,fun u h=>?_⟩
   ·have:=ih.1.1 h; cases this.1
   ·simp [e] at h
   ·obtain ⟨h1,h2⟩:=ih.2 u h;refine ⟨h1,?_⟩;rw [h2]
    have:allP p o (t :: l)=(holdsS t o&&allP p o l):=by simp [allP,e]
    rw [this];cases a with
    | none=>simp [putO,holdsS_can]
    | some b=>simp [putO,holdsS_both,Bool.and_assoc]
  ·have hs:stepO p a t=a:=by unfold stepO; rw [if_neg e]
   rw [hs];have ih:=foldl_stepO p o l a ha
   have:allP p o (t :: l)=allP p o l:=by simp [allP,e]
   rw [this];refine ⟨?_,ih.2⟩;rw [ih.1]; simp [e]
theorem violated_iff {l:List Tm} {s:List Sl} : violated l s=true↔∀ t ∈ l,holdsS t (findSl s t.path)=true:=by
 unfold violated; rw [List.all_eq_true]; simp only [holds_eq]
theorem violated_mergeT (l:List Tm) (s:List Sl):violated (mergeT l) s=violated l s:=by
 rw [Bool.eq_iff_iff,violated_iff,violated_iff];constructor
 ·intro h t ht
  have:=foldl_stepO t.path (findSl s t.path) l none (fun _ e=>by cases e)
  rw [← findT_mergeT] at this;cases e:findT (mergeT l) t.path with
  | none =>
   have:=(this.1.1 e).2
   rw [List.all_eq_true] at this
   have:=this t ht
   simp at this
  | some u =>
   obtain ⟨h1,h2⟩:=this.2 u e;have hu:=h u (findT_mem e);rw [h1,h2] at hu;simp only [Bool.true_and,allP,List.all_eq_true] at hu
   have:=hu t ht
   simpa using this
 ·intro h u hu;have e:=(findT_some_iff (mergeT_sorted l)).1 hu
  have:=foldl_stepO u.path (findSl s u.path) l none (fun _ e=>by cases e)
  rw [← findT_mergeT] at this;obtain ⟨h1,h2⟩:=this.2 u e;rw [h2];simp only [Bool.true_and,allP,List.all_eq_true];intro t ht
  by_cases e:t.path=u.path
  ·have:=h t ht; rw [e] at this; simp [this]
  ·simp [e]
theorem neverT_not {t:Tm} (h:neverT t=true) (o:Option Sl):holdsS t o=false:=by
 unfold neverT at h;simp only [Bool.and_eq_true,Bool.not_eq_true',List.isEmpty_iff] at h;unfold holdsS;cases o with
 | none=>exact h.1
 | some x=>dsimp only; rw [h.2]; simp [has]
def ValidS (s:List Sl):Prop:=∀ x ∈ s,validB x.ver=true
theorem valid_place {v:Ver} (h:validB v=true):0≤v.a∧v.a≤999∧0≤v.b∧v.b≤999∧0≤v.c∧v.c≤999:=by
 unfold validB at h;simp only [Bool.and_eq_true] at h;obtain ⟨⟨a,b⟩,c⟩:=h;obtain ⟨a1,a2⟩:=of_decide_eq_true a;obtain ⟨b1,b2⟩:=of_decide_eq_true b;obtain ⟨c1,c2⟩:=of_decide_eq_true c;exact ⟨a1,a2,b1,b2,c1,c2⟩
theorem place_in {v:Ver} (h:validB v=true):0≤place v∧place v<1000000:=by
 have:=valid_place h; unfold place; omega
theorem alwaysT_holds {t:Tm} (h:alwaysT t=true) {s:List Sl} (hs:ValidS s):holdsS t (findSl s t.path)=true:=by
 unfold alwaysT at h;simp only [Bool.and_eq_true,decide_eq_true_eq] at h;unfold holdsS;cases e:findSl s t.path with
 | none=>exact h.1
 | some x =>
  have:=hs x (findSl_mem e)
  have hp:=place_in this;dsimp only;rw [this,h.2];simp [has,inSpan,hp]
theorem violated_canonT {l:List Tm} {s:List Sl} (hs:ValidS s):violated l s=(match canonT l with | none=>false | some c=>violated c s):=by
 unfold canonT;split
 ·rename_i h;split at h
  ·rename_i hn;rw [← violated_mergeT,Bool.eq_false_iff];intro hv;rw [violated_iff] at hv;obtain ⟨t,ht,hn⟩:=List.any_eq_true.1 hn
   have:=hv t ht
   rw [neverT_not hn] at this; cases this
  ·cases h
 ·rename_i c h;split at h
  ·cases h
  ·rename_i hn;cases h;rw [← violated_mergeT,Bool.eq_iff_iff,violated_iff,violated_iff];constructor
   ·intro h t ht; exact h t (List.mem_filter.1 ht).1
   ·intro h t ht;cases ha:alwaysT t with
    | true=>exact alwaysT_holds ha hs
    | false=>exact h t (List.mem_filter.2 ⟨ht,by simp [ha]⟩)
theorem violated_append (a b:List Tm) (s:List Sl):violated (a++b) s=(violated a s&&violated b s):=by unfold violated; rw [List.all_append]
theorem canonT_sorted {l c:List Tm} (h:canonT l=some c):SortedT none c:=by
 unfold canonT at h;split at h
 ·cases h
 ·cases h; exact SortedT.filter _ (mergeT_sorted l)
theorem violated_split {l r:List Tm} {p:ByteArray} {t:Tm} {s:List Sl} (hs:ValidS s) (h:splitT l p=some (t,r)):violated l s=(holdsS t (findSl s p)&&violated r s)∧t.path=p:=by
 unfold splitT at h;cases hc:canonT l with
 | none=>rw [hc] at h; cases h
 | some c =>
  rw [hc] at h;dsimp only at h;cases hf:findT c p with
  | none=>rw [hf] at h; cases h
  | some u =>
   rw [hf] at h;cases h;have hp:=findT_path hf;refine ⟨?_,hp⟩;rw [violated_canonT hs,hc];dsimp only;rw [Bool.eq_iff_iff,Bool.and_eq_true,violated_iff,violated_iff];constructor
   ·intro h
    have:=h t (findT_mem hf)
    rw [hp] at this;exact ⟨this,fun v hv=>h v (List.mem_filter.1 hv).1⟩
   ·intro ⟨h1,h2⟩ v hv
    by_cases e:v.path=p
    ·have:=(findT_some_iff (canonT_sorted hc)).1 hv
     rw [e,hf] at this;cases this;rw [e]; exact h1
    ·exact h2 v (List.mem_filter.2 ⟨hv,by simp [e]⟩)
theorem resolveT_sound {a b o:List Tm} {p:ByteArray} {s:List Sl} (hs:ValidS s) (h:resolveT a b p=(o,0)) (hv:violated o s=true):violated a s=true∨violated b s=true:=by
 unfold resolveT at h;cases h1:splitT a p with
 | none=>rw [h1] at h; simp at h
 | some x =>
  cases h2:splitT b p with
  | none=>rw [h1,h2] at h; simp at h
  | some y =>
   obtain ⟨t,r⟩:=x;obtain ⟨u,m⟩:=y;rw [h1,h2] at h;dsimp only at h;cases hc:canonT (r++m++[eitherT t u]) with
   | none=>rw [hc] at h; simp at h
   | some c =>
    rw [hc] at h
    have:c=o:=by simpa using h
    subst this;have e:=violated_canonT (l:=r++m++[eitherT t u]) hs;rw [hc] at e;dsimp only at e;rw [hv,violated_append,violated_append] at e;simp only [Bool.and_eq_true] at e;obtain ⟨⟨e1,e2⟩,e3⟩:=e;obtain ⟨va,pa⟩:=violated_split hs h1;obtain ⟨vb,pb⟩:=violated_split hs h2;have e3:=violated_iff.1 e3 _ (List.mem_singleton.2 rfl)
    have:(eitherT t u).path=p:=pa
    rw [this,holdsS_either,Bool.or_eq_true] at e3;rcases e3 with e3 | e3
    ·exact .inl (by rw [va,e3,e1]; rfl)
    ·exact .inr (by rw [vb,e3,e2]; rfl)
theorem ofT_sound {l:List Tm} {s:List Sl} (hs:ValidS s) (hne:ofT l≠[]):violated (ofT l) s=violated l s:=by
 have:=violated_canonT (l:=l) hs
 unfold ofT at *
 cases h:canonT l with
 | none=>rw [h] at hne; exact absurd rfl hne
 | some c=>rw [h] at this; exact this.symm
end Go.Eng

namespace Go.Eng
-- paths
def smallC (c:UInt8):Bool:=decide (97≤c)&&decide (c≤122)
def capC (c:UInt8):Bool:=decide (65≤c)&&decide (c≤90)
def digitC (c:UInt8):Bool:=decide (48≤c)&&decide (c≤57)
def wordC (c:UInt8):Bool:=smallC c||capC c||digitC c||decide (c=95)
def keyTxt:List UInt8:=[32,97,110,100,32,97,110,121,32,97,115,32,98,111,111,108,32,100,101,112,114,101,99,97,116,101,100,32,101,108,115,101,32,101,120,112,111,114,116,32,102,97,108,115,101,32,102,110,32,102,111,108,100,32,102,114,111,109,32,105,102,32,105,109,112,111,114,116,32,105,110,32,105,110,116,32,108,101,110,103,116,104,32,108,101,116,32,108,105,115,116,32,109,97,116,99,104,32,109,111,100,117,108,101,32,110,111,110,101,32,110,111,116,32,111,114,32,116,101,120,116,32,116,104,101,110,32,116,114,117,101,32,116,121,112,101,32,117,115,101,32]
def preL:List UInt8→List UInt8→Bool
 | [],_=>true
 | _ :: _,[]=>false
 | a :: x,b :: y=>decide (a=b)&&preL x y
def inL (x:List UInt8):List UInt8→Bool
 | []=>preL x []
 | b :: y=>preL x (b :: y)||inL x y
def keyB (s:List UInt8):Bool:=inL (32 :: (s++[32])) keyTxt
def isNameL (s:List UInt8):Bool:=!s.isEmpty&&decide (s.length≤32)&&smallC (s.headD 0)&&s.all wordC&&!keyB s
def segOk (s:List UInt8):Bool:=isNameL s&&s.all fun c=>smallC c||digitC c
def numL (s:List UInt8):Int:=s.foldl (fun n c=>10*n+((c.toNat:Int) - 48)) 0
def verL (s:List UInt8):Option Int:=match s with
 | c :: r=>if c=118 then (if r.isEmpty||decide (3<r.length)||(decide (1<r.length)&&decide (r.headD 0=48))||!r.all digitC then none else some (numL r)) else none
 | []=>none
def splitL (c:UInt8):List UInt8→List (List UInt8)
 | []=>[[]]
 | b :: r=>if b=c then [] :: splitL c r else match splitL c r with
  | []=>[[b]]
  | x :: l=>(b :: x) :: l
def majorL (p:List UInt8):Option Int:=match verL ((splitL 47 p).getLastD []) with
 | none=>none
 | some n=>if 64<p.length||(splitL 47 p).length<2 then none else if (splitL 47 p).all segOk then some n else none
def pathMajor (p:ByteArray):Option Int:=majorL p.data.toList
-- indexes
def rqOk (before:Option ByteArray) (q:Rq):Int :=
 if (pathMajor q.path).isNone then 4 else if q.set.isEmpty||!decide (q.set=canon q.set)||(match before with | some b=>!blt b q.path | none=>false) then 1 else 0
def checkRqsGo (before:Option ByteArray):List Rq→Int
 | []=>0
 | q :: r=>if rqOk before q=0 then checkRqsGo (some q.path) r else rqOk before q
def checkRqs (l:List Rq):Int:=if 16<l.length then 7 else checkRqsGo none l
def dgOk (s:ByteArray):Bool:=decide (s.size=0)||decide (s.size=32)
def checkRl (r:Rl):Int:=match pathMajor r.path with
 | none=>4
 | some m=>if !validB r.ver||!decide (r.ver.a=m) then 2 else if checkRqs r.reqs≠0 then checkRqs r.reqs else if dgOk r.arch&&dgOk r.ifc&&dgOk r.cert then 0 else 1
def cmpI (a b:Int):Int:=if a<b then -1 else if b<a then 1 else 0
def cmpB (a b:ByteArray):Int:=if blt a b then -1 else if blt b a then 1 else 0
def cmpV (a b:Ver):Int:=if cmpI a.a b.a≠0 then cmpI a.a b.a else if cmpI a.b b.b≠0 then cmpI a.b b.b else cmpI a.c b.c
def cmpR (a b:Rl):Int:=if cmpB a.path b.path≠0 then cmpB a.path b.path else cmpV a.ver b.ver
def keyR (r:Rl):Sl:=⟨r.path,r.ver⟩
def checkIxGo (before:Option Rl):List Rl→Int
 | []=>0
 | r :: l=>if checkRl r≠0 then checkRl r else match before with
  | none=>checkIxGo (some r) l
  | some b=>if keyR b=keyR r then 5 else if 0<cmpR b r then 1 else checkIxGo (some r) l
def checkIx (l:List Rl):Int:=if 256<l.length then 7 else checkIxGo none l
def findRl (x:List Rl) (y:Sl):Option Rl:=if checkIx x≠0 then none else x.find? fun r=>decide (keyR r=y)
def ofPath (x:List Rl) (p:ByteArray):List Rl:=if checkIx x≠0 then [] else x.filter fun r=>decide (r.path=p)
def availP (x:List Rl) (p:ByteArray):SpanL:=canon (((ofPath x p).filter fun r=>!r.yanked).map fun r=>(plc r.ver,plc r.ver+1))
def incGo (before:Option ByteArray):List Sl→Bool
 | []=>true
 | y :: r=>(match before with | some b=>blt b y.path | none=>true)&&incGo (some y.path) r
def increasing (s:List Sl):Bool:=incGo none s
-- solutions
-- derivations
def releaseP (x:List Rl) (p:ByteArray) (pl:Int):Option Rl:=x.find? fun r=>decide (r.path=p)&&decide (plc r.ver=pl)
def mt:ByteArray:=⟨#[]⟩
def nthZ {α:Type} (l:List α) (i:Int):Option α:=if i<0 then none else l[i.toNat]?
def ne0 (l:List Tm):Option (List Tm):=if l.isEmpty then none else some l
def inferP (x:List Rl) (roots:List Rq) (d:List (List Tm)) (i:Nf):Option (List Tm) :=
 if i.kind=0 then
  if i.path=mt∧i.place=0∧i.left=0∧i.right=0 then (nthZ roots i.number).map rootT else none
 else if i.kind=1 then
  if i.left=0∧i.right=0 then match releaseP x i.path i.place with
   | none=>none
   | some r=>match nthZ r.reqs i.number with
    | none=>none
    | some q=>ne0 (requiresT i.path i.place q)
  else none
 else if i.kind=2 then
  if i.place=0∧i.number=0∧i.left=0∧i.right=0 then ne0 (noneT i.path (availP x i.path)) else none
 else if i.kind=3 then
  if i.place=0∧i.number=0 then match nthZ d i.left,nthZ d i.right with
   | some a,some b=>if (resolveT a b i.path).2=0 then some (resolveT a b i.path).1 else none
   | _,_=>none
  else none
 else none
def deriveGo (x:List Rl) (roots:List Rq):List Nf→List (List Tm)→Option (List (List Tm))
 | [],d=>some d
 | i :: l,d=>match inferP x roots d i with
  | none=>none
  | some t=>deriveGo x roots l (d++[t])
-- decisions
def nextGo (before:List Sl):List Rq→Option ByteArray→Option ByteArray
 | [],acc=>acc
 | q :: l,acc=>nextGo before l (if hasPath before q.path then acc else match acc with
  | none=>some q.path
  | some p=>if blt q.path p then some q.path else some p)
def nextP (needs:List Rq) (before:List Sl):Option ByteArray:=nextGo before needs none
structure Vis where
 before:List Sl
 needs:List Rq
 rel:Rl
-- answers
-- the example
end Go.Eng

namespace Go.Eng
-- the order of releases
theorem cmpI_zero {a b:Int} (h:cmpI a b=0):a=b:=by
 unfold cmpI at h;split at h
 ·cases h
 ·split at h
  ·cases h
  ·omega
theorem cmpI_lt {a b:Int} (h:cmpI a b<0):a<b:=by
 unfold cmpI at h;split at h
 ·assumption
 ·split at h <;> omega
theorem cmpB_zero {a b:ByteArray} (h:cmpB a b=0):a=b:=by
 unfold cmpB at h;cases h1:blt a b with
 | true=>rw [h1] at h; simp at h
 | false =>
  cases h2:blt b a with
  | true=>rw [h1,h2] at h; simp at h
  | false=>exact blt_tri h1 h2
theorem cmpB_lt {a b:ByteArray} (h:cmpB a b<0):blt a b=true:=by
 unfold cmpB at h;cases h1:blt a b with
 | true=>rfl
 | false=>rw [h1] at h; cases h2:blt b a <;> rw [h2] at h <;> simp at h
def ltV (a b:Ver):Prop:=a.a<b.a∨(a.a=b.a∧(a.b<b.b∨(a.b=b.b∧a.c<b.c)))
def ltR (a b:Rl):Prop:=blt a.path b.path=true∨(a.path=b.path∧ltV a.ver b.ver)
theorem cmpV_lt {a b:Ver} (h:cmpV a b<0):ltV a b:=by
 unfold cmpV at h;split at h
 ·exact .inl (cmpI_lt h)
 ·rename_i h1;have h1:=cmpI_zero (Classical.not_not.1 h1);split at h
  ·exact .inr ⟨h1,.inl (cmpI_lt h)⟩
  ·rename_i h2;exact .inr ⟨h1,.inr ⟨cmpI_zero (Classical.not_not.1 h2),cmpI_lt h⟩⟩
theorem cmpV_zero {a b:Ver} (h:cmpV a b=0):a=b:=by
 unfold cmpV at h;split at h
 ·rename_i h1; exact absurd h h1
 ·rename_i h1;have h1:=cmpI_zero (Classical.not_not.1 h1);split at h
  ·rename_i h2; exact absurd h h2
  ·rename_i h2;have h2:=cmpI_zero (Classical.not_not.1 h2);have h3:=cmpI_zero h;cases a; cases b; simp_all
theorem cmpR_zero {a b:Rl} (h:cmpR a b=0):keyR a=keyR b:=by
 unfold cmpR at h;split at h
 ·rename_i h1; exact absurd h h1
 ·rename_i h1;have h1:=cmpB_zero (Classical.not_not.1 h1);have h2:=cmpV_zero h;unfold keyR; rw [h1,h2]
theorem cmpR_lt {a b:Rl} (h:cmpR a b<0):ltR a b:=by
 unfold cmpR at h;split at h
 ·exact .inl (cmpB_lt h)
 ·rename_i h1;exact .inr ⟨cmpB_zero (Classical.not_not.1 h1),cmpV_lt h⟩
theorem ltV_trans {a b c:Ver} (h:ltV a b) (k:ltV b c):ltV a c:=by unfold ltV at *; omega
theorem ltR_trans {a b c:Rl} (h:ltR a b) (k:ltR b c):ltR a c:=by
 rcases h with h | ⟨h1,h2⟩
 ·rcases k with k | ⟨k1,k2⟩
  ·exact .inl (blt_trans h k)
  ·exact .inl (k1▸h)
 ·rcases k with k | ⟨k1,k2⟩
  ·exact .inl (h1▸k)
  ·exact .inr ⟨h1.trans k1,ltV_trans h2 k2⟩
theorem ltR_irrefl {a b:Rl} (h:ltR a b) (k:keyR a=keyR b):False:=by
 unfold keyR at k;simp only [Sl.mk.injEq] at k;rcases h with h | ⟨_,h⟩
 ·rw [k.1,blt_irrefl] at h; cases h
 ·rw [k.2] at h; unfold ltV at h; omega
-- a valid index
structure RlOk (r:Rl):Prop where
 maj:pathMajor r.path=some r.ver.a
 val:validB r.ver=true
 reqs:checkRqs r.reqs=0
theorem checkRl_ok {r:Rl} (h:checkRl r=0):RlOk r:=by
 unfold checkRl at h;split at h
 ·cases h
 ·rename_i m hm;split at h
  ·cases h
  ·rename_i h1;split at h
   ·rename_i h2; exact absurd h h2
   ·rename_i h2;simp only [Bool.or_eq_true,Bool.not_eq_true',decide_eq_false_iff_not,not_or,Classical.not_not] at h1;refine ⟨by rw [hm,h1.2],by simpa using h1.1,Classical.not_not.1 h2⟩
theorem checkIxGo_ok:∀ {l:List Rl} {b:Option Rl},checkIxGo b l=0→(∀ r ∈ l,RlOk r)∧(l.Pairwise ltR∧∀ c,b=some c→∀ r ∈ l,ltR c r)
 | [],b,_=>⟨fun _ h=>(by cases h),.nil,fun _ _ _ h=>(by cases h)⟩
 | r :: l,b,h=>by
  unfold checkIxGo at h;split at h
  ·rename_i h1; exact absurd h h1
  ·rename_i h1;have hr:=checkRl_ok (Classical.not_not.1 h1);have go:checkIxGo (some r) l=0→(∀ c,b=some c→ltR c r)→(∀ z ∈ r :: l,RlOk z)∧((r :: l).Pairwise ltR∧∀ c,b=some c→∀ z ∈ r :: l,ltR c z):=fun h hc=>by
    obtain ⟨i1,i2,i3⟩:=checkIxGo_ok h;refine ⟨fun z hz=>?_,.cons (i3 r rfl) i2,fun c e z hz=>?_⟩
    ·rcases List.mem_cons.1 hz with rfl | hz
     ·exact hr
     ·exact i1 z hz
    ·rcases List.mem_cons.1 hz with rfl | hz
     ·exact hc c e
     ·exact ltR_trans (hc c e) (i3 r rfl z hz)
   cases b with
   | none=>exact go h fun _ e=>by cases e
   | some b =>
    dsimp only at h;split at h
    ·cases h
    ·rename_i hk;split at h
     ·cases h
     ·rename_i hc;refine go h fun c e=>?_;cases e;refine cmpR_lt ?_
      have:cmpR b r≠0:=fun e=>hk (cmpR_zero e)
      omega
theorem checkIx_ok {l:List Rl} (h:checkIx l=0):(∀ r ∈ l,RlOk r)∧l.Pairwise ltR:=by
 unfold checkIx at h;split at h
 ·cases h
 ·exact ⟨(checkIxGo_ok h).1,(checkIxGo_ok h).2.1⟩
theorem key_unique {l:List Rl} (h:l.Pairwise ltR) {a b:Rl} (ha:a ∈ l) (hb:b ∈ l) (hk:keyR a=keyR b):a=b:=by
 induction h with
 | nil=>cases ha
 | cons h1 h2 ih =>
  rcases List.mem_cons.1 ha with e1 | ha
  ·rcases List.mem_cons.1 hb with e2 | hb
   ·exact e1.trans e2.symm
   ·exact (ltR_irrefl (e1▸h1 b hb) hk).elim
  ·rcases List.mem_cons.1 hb with e2 | hb
   ·exact (ltR_irrefl (e2▸h1 a ha) hk.symm).elim
   ·exact ih ha hb
theorem ver_of_place {a b:Ver} (ha:validB a=true) (hb:validB b=true) (h1:a.a=b.a) (h2:place a=place b):a=b:=by
 have:=valid_place ha
 have:=valid_place hb
 unfold place at h2;have e1:a.b=b.b:=by omega
 have e2:a.c=b.c:=by omega
 cases a; cases b; simp_all
theorem RlOk.plc {r:Rl} (h:RlOk r):plc r.ver=place r.ver:=by unfold Go.Eng.plc; rw [h.val]; rfl
theorem same_rl {l:List Rl} (h:(∀ r ∈ l,RlOk r)∧l.Pairwise ltR) {a b:Rl} (ha:a ∈ l) (hb:b ∈ l) (h1:a.path=b.path) (h2:place a.ver=place b.ver):a=b:=by
 refine key_unique h.2 ha hb ?_
 have:=h.1 a ha
 have:=h.1 b hb
 have e:a.ver.a=b.ver.a:=by
  have e1:=(h.1 a ha).maj; rw [h1,(h.1 b hb).maj] at e1;exact (Option.some.inj e1).symm
 unfold keyR;rw [h1,ver_of_place (h.1 a ha).val (h.1 b hb).val e h2]
theorem findRl_ok {x:List Rl} {y:Sl} {r:Rl} (h:findRl x y=some r):checkIx x=0∧r ∈ x∧keyR r=y:=by
 unfold findRl at h;split at h
 ·cases h
 ·rename_i h1;refine ⟨Classical.not_not.1 h1,List.mem_of_find?_eq_some h,?_⟩
  have:=List.find?_some h; simpa using this
structure Sol (x:List Rl) (roots:List Rq) (s:List Sl):Prop where
 ix:checkIx x=0
 inc:increasing s=true
 fnd:∀ y ∈ s,∃ r,findRl x y=some r∧r.yanked=false
 root:∀ q ∈ roots,∃ y,findSl s q.path=some y∧has q.set (place y.ver)=true
 req:∀ y ∈ s,∀ r,findRl x y=some r→∀ q ∈ r.reqs,∃ z,findSl s q.path=some z∧has q.set (place z.ver)=true
theorem incGo_pair:∀ {s:List Sl} {b:Option ByteArray},incGo b s=true→s.Pairwise (fun a b=>blt a.path b.path=true)∧∀ c,b=some c→∀ y ∈ s,blt c y.path=true
 | [],_,_=>⟨.nil,fun _ _ _ h=>by cases h⟩
 | y :: r,b,h=>by
  unfold incGo at h;simp only [Bool.and_eq_true] at h;obtain ⟨h1,h2⟩:=h;obtain ⟨i1,i2⟩:=incGo_pair h2;refine ⟨.cons (i2 _ rfl) i1,fun c e z hz=>?_⟩;subst e;rcases List.mem_cons.1 hz with rfl | hz
  ·exact h1
  ·exact blt_trans h1 (i2 _ rfl z hz)
theorem findSl_of_mem {s:List Sl} (h:s.Pairwise (fun a b=>blt a.path b.path=true)) {y:Sl} (hy:y ∈ s):findSl s y.path=some y:=by
 induction h with
 | nil=>cases hy
 | cons h1 h2 ih =>
  rename_i a l;unfold findSl;rw [List.find?_cons];rcases List.mem_cons.1 hy with rfl | hy
  ·simp
  ·have:=blt_ne (h1 y hy)
   simp only [this,decide_false];exact ih hy
theorem findSl_incr {s:List Sl} (h:increasing s=true) {y:Sl} (hy:y ∈ s):findSl s y.path=some y:=findSl_of_mem (incGo_pair h).1 hy
theorem Sol.valid {x:List Rl} {roots:List Rq} {s:List Sl} (h:Sol x roots s):ValidS s:=fun y hy=>by
 obtain ⟨r,h1,_⟩:=h.fnd y hy;obtain ⟨_,h2,h3⟩:=findRl_ok h1
 have:=((checkIx_ok h.ix).1 r h2).val
 rw [← h3]; exact this
-- soundness
theorem outside_sat {q:Rq} {s:List Sl} (h:∃ y,findSl s q.path=some y∧has q.set (place y.ver)=true):holdsS (outside q) (findSl s q.path)=false:=by
 obtain ⟨y,h1,h2⟩:=h;rw [h1];unfold holdsS outside;dsimp only;rw [has_compl,h2]; simp
theorem ofT_viol {l:List Tm} {s:List Sl} (hs:ValidS s) (hn:canonT l≠none) (hv:violated l s=false):violated (ofT l) s=false:=by
 have:=violated_canonT (l:=l) hs
 unfold ofT;cases h:canonT l with
 | none=>exact absurd h hn
 | some c=>rw [h,hv] at this; exact this.symm
theorem ne0_viol {l:List Tm} {s:List Sl} (hs:ValidS s) {o:List Tm} (h:ne0 (ofT l)=some o) (hv:violated l s=false):violated o s=false:=by
 unfold ne0 at h;split at h
 ·cases h
 ·rename_i hne;cases h;rw [ofT_sound hs (by intro e; rw [e] at hne; exact hne rfl)];exact hv
theorem rootT_some (q:Rq):canonT [outside q]≠none:=by
 unfold canonT mergeT;simp only [List.foldl,insT]
 have:neverT (canT1 (outside q))=false:=by simp [neverT,canT1,outside]
 simp [this]
theorem nthZ_mem {α:Type} {l:List α} {i:Int} {a:α} (h:nthZ l i=some a):a ∈ l:=by
 unfold nthZ at h; split at h
 ·cases h
 ·exact List.mem_of_getElem? h
theorem inferP_sound {x:List Rl} {roots:List Rq} {s:List Sl} (hs:Sol x roots s) {d:List (List Tm)} (hd:∀ t ∈ d,violated t s=false) {i:Nf} {o:List Tm} (h:inferP x roots d i=some o):violated o s=false:=by
 have hv:=hs.valid;unfold inferP at h;split at h
 ·split at h
  ·rw [Option.map_eq_some_iff] at h;obtain ⟨q,hq,rfl⟩:=h;refine ofT_viol hv (rootT_some q) ?_;rw [Bool.eq_false_iff];intro hw
   have:=violated_iff.1 hw _ (List.mem_singleton.2 rfl)
   rw [show (outside q).path=q.path from rfl,outside_sat (hs.root q (nthZ_mem hq))] at this;cases this
  ·cases h
 ·split at h
  ·split at h
   ·split at h
    ·cases h
    ·rename_i r hr;split at h
     ·cases h
     ·rename_i q hq;refine ne0_viol hv h ?_;rw [Bool.eq_false_iff];intro hw;have h1:=violated_iff.1 hw _ (List.mem_cons_self ..);have h2:=violated_iff.1 hw (outside q) (by simp);rw [show (outside q).path=q.path from rfl] at h2;dsimp only at h1;cases hf:findSl s i.path with
      | none=>rw [hf] at h1; simp [holdsS] at h1
      | some y =>
       rw [hf] at h1;unfold holdsS at h1;simp only [Bool.and_eq_true] at h1;have hp:place y.ver=i.place:=by
        have:=h1.2
        simp only [has,List.any_cons,List.any_nil,Bool.or_false,Bool.and_eq_true,inSpan,decide_eq_true_eq] at this;omega
       have hy:=findSl_mem hf;have hyp:=findSl_path hf;obtain ⟨r',e1,e2⟩:=hs.fnd y hy;obtain ⟨_,m1,k1⟩:=findRl_ok e1;have hr1:r ∈ x:=List.mem_of_find?_eq_some hr;have hr2:=List.find?_some hr;simp only [Bool.and_eq_true,decide_eq_true_eq] at hr2;have hok:=checkIx_ok hs.ix
       have:r'=r:=by
        refine same_rl hok m1 hr1 ?_ ?_
        ·rw [hr2.1,← hyp,← k1]; rfl
        ·rw [← (hok.1 r hr1).plc,hr2.2,← hp,← k1]; rfl
       subst this
       have:=hs.req y hy r' e1 q (nthZ_mem hq)
       rw [outside_sat this] at h2;cases h2
   ·cases h
  ·split at h
   ·split at h
    ·refine ne0_viol hv h ?_;rw [Bool.eq_false_iff];intro hw;have h1:=violated_iff.1 hw _ (List.mem_singleton.2 rfl);dsimp only at h1;cases hf:findSl s i.path with
     | none=>rw [hf] at h1; simp [holdsS] at h1
     | some y =>
      rw [hf] at h1;unfold holdsS at h1;simp only [Bool.and_eq_true] at h1;have hy:=findSl_mem hf;have hyp:=findSl_path hf;obtain ⟨r,e1,e2⟩:=hs.fnd y hy;obtain ⟨_,m1,k1⟩:=findRl_ok e1;have hok:=checkIx_ok hs.ix;have h1:=h1.2;rw [has_compl] at h1;have hin:=place_in (hv y hy)
      have:has (availP x i.path) (place y.ver)=true:=by
       unfold availP;rw [has_canon];unfold has;simp only [hin,decide_true,Bool.true_and,List.any_eq_true,List.mem_map,List.mem_filter];refine ⟨(plc r.ver,plc r.ver+1),⟨r,⟨?_,by simp [e2]⟩,rfl⟩,?_⟩
       ·unfold ofPath;simp only [hs.ix,ne_eq,not_true,if_false,List.mem_filter,m1,true_and,decide_eq_true_eq];rw [← hyp,← k1]; rfl
       ·rw [(hok.1 r m1).plc,← k1];rw [inSpan_iff];exact ⟨Int.le_refl _,by show place r.ver<place r.ver+1; omega⟩
      rw [this] at h1;simp at h1
    ·cases h
   ·split at h
    ·split at h
     ·split at h
      ·rename_i a b ha hb;split at h
       ·rename_i h0;cases h;rw [Bool.eq_false_iff];intro hw;rcases resolveT_sound hv (o:=(resolveT a b i.path).1) (Prod.ext rfl h0) hw with hw | hw
        ·rw [hd a (nthZ_mem ha)] at hw; cases hw
        ·rw [hd b (nthZ_mem hb)] at hw; cases hw
       ·cases h
      ·cases h
     ·cases h
    ·cases h
theorem deriveGo_sound {x:List Rl} {roots:List Rq} {s:List Sl} (hs:Sol x roots s):∀ {l:List Nf} {d d' : List (List Tm)},(∀ t ∈ d,violated t s=false)→deriveGo x roots l d=some d'→∀ t ∈ d',violated t s=false
 | [],d,d',hd,h=>by cases h; exact hd
 | i :: l,d,d',hd,h=>by
  unfold deriveGo at h;split at h
  ·cases h
  ·rename_i o ho;refine deriveGo_sound hs (fun t ht=>?_) h;rcases List.mem_append.1 ht with ht | ht
   ·exact hd t ht
   ·rw [List.mem_singleton.1 ht]; exact inferP_sound hs hd ho
end Go.Eng

namespace Go.Eng
theorem nodup_sub_len {α:Type} [DecidableEq α]:∀ {l m:List α},l.Nodup→(∀ x ∈ l,x ∈ m)→l.length≤m.length
 | [],_,_,_=>Nat.zero_le _
 | a :: l,m,hn,hs=>by
  rw [List.nodup_cons] at hn;have ha:a ∈ m:=hs a (List.mem_cons_self ..)
  have:=nodup_sub_len (l:=l) (m:=m.erase a) hn.2 fun x hx=>by
   have:x≠a:=fun e=>hn.1 (e▸hx)
   exact (List.mem_erase_of_ne this).2 (hs x (List.mem_cons_of_mem _ hx))
  rw [List.length_erase_of_mem ha] at this
  have:=List.length_pos_of_mem ha
  simp only [List.length_cons]; omega
abbrev IncS (s:List Sl):Prop:=s.Pairwise (fun a b=>blt a.path b.path=true)
-- the next path
theorem nextGo_spec (before:List Sl):∀ {l:List Rq} {acc:Option ByteArray},(∀ p,acc=some p→hasPath before p=false) →
  (∀ p,nextGo before l acc=some p→hasPath before p=false∧(acc=some p∨∃ q ∈ l,q.path=p))∧(nextGo before l acc=none→acc=none∧∀ q ∈ l,hasPath before q.path=true)
 | [],acc,ha=>⟨fun p h=>⟨ha p h,.inl h⟩,fun h=>⟨h,fun _ h=>(by cases h)⟩⟩
 | q :: l,acc,ha=>by
  unfold nextGo
  have key:∀ acc',(∀ p,acc'=some p→hasPath before p=false)→(∀ p,acc'=some p→acc=some p∨q.path=p)→(acc'=none→acc=none∧hasPath before q.path=true) →
    (∀ p,nextGo before l acc'=some p→hasPath before p=false∧(acc=some p∨∃ q' ∈ q :: l,q'.path=p))∧(nextGo before l acc'=none→acc=none∧∀ q' ∈ q :: l,hasPath before q'.path=true):=by
   intro acc' h1 h2 h3;obtain ⟨i1,i2⟩:=nextGo_spec before (l:=l) h1;refine ⟨fun p h=>?_,fun h=>?_⟩
   ·obtain ⟨j1,j2⟩:=i1 p h;refine ⟨j1,?_⟩;rcases j2 with j2 | ⟨q',j3,j4⟩
    ·rcases h2 p j2 with h2 | h2
     ·exact .inl h2
     ·exact .inr ⟨q,List.mem_cons_self ..,h2⟩
    ·exact .inr ⟨q',List.mem_cons_of_mem _ j3,j4⟩
   ·obtain ⟨j1,j2⟩:=i2 h;obtain ⟨k1,k2⟩:=h3 j1;refine ⟨k1,fun q' hq=>?_⟩;rcases List.mem_cons.1 hq with rfl | hq
    ·exact k2
    ·exact j2 q' hq
  cases hb:hasPath before q.path with
  | true=>simp only [if_true]; exact key acc ha (fun p h=>.inl h) fun h=>⟨h,hb⟩
  | false =>
   simp only [Bool.false_eq_true,if_false];cases acc with
   | none=>exact key _ (fun p h=>by cases h; exact hb) (fun p h=>by cases h; exact .inr rfl) fun h=>by cases h
   | some p0 =>
    dsimp only;split
    ·exact key _ (fun p h=>by cases h; exact hb) (fun p h=>by cases h; exact .inr rfl) fun h=>by cases h
    ·exact key _ (fun p h=>by cases h; exact ha _ rfl) (fun p h=>by cases h; exact .inl rfl) fun h=>by cases h
theorem nextP_some {needs:List Rq} {before:List Sl} {p:ByteArray} (h:nextP needs before=some p):hasPath before p=false∧∃ q ∈ needs,q.path=p:=by
 obtain ⟨h1,h2⟩:=(nextGo_spec before (l:=needs) (acc:=none) fun _ e=>by cases e).1 p h;rcases h2 with h2 | h2
 ·cases h2
 ·exact ⟨h1,h2⟩
theorem nextP_none {needs:List Rq} {before:List Sl} (h:nextP needs before=none):∀ q ∈ needs,hasPath before q.path=true :=
 ((nextGo_spec before (l:=needs) (acc:=none) fun _ e=>by cases e).2 h).2
theorem hasPath_append (a b:List Sl) (p:ByteArray):hasPath (a++b) p=(hasPath a p||hasPath b p):=by unfold hasPath; rw [List.any_append]
theorem hasPath_true {s:List Sl} {p:ByteArray} : hasPath s p=true↔∃ y ∈ s,y.path=p:=by unfold hasPath; simp
theorem hasPath_mem {s:List Sl} {p:ByteArray} : hasPath s p=true↔p ∈ s.map (·.path):=by rw [hasPath_true,List.mem_map]
-- what is needed
-- skips
theorem entailed_sub {t:List Tm} {b s:List Sl} (hs:increasing s=true) (hb:∀ y ∈ b,y ∈ s) (h:entailed t b=true):violated t s=true:=by
 unfold entailed at h;simp only [Bool.and_eq_true,Bool.not_eq_true',List.any_eq_false] at h;obtain ⟨h1,h2⟩:=h;rw [violated_iff] at h1 ⊢;intro u hu
 have:=h2 u hu
 simp only [Bool.not_eq_false] at this;rw [hasPath_iff] at this;cases hf:findSl b u.path with
 | none=>rw [hf] at this; cases this
 | some y =>
  have h3:=h1 u hu;rw [hf] at h3
  have:=findSl_incr hs (hb y (findSl_mem hf))
  rw [findSl_path hf] at this;rw [this]; exact h3
end Go.Eng

namespace Go.Eng
-- right answers
-- the first decision that differs
-- prefixes
theorem deriveGo_len {x:List Rl} {roots:List Rq} : ∀ {l:List Nf} {d d' : List (List Tm)},deriveGo x roots l d=some d'→d'.length=d.length+l.length
 | [],d,d',h=>by cases h; rfl
 | i :: l,d,d',h=>by
  unfold deriveGo at h;split at h
  ·cases h
  ·have:=deriveGo_len h
   simp only [List.length_append,List.length_cons,List.length_nil] at this ⊢; omega
theorem deriveGo_append {x:List Rl} {roots:List Rq} : ∀ (l m:List Nf) (d:List (List Tm)),deriveGo x roots (l++m) d=match deriveGo x roots l d with | none=>none | some d'=>deriveGo x roots m d'
 | [],_,_=>rfl
 | i :: l,m,d=>by
  show (match inferP x roots d i with | none=>none | some t=>deriveGo x roots (l++m) (d++[t]))=(match (match inferP x roots d i with | none=>none | some t=>deriveGo x roots l (d++[t])) with | none=>none | some d'=>deriveGo x roots m d');cases inferP x roots d i with
  | none=>rfl
  | some t=>exact deriveGo_append l m _
theorem deriveGo_prefix {x:List Rl} {roots:List Rq} : ∀ {l:List Nf} {d d' : List (List Tm)},deriveGo x roots l d=some d'→d <+: d'
 | [],d,d',h=>by cases h; exact List.prefix_refl _
 | i :: l,d,d',h=>by
  unfold deriveGo at h;split at h
  ·cases h
  ·exact (List.prefix_append _ _).trans (deriveGo_prefix h)
theorem deriveGo_take {x:List Rl} {roots:List Rq} {l:List Nf} {d:List (List Tm)} (h:deriveGo x roots l []=some d) (k:Nat):deriveGo x roots (l.take k) []=some (d.take k):=by
 rw [← List.take_append_drop k l,deriveGo_append] at h;cases e:deriveGo x roots (l.take k) [] with
 | none=>rw [e] at h; cases h
 | some f =>
  rw [e] at h;dsimp only at h;have h1:=deriveGo_len e;have h2:=deriveGo_len h;have h3:=deriveGo_prefix h
  congr 1
  simp only [List.length_nil,List.length_take,List.length_drop] at h1 h2;obtain ⟨z,rfl⟩:=h3
  by_cases hk:k≤l.length
  ·rw [List.take_append_of_le_length (by omega),List.take_of_length_le (by omega)]
  ·rw [List.length_append] at h2
   have:z=[]:=List.eq_nil_of_length_eq_zero (by omega)
   subst this;rw [List.append_nil,List.take_of_length_le (by omega)]
def Form (l:List Tm):Prop:=canonT l=some l
theorem putO_find {l:List Tm} : ∀ (l2:List Tm),SortedT none (l2++l)→l.foldl (fun acc t=>insT t acc) l2=l2++l:=by
 induction l with
 | nil=>intro l2 _; simp
 | cons t r ih =>
  intro l2 h;have hi:insT t l2=l2++[t]:=by
   have:∀ (m:List Tm) (lo:Option ByteArray),SortedT lo (m++t :: r)→insT t m=m++[t]:=by
    intro m
    induction m with
    | nil =>
     intro lo hm;have hc:Canon t.set:=hm.2.1;unfold insT;rw [show canT1 t=t from tm_ext rfl rfl (canon_of_canon hc)]; rfl
    | cons u m ihm =>
     intro lo hm;have hm:SortedT lo (u :: (m++t :: r)):=hm;have hlt:=SortedT.low hm.2.2 t (by simp);unfold insT;rw [if_pos hlt,ihm _ hm.2.2]; rfl
   exact this l2 none h
  rw [List.foldl_cons,hi]
  have:=ih (l2++[t]) (by rw [List.append_assoc]; exact h)
  rw [this,List.append_assoc]; rfl
theorem mergeT_sorted_id {l:List Tm} (h:SortedT none l):mergeT l=l:=by
 have:=putO_find (l:=l) [] h
 simpa [mergeT] using this
theorem canonT_form {l c:List Tm} (h:canonT l=some c):Form c:=by
 have hs:=canonT_sorted h;unfold Form;unfold canonT at h ⊢;rw [mergeT_sorted_id hs];split at h
 ·cases h
 ·rename_i hn;cases h;rw [if_neg]
  ·congr 1
   rw [List.filter_filter]; simp
  ·rw [Bool.not_eq_true,List.any_eq_false] at hn ⊢;intro t ht;exact hn t (List.mem_filter.1 ht).1
theorem form_nil:Form []:=rfl
theorem ofT_form (l:List Tm):Form (ofT l):=by
 unfold ofT;cases h:canonT l with
 | none=>exact form_nil
 | some c=>exact canonT_form h
theorem resolveT_form (a b:List Tm) (p:ByteArray):Form (resolveT a b p).1:=by
 unfold resolveT;split
 ·split
  ·rename_i h; exact canonT_form h
  ·exact form_nil
 ·exact form_nil
theorem ne0_some {l o:List Tm} (h:ne0 l=some o):o=l:=by unfold ne0 at h; split at h <;> cases h; rfl
theorem inferP_form {x:List Rl} {roots:List Rq} {d:List (List Tm)} {i:Nf} {o:List Tm} (h:inferP x roots d i=some o):Form o:=by
 unfold inferP at h;split at h
 ·split at h
  ·rw [Option.map_eq_some_iff] at h;obtain ⟨q,_,rfl⟩:=h;exact ofT_form _
  ·cases h
 ·split at h
  ·split at h
   ·split at h
    ·cases h
    ·split at h
     ·cases h
     ·rw [ne0_some h]; exact ofT_form _
   ·cases h
  ·split at h
   ·split at h
    ·rw [ne0_some h]; exact ofT_form _
    ·cases h
   ·split at h
    ·split at h
     ·split at h
      ·split at h
       ·cases h; exact resolveT_form _ _ _
       ·cases h
      ·cases h
     ·cases h
    ·cases h
theorem deriveGo_form {x:List Rl} {roots:List Rq} : ∀ {l:List Nf} {d d' : List (List Tm)},(∀ t ∈ d,Form t)→deriveGo x roots l d=some d'→∀ t ∈ d',Form t
 | [],d,d',hd,h=>by cases h; exact hd
 | i :: l,d,d',hd,h=>by
  unfold deriveGo at h;split at h
  ·cases h
  ·rename_i o ho;refine deriveGo_form (fun t ht=>?_) h;rcases List.mem_append.1 ht with ht | ht
   ·exact hd t ht
   ·rw [List.mem_singleton.1 ht]; exact inferP_form ho
-- tampering
end Go.Eng
