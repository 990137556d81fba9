/- Lemmas for the claims of this seat, without a condition: part 27 (O9, O10, R14, R15, R16, R17, R18, R19, R20, R21, R22, R23, O11, O12, O13). -/
import Derived.Test.YtmcbkdbfaneofaaGreatDoorA26
import Derived.Test.YtmcbkdbfaneofaaGreatDoorA03
set_option maxHeartbeats 4000000
namespace Go.Eng
structure OC{α β:Type}(c:α→α→Int)(R:α→α→Prop)(key:α→β):Prop where
 lt:∀a b,c a b<0↔R a b
 eq:∀a b,c a b=0↔key a=key b
 tr:∀a b d,R a b→R b d→R a d
 irr:∀a b,key a=key b→¬R a b
 tri:∀a b,¬R a b→key a≠key b→R b a
 cl:∀a b d,key a=key b→R a d→R b d
section
variable {α β:Type}{c:α→α→Int}{R:α→α→Prop}{key:α→β}
theorem OC.gt(h:OC c R key){a b:α}(h1:¬c a b<0)(h2:¬c a b=0):R b a:=h.tri a b (fun q=>h1 ((h.lt a b).2 q)) (fun q=>h2 ((h.eq a b).2 q))
theorem IA(h:OC c R key):∀(n:Nat) (a b:List α),a.length+b.length≤n→a.Pairwise R→b.Pairwise R→(CB c n a b).Pairwise R
 |0,_,_,_,_,_=>.nil
 |n+1,a,b,hn,ha,hb=>by
  cases a with
  |nil =>
   cases b with
   |nil=>exact .nil
   |cons y b =>
    simp only[Au,Ay]at hn;obtain⟨h1,h2⟩:=BP.1 hb;show(y::CB c n [] b).Pairwise R;refine .cons (fun z hz=>?_) (IA h n [] b (by simp only[Ay];omega) ha h2);rcases Fb n [] b z hz with hz | hz
    ·cases hz
    ·exact h1 z hz
  |cons x a =>
   obtain⟨g1,g2⟩:=BP.1 ha;cases b with
   |nil =>
    simp only[Au,Ay]at hn;show(x::CB c n a []).Pairwise R;refine .cons (fun z hz=>?_) (IA h n a [] (by simp only[Ay];omega) g2 hb);rcases Fb n a [] z hz with hz | hz
    ·exact g1 z hz
    ·cases hz
   |cons y b =>
    obtain⟨h1,h2⟩:=BP.1 hb;simp only[Au]at hn;show(if c x y<0 then x::CB c n a (y::b)else if c x y=0 then y::CB c n a b else y::CB c n (x::a) b).Pairwise R;split
    ·rename_i e;have e:=(h.lt x y).1 e;refine .cons (fun z hz=>?_) (IA h n a (y::b) (by simp only[Au];omega) g2 hb);rcases Fb n a (y::b) z hz with hz | hz
     ·exact g1 z hz
     ·rcases Av.1 hz with rfl | hz
      ·exact e
      ·exact h.tr _ _ _ e (h1 z hz)
    ·split
     ·rename_i e;have e:=(h.eq x y).1 e;refine .cons (fun z hz=>?_) (IA h n a b (by omega) g2 h2);rcases Fb n a b z hz with hz | hz
      ·exact h.cl x y z e (g1 z hz)
      ·exact h1 z hz
     ·rename_i e1 e2;have e:=h.gt e1 e2;refine .cons (fun z hz=>?_) (IA h n (x::a) b (by simp only[Au];omega) ha h2);rcases Fb n (x::a) b z hz with hz | hz
      ·rcases Av.1 hz with rfl | hz
       ·exact e
       ·exact h.tr _ _ _ e (g1 z hz)
      ·exact h1 z hz
theorem T7(h:OC c R key){a b:List α}(ha:a.Pairwise R)(hb:b.Pairwise R):(AW c a b).Pairwise R:=IA h _ a b (Al _) ha hb
theorem Iz(h:OC c R key):∀(n:Nat) (a b:List α),a.length+b.length≤n→a.Pairwise R→b.Pairwise R→∀r,r∈CB c n a b↔r∈b∨(r∈a∧∀s∈b,key r≠key s)
 |0,a,b,hn,_,_,r=>by
  have ha:a=[]:=Az (by omega);have hb:b=[]:=Az (by omega);subst ha;subst hb;simp[CB]
 |n+1,a,b,hn,ha,hb,r=>by
  cases a with
  |nil =>
   cases b with
   |nil=>simp[CB]
   |cons y b =>
    simp only[Au,Ay]at hn;obtain⟨h1,h2⟩:=BP.1 hb;show r∈y::CB c n [] b↔_;rw[Av,Iz h n [] b (by simp only[Ay];omega) ha h2];simp
  |cons x a =>
   obtain⟨g1,g2⟩:=BP.1 ha;cases b with
   |nil =>
    simp only[Au,Ay]at hn;show r∈x::CB c n a []↔_;rw[Av,Iz h n a [] (by simp only[Ay];omega) g2 hb];simp
   |cons y b =>
    obtain⟨h1,h2⟩:=BP.1 hb;simp only[Au]at hn;show r∈(if c x y<0 then x::CB c n a (y::b)else if c x y=0 then y::CB c n a b else y::CB c n (x::a) b)↔_;split
    ·rename_i e;have e:=(h.lt x y).1 e;rw[Av,Iz h n a (y::b) (by simp only[Au];omega) g2 hb];constructor
     ·rintro(rfl | hr | ⟨hr,hk⟩)
      ·refine .inr ⟨Ac ..,fun s hs=>?_⟩;intro hk;rcases Av.1 hs with rfl | hs
       ·exact h.irr _ _ hk e
       ·exact h.irr _ _ hk (h.tr _ _ _ e (h1 s hs))
      ·exact .inl hr
      ·exact .inr ⟨Af _ hr,hk⟩
     ·rintro(hr | ⟨hr,hk⟩)
      ·exact .inr (.inl hr)
      ·rcases Av.1 hr with rfl | hr
       ·exact .inl rfl
       ·exact .inr (.inr ⟨hr,hk⟩)
    ·split
     ·rename_i e;have e:=(h.eq x y).1 e;rw[Av,Iz h n a b (by omega) g2 h2];constructor
      ·rintro(rfl | hr | ⟨hr,hk⟩)
       ·exact .inl (Ac ..)
       ·exact .inl (Af _ hr)
       ·refine .inr ⟨Af _ hr,fun s hs=>?_⟩;rcases Av.1 hs with rfl | hs
        ·exact fun q=>h.irr _ _ q.symm (h.cl _ _ _ e (g1 r hr))
        ·exact hk s hs
      ·rintro(hr | ⟨hr,hk⟩)
       ·exact(Av.1 hr).imp id .inl
       ·rcases Av.1 hr with rfl | hr
        ·exact absurd e (hk y (Ac ..))
        ·exact .inr (.inr ⟨hr,fun s hs=>hk s (Af _ hs)⟩)
     ·rename_i e1 e2;have e:=h.gt e1 e2;rw[Av,Iz h n (x::a) b (by simp only[Au];omega) ha h2];constructor
      ·rintro(rfl | hr | ⟨hr,hk⟩)
       ·exact .inl (Ac ..)
       ·exact .inl (Af _ hr)
       ·refine .inr ⟨hr,fun s hs=>?_⟩;rcases Av.1 hs with rfl | hs
        ·intro q;rcases Av.1 hr with rfl | hr
         ·exact h.irr _ _ q.symm e
         ·exact h.irr _ _ q.symm (h.tr _ _ _ e (g1 r hr))
        ·exact hk s hs
      ·rintro(hr | ⟨hr,hk⟩)
       ·exact(Av.1 hr).imp id .inl
       ·exact .inr (.inr ⟨hr,fun s hs=>hk s (Af _ hs)⟩)
theorem T6(h:OC c R key){a b:List α}(ha:a.Pairwise R)(hb:b.Pairwise R)(r:α):r∈AW c a b↔r∈b∨(r∈a∧∀s∈b,key r≠key s):=Iz h _ a b (Al _) ha hb r
theorem bC(h:OC c R key):∀{a b:List α},a.Pairwise R→b.Pairwise R→(∀y,y∈a↔y∈b)→a=b
 | [],[],_,_,_=>rfl
 | [],y::b,_,_,e=>absurd ((e y).2 (Ac ..)) (by simp)
 |x::a,[],_,_,e=>absurd ((e x).1 (Ac ..)) (by simp)
 |x::a,y::b,ha,hb,e=>by
  obtain⟨g1,g2⟩:=BP.1 ha;obtain⟨h1,h2⟩:=BP.1 hb;have hxy:x=y:=by
   rcases Av.1 ((e x).1 (Ac ..))with q | q
   ·exact q
   ·rcases Av.1 ((e y).2 (Ac ..))with p | p
    ·exact p.symm
    ·exact absurd (h.tr _ _ _ (g1 y p) (h1 x q)) (h.irr _ _ rfl)
  subst hxy;rw[bC h g2 h2 fun z=>?_];constructor
  ·intro hz;rcases Av.1 ((e z).1 (Af _ hz))with q | q
   ·subst q;exact absurd (g1 z hz) (h.irr _ _ rfl)
   ·exact q
  ·intro hz;rcases Av.1 ((e z).2 (Af _ hz))with q | q
   ·subst q;exact absurd (h1 z hz) (h.irr _ _ rfl)
   ·exact q
theorem dB(h:OC c R key){a:List α}(ha:a.Pairwise R):(a.map key).Nodup:=by
 unfold List.Nodup;rw[List.pairwise_map];exact ha.imp fun q e=>h.irr _ _ e q
end
/-! The three comparisons. -/
def T3(a b:Sl):Prop:=EM a.path b.path=true∨(a.path=b.path∧fC a.ver b.ver)
abbrev lW(a b:Sl):Prop:=EM a.path b.path=true
theorem Tc{a b:Int}:Fa a b<0↔a<b:=by
 unfold Fa;split
 ·rename_i h;simp[h]
 ·rename_i h;split<;>simp[h]
theorem GG{a b:Int}:Fa a b=0↔a=b:=by
 unfold Fa;split
 ·rename_i h;simp;omega
 ·rename_i h;split
  ·rename_i h2;simp;omega
  ·rename_i h2;simp;omega
theorem gv{a b:Ver}:G3 a b<0↔fC a b:=by
 refine⟨bh,fun h=>?_⟩;unfold G3;rcases h with h | ⟨h1,h | ⟨h2,h⟩⟩
 ·rw[Ax (fun c=>by have:=GG.1 c;omega)];exact Tc.2 h
 ·rw[Ao (fun c=>c (GG.2 h1)),Ax (fun c=>by have:=GG.1 c;omega)];exact Tc.2 h
 ·rw[Ao (fun c=>c (GG.2 h1)),Ao (fun c=>c (GG.2 h2))];exact Tc.2 h
theorem ZM{a b:Ver}:G3 a b=0↔a=b:=by
 refine⟨Vv,fun h=>?_⟩;subst h;unfold G3;rw[Ao (fun c=>c (GG.2 rfl)),Ao (fun c=>c (GG.2 rfl))];exact GG.2 rfl
theorem Td{a b:Sl}:Fi a b<0↔T3 a b:=by
 unfold Fi T3
 by_cases h:a.path=b.path
 ·rw[Ao (fun c=>c (GF.2 h)),gv];exact⟨fun q=>.inr ⟨h,q⟩,fun q=>q.elim (fun q=>by rw[h,CW]at q;cases q) (·.2)⟩
 ·rw[Ax (fun c=>h (GF.1 c)),Mh];exact⟨.inl,fun q=>q.elim id fun q=>absurd q.1 h⟩
theorem N1{a b:Sl}:Fi a b=0↔a=b:=by
 unfold Fi
 by_cases h:a.path=b.path
 ·rw[Ao (fun c=>c (GF.2 h)),ZM];constructor
  ·intro q;cases a;cases b;simp_all
  ·rintro rfl;rfl
 ·rw[Ax (fun c=>h (GF.1 c))];exact⟨fun q=>absurd (GF.1 q) h,fun q=>absurd (Ab Sl.path q) h⟩
theorem QC{a b d:Sl}(h:T3 a b)(k:T3 b d):T3 a d:=by
 rcases h with h | ⟨h1,h2⟩
 ·rcases k with k | ⟨k1,k2⟩
  ·exact .inl (Ep h k)
  ·exact .inl (k1▸h)
 ·rcases k with k | ⟨k1,k2⟩
  ·exact .inl (h1▸k)
  ·exact .inr ⟨h1.trans k1,VV h2 k2⟩
theorem bG(a:Sl):¬T3 a a:=by
 rintro(h | ⟨_,h⟩)
 ·rw[CW]at h;cases h
 ·unfold fC at h;omega
theorem bH{a b:Sl}(h:¬T3 a b)(hk:a≠b):T3 b a:=by
 unfold T3 at *
 by_cases e:a.path=b.path
 ·refine .inr ⟨e.symm,?_⟩;have h2:¬fC a.ver b.ver:=fun q=>h (.inr ⟨e,q⟩);have h3:a.ver≠b.ver:=fun q=>hk (by cases a;cases b;simp_all);unfold fC at *
  by_cases q1:a.ver.a=b.ver.a
  ·by_cases q2:a.ver.b=b.ver.b
   ·by_cases q3:a.ver.c=b.ver.c
    ·exact absurd (by cases ha:a.ver;cases hb:b.ver;simp_all) h3
    ·omega
   ·omega
  ·omega
 ·cases q:EM b.path a.path with
  |true=>exact .inl rfl
  |false =>
   cases p:EM a.path b.path with
   |true=>exact absurd (.inl p) h
   |false=>exact absurd (HT p q) e
theorem uN:OC Fi T3 (fun s:Sl=>s) where
 lt _ _:=Td
 eq _ _:=N1
 tr _ _ _:=QC
 irr a b e:=by subst e;exact bG a
 tri _ _:=bH
 cl _ _ _ e h:=by subst e;exact h
theorem uM:OC I3 lW (fun s:Sl=>s.path) where
 lt _ _:=Mh
 eq _ _:=GF
 tr _ _ _:=Ep
 irr a b e h:=by rw[lW,e,CW]at h;cases h
 tri a b h e:=by
  cases q:EM b.path a.path with
  |true=>exact q
  |false =>
   cases p:EM a.path b.path with
   |true=>exact absurd p h
   |false=>exact absurd (HT p q) e
 cl a b d e h:=by rw[lW,←e];exact h
/-! Pins. -/
/-! What the reference makes of a list. -/
theorem Lh{α:Type}{l:List α}{i:Nat}(h:i<l.length):l.take (i+1)=l.take i++[l[i]]:=EV h
theorem Mg{w:Wk}(h:B6 w=0):A9 w.rep=0∧He Fi w.exc=true∧He I3 w.pin=true∧∀s∈w.pin,s∉w.exc:=by
 unfold B6 at h;split at h
 ·cases h
 ·rename_i h1;split at h
  ·cases h
  ·rename_i h2;simp only[not_or,B2]at h1;refine⟨h1.1,by simpa using h1.2.1,by simpa using h1.2.2,fun s hs he=>h2 (Bb.2 ⟨s,hs,At he⟩)⟩
theorem VK{c:Sl→Sl→Int}{R:Sl→Sl→Prop}{β:Type}{key:Sl→β}(hc:OC c R key){l:List Sl}(h:He c l=true):l.Pairwise R:=by
 have h:=GK.1 h;rw[A7];have step:∀(d i:Nat) (h1:i+d+1<l.length),R (l[i]'(by omega)) l[i+d+1]:=by
  intro d
  induction d with
  |zero =>
   intro i h1
   have:=(h (i+1) h1).2 (by omega)
   exact(hc.lt _ _).1 this
  |succ d ih =>
   intro i h1
   have:=(h (i+(d+1)+1) h1).2 (by omega)
   have e:=(hc.lt _ _).1 this;exact hc.tr _ _ _ (ih i (by omega)) e
 intro i j hi hj VF
 have:=step (j-i-1) i (by omega)
 have e:i+(j-i-1)+1=j:=by omega
 simp only[e]at this;exact this
theorem Hf{w:Wk}(h:B6 w=0):w.pin.Pairwise lW:=VK uM (Mg h).2.2.1
theorem EA{w:Wk}(h:B6 w=0):w.exc.Pairwise T3:=VK uN (Mg h).2.1
end Go.Eng
namespace Go.Eng
open Go.Proofs
theorem NL{a b:List Rl}{i k:Nat}(hi:i<a.length)(h:¬k<b.length∨FA (Gx a[i]) (Gx (b.getD k ⟨mt,⟨0,0,0⟩,[],mt,mt,mt,false⟩))=true):AW Cj (a.drop i) (b.drop k)=a[i]::AW Cj (a.drop (i+1)) (b.drop k):=by
 have ha:0<(a.drop i).length:=by rw[Ap];omega
 have e0:(a.drop i)[0]=a[i]:=by rw[FI];rfl
 have e1:(a.drop i).drop 1=a.drop (i+1):=Dr
 by_cases hk:k<b.length
 ·have hb:0<(b.drop k).length:=by rw[Ap];omega
  have hl:=h.resolve_left (fun c=>c hk);rw[BY,Ge hk]at hl;have e2:(b.drop k)[0]=b[k]:=by rw[FI];rfl
  rw[Fc ha hb,Ax (by rw[e0,e2];exact Jx.1 hl),e0,e1]
 ·have e:b.drop k=[]:=DI (by omega);rw[e,MB ha,e0,e1]
theorem NM{a b:List Rl}{i k:Nat}(hk:k<b.length)(h:¬i<a.length∨(∃hi:i<a.length,FA (Gx a[i]) (Gx b[k])=false∧Gx a[i]≠Gx b[k])):AW Cj (a.drop i) (b.drop k)=b[k]::AW Cj (a.drop i) (b.drop (k+1)):=by
 have hb:0<(b.drop k).length:=by rw[Ap];omega
 have e0:(b.drop k)[0]=b[k]:=by rw[FI];rfl
 have e1:(b.drop k).drop 1=b.drop (k+1):=Dr;rcases h with h | ⟨hi,hl,hn⟩
 ·have e:a.drop i=[]:=DI (by omega);rw[e,MC hb,e0,e1]
 ·have ha:0<(a.drop i).length:=by rw[Ap];omega
  have e2:(a.drop i)[0]=a[i]:=by rw[FI];rfl
  have n1:¬Cj a[i] b[k]<0:=fun c=>by have:=Jx.2 (show Fi (Gx a[i]) (Gx b[k])<0 from c);rw[hl]at this;cases this
  have n2:¬Cj a[i] b[k]=0:=fun c=>hn (N1.1 c);rw[Fc ha hb,Ao (by rw[e0,e2];exact n1),Ao (by rw[e0,e2];exact n2),e0,e1]
theorem U6{a b:List Rl}{i k:Nat}(hi:i<a.length)(hk:k<b.length)(h:Gx a[i]=Gx b[k]):AW Cj (a.drop i) (b.drop k)=b[k]::AW Cj (a.drop (i+1)) (b.drop (k+1)):=by
 have hb:0<(b.drop k).length:=by rw[Ap];omega
 have e0:(b.drop k)[0]=b[k]:=by rw[FI];rfl
 have e1:(b.drop k).drop 1=b.drop (k+1):=Dr;have ha:0<(a.drop i).length:=by rw[Ap];omega
 have e2:(a.drop i)[0]=a[i]:=by rw[FI];rfl
 have e3:(a.drop i).drop 1=a.drop (i+1):=Dr;have z:Cj a[i] b[k]=0:=N1.2 (show Gx a[i]=Gx b[k]from h);rw[Fc ha hb,Ao (by rw[e0,e2,z];decide),Ax (by rw[e0,e2];exact z),e0,e1,e3]
theorem o48(a b:List Rl)(ha:Co a)(hb:Co b):PC 48 [sl Ai a,sl Ai b] (sl Ai (AW Cj a b)):=by
 have ha:a.length≤1073741824:=ha;have hb:b.length≤1073741824:=hb;refine Ps ⟨[],[],[],[],[],[],[],[],[],[],[5,7,8,9]⟩ Tryz.func48 rfl (Nz rfl) ?_;refine Xi {q:Nat×Nat×List Rl // q.1≤a.length∧q.2.1≤b.length∧q.2.2++AW Cj (a.drop q.1) (b.drop q.2.1)=AW Cj a b∧q.2.2.length≤q.1+q.2.1} (Xi (fun q=>⟨[(0,sl Ai a),(1,sl Ai b),(5,.slice (.id 8 9) (q.1.2.2.map Ai)),(6,vi q.1.1),(7,vi q.1.2.1)],[(8,.tok 9 q.1.2.2.length)],Aa⟩) (Xi (fun q=>(a.length+b.length)-(q.1.1+q.1.2.1)) (Yi (Xi ⟨(0,0,[]),AG _,AG _,rfl,Al _⟩ ?_) ?_)))
 ·exact⟨Z5,Z1,Fh,Tv⟩
 intro⟨⟨i,k,O⟩,k1,k2,k3,k4⟩;have k1:i≤a.length:=k1;have k2:k≤b.length:=k2;have k3:O++AW Cj (a.drop i) (b.drop k)=AW Cj a b:=k3;have k4:O.length≤i+k:=k4;refine Yi (fun h1=>?_) (fun h1=>?_)
 ·have h1:(i:Int)<((a.map Ai).length:Int):=h1;have n1:=H5 h1;have hi:i<a.length:=by have q:=h1;rw[Lm]at q;omega
  refine Yi (fun h2=>?_) (fun h2=>?_)
  ·have h2:(k:Int)=((b.map Ai).length:Int):=h2;refine Yi (by kernel_rfl) ?_;refine Xi ⟨[(0,sl Ai a),(1,sl Ai b),(5,.slice (.id 8 9) (O.map Ai)),(6,vi i),(7,vi k)],[(8,.tok 9 O.length)],Aa⟩ (Yi ⟨Z5,Z1,Fh,Tv⟩ ?_)
   refine Xi (Ai a[i]) (Yi (Jp hi) (Yi rfl ?_));refine Yi (Nz rfl) ?_;refine Yi (Md rfl (by omega) (by decide)) ?_;refine Yi (Ii i (by omega)) ?_;have eM:=NL (a:=a) (b:=b) (i:=i) (k:=k) hi (.inl (by have q:=h2;rw[Lm]at q;omega));refine Xi ⟨(i+1,k,(O++[a[i]])),by show i+1≤a.length;omega,by show k≤b.length;omega,by show(O++[a[i]])++_=_;rw[←k3,eM,AM];rfl,by show(O++[a[i]]).length≤i+1+(k);rw[Ad,Am];omega⟩ ?_;exact⟨by show(a.length+b.length)-((i+1)+k)<(a.length+b.length)-(i+k);omega,⟨Zr,Zr,⟨Qc,rfl⟩,Zr,Zr,Tv⟩,⟨⟨PZ,rfl⟩,Tv⟩,Fh,Tv⟩
  have h2:¬((k:Int)=((b.map Ai).length:Int)):=h2;have hk:k<b.length:=by have q:=h2;rw[Lm]at q;omega
  refine Yi (fun _=>?_) (fun hf=>absurd h1 hf);refine Xi (Ai a[i]) (Yi (Jp hi) (Yi rfl ?_));refine Yi (Nz rfl) ?_;refine Xi _ (Yi (uH a[i]) ?_);refine Xi (Ai b[k]) (Yi (Jp hk) (Yi rfl ?_));refine Yi (Nz rfl) ?_;refine Xi _ (Yi (uH b[k]) ?_);refine Bq (Bt (FA (Gx a[i]) (Gx b[k]))) (fun h5=>?_) (fun h5=>?_)
  ·have h5:(FA (Gx a[i]) (Gx b[k]))=true:=h5;refine Xi _ (Yi (cb h5 (qJ (Gx a[i]) (Gx b[k]))) ?_);refine Yi (by kernel_rfl) ?_;refine Xi ⟨[(0,sl Ai a),(1,sl Ai b),(5,.slice (.id 8 9) (O.map Ai)),(6,vi i),(7,vi k)],[(8,.tok 9 O.length)],Aa⟩ (Yi ⟨Z5,Z1,Fh,Tv⟩ ?_)
   refine Xi (Ai a[i]) (Yi (Jp hi) (Yi rfl ?_));refine Yi (Nz rfl) ?_;refine Yi (Md rfl (by omega) (by decide)) ?_;refine Yi (Ii i (by omega)) ?_;have eM:=NL (a:=a) (b:=b) (i:=i) (k:=k) hi (.inr (by rw[BY,Ge hk];exact h5));refine Xi ⟨(i+1,k,(O++[a[i]])),by show i+1≤a.length;omega,by show k≤b.length;omega,by show(O++[a[i]])++_=_;rw[←k3,eM,AM];rfl,by show(O++[a[i]]).length≤i+1+(k);rw[Ad,Am];omega⟩ ?_;exact⟨by show(a.length+b.length)-((i+1)+k)<(a.length+b.length)-(i+k);omega,⟨Zr,Zr,⟨Qc,rfl⟩,Zr,Zr,Tv⟩,⟨⟨PZ,rfl⟩,Tv⟩,Fh,Tv⟩
  have h5:(FA (Gx a[i]) (Gx b[k]))=false:=h5;refine Xi _ (Yi (cb h5 (qJ (Gx a[i]) (Gx b[k]))) ?_);refine Yi (by kernel_rfl) ?_;refine Xi ⟨[(0,sl Ai a),(1,sl Ai b),(5,.slice (.id 8 9) (O.map Ai)),(6,vi i),(7,vi k)],[(8,.tok 9 O.length)],Aa⟩ (Yi ⟨Z5,Z1,Fh,Tv⟩ ?_)
  refine Yi (fun _=>?_) (fun hf=>absurd h1 hf);refine Xi (Ai a[i]) (Yi (Jp hi) (Yi rfl ?_));refine Yi (Nz rfl) ?_;refine Xi _ (Yi (uH a[i]) ?_);refine Xi (Ai b[k]) (Yi (Jp hk) (Yi rfl ?_));refine Yi (Nz rfl) ?_;refine Xi _ (Yi (uH b[k]) ?_);refine Yi (fun h8=>?_) (fun h8=>?_)
  ·have h8:((Gx a[i]).path:ByteArray)=(Gx b[k]).path∧((Gx a[i]).ver.a:Int)=(Gx b[k]).ver.a∧((Gx a[i]).ver.b:Int)=(Gx b[k]).ver.b∧((Gx a[i]).ver.c:Int)=(Gx b[k]).ver.c∧True:=h8;refine Yi (by kernel_rfl) ?_;refine Xi ⟨[(0,sl Ai a),(1,sl Ai b),(5,.slice (.id 8 9) (O.map Ai)),(6,vi i),(7,vi k)],[(8,.tok 9 O.length)],Aa⟩ (Yi ⟨Z5,Z1,Fh,Tv⟩ ?_)
   refine Yi (Ii i (by omega)) ?_;refine Xi ⟨[(0,sl Ai a),(1,sl Ai b),(5,.slice (.id 8 9) (O.map Ai)),(6,vi (i+1)),(7,vi k)],[(8,.tok 9 O.length)],Aa⟩ (Yi ⟨Z5,Z1,Fh,Tv⟩ ?_)
   refine Xi (Ai b[k]) (Yi (Jp hk) (Yi rfl ?_));refine Yi (Nz rfl) ?_;refine Yi (Md rfl (by omega) (by decide)) ?_;refine Yi (Ii k (by omega)) ?_;have eM:=U6 (a:=a) (b:=b) (i:=i) (k:=k) hi hk (QV.1 h8);refine Xi ⟨(i+1,k+1,(O++[b[k]])),by show i+1≤a.length;omega,by show k+1≤b.length;omega,by show(O++[b[k]])++_=_;rw[←k3,eM,AM];rfl,by show(O++[b[k]]).length≤i+1+(k+1);rw[Ad,Am];omega⟩ ?_;exact⟨by show(a.length+b.length)-((i+1)+(k+1))<(a.length+b.length)-(i+k);omega,⟨Zr,Zr,⟨Qc,rfl⟩,Zr,Zr,Tv⟩,⟨⟨PZ,rfl⟩,Tv⟩,Fh,Tv⟩
  have h8:¬(((Gx a[i]).path:ByteArray)=(Gx b[k]).path∧((Gx a[i]).ver.a:Int)=(Gx b[k]).ver.a∧((Gx a[i]).ver.b:Int)=(Gx b[k]).ver.b∧((Gx a[i]).ver.c:Int)=(Gx b[k]).ver.c∧True):=h8;refine Yi (by kernel_rfl) ?_;refine Xi ⟨[(0,sl Ai a),(1,sl Ai b),(5,.slice (.id 8 9) (O.map Ai)),(6,vi i),(7,vi k)],[(8,.tok 9 O.length)],Aa⟩ (Yi ⟨Z5,Z1,Fh,Tv⟩ ?_)
  refine Xi (Ai b[k]) (Yi (Jp hk) (Yi rfl ?_));refine Yi (Nz rfl) ?_;refine Yi (Md rfl (by omega) (by decide)) ?_;refine Yi (Ii k (by omega)) ?_;have eM:=NM (a:=a) (b:=b) (i:=i) (k:=k) hk (.inr ⟨hi,h5,fun c=>h8 (QV.2 c)⟩);refine Xi ⟨(i,k+1,(O++[b[k]])),by show i≤a.length;omega,by show k+1≤b.length;omega,by show(O++[b[k]])++_=_;rw[←k3,eM,AM];rfl,by show(O++[b[k]]).length≤i+(k+1);rw[Ad,Am];omega⟩ ?_;exact⟨by show(a.length+b.length)-(i+(k+1))<(a.length+b.length)-(i+k);omega,⟨Zr,Zr,⟨Qc,rfl⟩,Zr,Zr,Tv⟩,⟨⟨PZ,rfl⟩,Tv⟩,Fh,Tv⟩
 have h1:¬((i:Int)<((a.map Ai).length:Int)):=h1;have n1:=H4 h1;refine Yi (fun Pp=>?_) (fun Pp=>?_)
 ·have Pp:(k:Int)<((b.map Ai).length:Int):=Pp;have n13:=H5 Pp;have hk:k<b.length:=by have q:=Pp;rw[Lm]at q;omega
  refine Yi (fun Yf=>?_) (fun Yf=>?_)
  ·have Yf:(k:Int)=((b.map Ai).length:Int):=Yf;exact absurd Yf (Int.ne_of_lt Pp)
  have Yf:¬((k:Int)=((b.map Ai).length:Int)):=Yf;have hk:k<b.length:=by have q:=Yf;rw[Lm]at q;omega
  refine Yi (fun hf=>absurd hf h1) (fun _=>?_);refine Yi (by kernel_rfl) ?_;refine Xi ⟨[(0,sl Ai a),(1,sl Ai b),(5,.slice (.id 8 9) (O.map Ai)),(6,vi i),(7,vi k)],[(8,.tok 9 O.length)],Aa⟩ (Yi ⟨Z5,Z1,Fh,Tv⟩ ?_)
  refine Yi (fun hf=>absurd hf h1) (fun _=>?_);refine Yi (by kernel_rfl) ?_;refine Xi ⟨[(0,sl Ai a),(1,sl Ai b),(5,.slice (.id 8 9) (O.map Ai)),(6,vi i),(7,vi k)],[(8,.tok 9 O.length)],Aa⟩ (Yi ⟨Z5,Z1,Fh,Tv⟩ ?_)
  refine Xi (Ai b[k]) (Yi (Jp hk) (Yi rfl ?_));refine Yi (Nz rfl) ?_;refine Yi (Md rfl (by omega) (by decide)) ?_;refine Yi (Ii k (by omega)) ?_;have eM:=NM (a:=a) (b:=b) (i:=i) (k:=k) hk (.inl (by have q:=h1;rw[Lm]at q;omega));refine Xi ⟨(i,k+1,(O++[b[k]])),by show i≤a.length;omega,by show k+1≤b.length;omega,by show(O++[b[k]])++_=_;rw[←k3,eM,AM];rfl,by show(O++[b[k]]).length≤i+(k+1);rw[Ad,Am];omega⟩ ?_;exact⟨by show(a.length+b.length)-(i+(k+1))<(a.length+b.length)-(i+k);omega,⟨Zr,Zr,⟨Qc,rfl⟩,Zr,Zr,Tv⟩,⟨⟨PZ,rfl⟩,Tv⟩,Fh,Tv⟩
 have Pp:¬((k:Int)<((b.map Ai).length:Int)):=Pp;have n13:=H4 Pp;have eA:a.drop i=[]:=DI (by have q:=h1;rw[Lm]at q;omega);have eB:b.drop k=[]:=DI (by have q:=Pp;rw[Lm]at q;omega);have eO:O=AW Cj a b:=by rw[←k3,eA,eB,Oi,BE]
 exact .of_eq (Ab (fun z=>sl Ai z) eO)
def bq(p:ByteArray)(r:Rl):Bool:=decide (r.path=p)&&!r.yanked
def tV(r:Rl):Int×Int:=(plc r.ver,plc r.ver+1)
theorem cI{x:List Rl}{p:ByteArray}(h:A9 x=0):Ci x p=canon ((x.filter (bq p)).map tV):=by
 unfold Ci KB;rw[Ao (not_not_intro h),List.filter_filter]
 congr 3
 funext r
 unfold bq;rw[Bool.and_comm]
theorem dX{α:Type}(o:Option α):(∃x,o=some x)∨o=none:=by
 cases o with
 |none=>exact .inr rfl
 |some x=>exact .inl ⟨x,rfl⟩
theorem Nl(l:List Sl):∀cs∈l.map Ae,cs.length=4:=fun cs h=>by obtain⟨x,_,rfl⟩:=Ar.1 h;rfl
abbrev QS(s:List Sl)(k:Nat):List (List AV):=((s.map Ae).take (((s.map Ae).length:Nat):Int).toNat).drop ((k:Nat):Int).toNat
abbrev kj(s:List Sl)(k:Nat):List (List AV):=((s.map Ae).take ((k:Nat):Int).toNat).drop ((0:Int)).toNat
theorem Xn(s:List Sl)(k:Nat):QS s k=(s.drop k).map Ae:=by
 unfold QS;rw[Ba,Ba,AJ (Al _),List.map_drop]
theorem gZ(s:List Sl)(k:Nat):kj s k=(s.take k).map Ae:=by
 unfold kj;rw[Ba,show(0:Int).toNat=0 from rfl,KG,JE]
theorem qX(s:List Sl)(x:Sl)(k:Nat)(h:s.length≤1073741824):CT 4 (QS s k)∧[Ae x].length=1∧([Ae x].length+(QS s k).length)*40≤140737488355328∧[Ae x].length+(QS s k).length≤9223372036854775807:=by
 rw[Xn];refine⟨Jt (Nl _),rfl,?_,?_⟩<;>rw[Lm,Ap,Am]<;>omega
theorem qY(s:List Sl)(x:Sl)(k:Nat)(hk:k≤s.length)(h:s.length≤1073741824):CT 4 ([Ae x]++QS s k)∧(kj s k).length=((k:Nat):Int).toNat-((0:Int)).toNat∧((kj s k).length+([Ae x]++QS s k).length)*40≤140737488355328∧(kj s k).length+([Ae x]++QS s k).length≤9223372036854775807:=by
 rw[Xn,gZ];refine⟨⟨rfl,Jt (Nl _)⟩,?_,?_,?_⟩
 ·rw[Lm,AC,Ba];show min k s.length=k-0;omega
 ·rw[Ad,Lm,Lm,AC,Ap,Am];omega
 ·rw[Ad,Lm,Lm,AC,Ap,Am];omega
theorem sV(s:List Sl)(x:Sl)(k:Nat):kj s k++([Ae x]++QS s k)=(s.take k++([x]++s.drop k)).map Ae:=by
 rw[Xn,gZ,AH,AH];rfl
theorem Yz{s:List Sl}{x:Sl}{k:Nat}(hs:s.Pairwise T3)(hn:∀y∈s,y≠x)(h1:∀j (hj:j<s.length),k≤j→FA x s[j]=true)(h2:k=0∨∃h:k-1<s.length,FA x s[k-1]=false)(hk:k≤s.length) :
  (s.take k++([x]++s.drop k)).Pairwise T3:=by
 have lt {a b:Sl} (h:FA a b=true):T3 a b:=Td.1 (Jx.1 h);have ht:∀y∈s.take k,T3 y x:=fun y hy=>by
  obtain⟨j,hj,rfl⟩:=BR.1 hy;rw[ES];rw[AC]at hj;have hjs:j<s.length:=by omega
  rcases h2 with h | ⟨h,hb⟩
  ·omega
  ·have DF:T3 s[k-1] x:=bH (fun q=>by have:=Jx.2 (Td.2 q);rw[hb]at this;cases this) (fun q=>hn _ (Ak h) q.symm);rcases Ch j (k-1)with z | z
   ·exact QC ((A7.1 hs) j (k-1) hjs h z) DF
   ·have:j=k-1:=by omega
    subst this;exact DF
 have hd:∀y∈s.drop k,T3 x y:=fun y hy=>by
  obtain⟨j,hj,rfl⟩:=BR.1 hy;rw[Ap]at hj;rw[FI];exact lt (h1 _ (by omega) (by omega))
 rw[List.pairwise_append];refine⟨hs.sublist (List.take_sublist _ _),?_,fun a ha b hb=>?_⟩
 ·rw[Ik,BP];exact⟨hd,hs.sublist (List.drop_sublist _ _)⟩
 ·rw[Ik]at hb;rcases Av.1 hb with rfl | hb
  ·exact ht a ha
  ·exact QC (ht a ha) (hd b hb)
theorem VN(s:List Sl)(x:Sl)(k:Nat):(s.take k++([x]++s.drop k)).Perm (x::s):=by
 have:=List.perm_middle (a:=x) (l₁:=s.take k) (l₂:=s.drop k)
 rw[Gp]at this;exact this
theorem iU{l s:List Sl}{i:Nat}(hn:l.Nodup)(hp:s.Perm (l.take i))(hi:i<l.length):∀y∈s,y≠l[i]:=fun y hy e=>by
 obtain⟨j,hj,rfl⟩:=BR.1 (hp.mem_iff.1 hy);rw[ES]at e;rw[AC]at hj;exact(A7.1 hn) j i (by omega) hi (by omega) e
theorem o64(l t:List Sl)(hl:Co l)(hn:l.Nodup)(ht:t.Pairwise T3)(lJ:∀y,y∈t↔y∈l):PC 64 [sl Ae l] (sl Ae t):=by
 have hl:l.length≤1073741824:=hl;refine Ps ⟨[],[(3,0)],[],[],[],[],[],[],[],[],[4,7]⟩ Tryz.func64 rfl (Nz rfl) ?_;refine Xi {q:Nat×List Sl // q.1≤l.length∧q.2.Perm (l.take q.1)∧q.2.Pairwise T3} (Xi (fun q=>⟨[(0,sl Ae l),(3,sl Ae q.1.2),(4,vi q.1.1)],[],Aa⟩) (Xi (fun q=>l.length-q.1.1) (Yi (Xi ⟨(0,[]),AG _,.refl _,.nil⟩ ?_) ?_)))
 ·exact⟨Z3,Tv,Fh,Tv⟩
 intro⟨⟨i,s⟩,i1,i2,i3⟩;have i1:i≤l.length:=i1;have i2:s.Perm (l.take i):=i2;have i3:s.Pairwise T3:=i3;have VH:s.length≤l.length:=by have q:=i2.length_eq;rw[AC]at q;omega
 refine Yi (fun h1=>?_) (fun h1=>?_)
 ·have h1:(i:Int)<((l.map Ae).length:Int):=h1;have n1:=H5 h1;refine Xi {q:Nat // q≤s.length∧∀j (hj:j<s.length),q≤j→FA l[i] s[j]=true} (Xi (fun q=>⟨[(0,sl Ae l),(3,sl Ae s),(4,vi i),(5,vi q.1)],[],Aa⟩) (Xi (fun q=>q.1) (Yi (Xi ⟨s.length,Al _,fun j hj GA=>by omega⟩ ?_) ?_)))
  ·exact⟨⟨Zr,Zr,Zr,⟨(show vi ((s.map Ae).length:Int)=vi (s.length:Int) by rw[Lm]),rfl⟩,Tv⟩,Tv,Fh,Tv⟩
  intro⟨k,k1,k2⟩;have k1:k≤s.length:=k1;have k2:∀j (hj:j<s.length),k≤j→FA l[i] s[j]=true:=k2;refine Yi (fun h2=>?_) (fun h2=>?_)
  ·have h2:(0:Int)<(k:Int):=h2;refine Xi (Ae l[i]) (Yi (Jp n1) (Yi rfl ?_));refine Yi (Nz rfl) ?_;refine Yi (by show Bu ((k:Int)-(1:Int));unfold Bu;omega) ?_;have qv:k-1<s.length:=by omega
   refine Xi (Ae (s[k-1])) (Yi (Yi (show(0:Int)≤(k:Int)-1 by omega) (by rw[show((k:Int)-1).toNat=k-1 by omega];exact B4 (Ge qv))) (Yi rfl ?_));refine Yi (Nz rfl) ?_;refine Bq (Bt (FA l[i] s[k-1])) (fun h3=>?_) (fun h3=>?_)
   ·have h3:(FA l[i] s[k-1])=true:=h3;refine Xi _ (Yi (cb h3 (qJ l[i] s[k-1])) ?_);refine Yi (by kernel_rfl) ?_;refine Xi ⟨[(0,sl Ae l),(3,sl Ae s),(4,vi i),(5,vi k)],[],Aa⟩ (Yi ⟨Z4,Tv,Fh,Tv⟩ ?_)
    refine Yi (by show Bu ((k:Int)-(1:Int));unfold Bu;omega) ?_;refine Xi ⟨k-1,by omega,fun j hj GA=>by
      rcases Ch j k with z | z
      ·have e:j=k-1:=by omega
       subst e;exact h3
      ·exact k2 j hj z⟩ ?_
    exact⟨by show(k-1:Nat)<k;omega,⟨Zr,Zr,Zr,⟨(show vi ((k:Int)-1)=vi ((k-1:Nat):Int)from Ab vi (by omega)),rfl⟩,Tv⟩,Tv,Fh,Tv⟩
   have h3:(FA l[i] s[k-1])=false:=h3;have HL:k=0∨∃h:k-1<s.length,FA l[i] s[k-1]=false:=.inr ⟨qv,h3⟩;refine Xi _ (Yi (cb h3 (qJ l[i] s[k-1])) ?_);refine Yi (by kernel_rfl) ?_;refine Yi (show(0:Int)≤0∧(0:Int)≤k∧(k:Int)=k∧(k:Int)≤((s.map Ae).length:Nat) by rw[Lm];omega) (Yi (Nl s) ?_);refine Xi (Ae l[i]) (Yi (Jp n1) (Yi rfl ?_));refine Yi (Nz rfl) ?_;refine Yi (show(0:Int)≤k∧(k:Int)≤((s.map Ae).length:Nat)∧(((s.map Ae).length:Nat):Int)≤((s.map Ae).length:Nat) by rw[Lm];omega) (Yi (Nl s) ?_);refine Yi (qX s l[i] k (by omega)) ?_;refine Yi (qY s l[i] k k1 (by omega)) ?_;refine Yi (by kernel_rfl) ?_;refine Xi ⟨[(0,sl Ae l),(3,.slice .none (kj s k++([Ae l[i]]++QS s k))),(4,vi i)],[],Aa⟩ (Yi ⟨Z3,Tv,Fh,Tv⟩ ?_)
   refine Yi (Ii i (by omega)) ?_;have kp:l.take (i+1)=l.take i++[l[i]]:=EV n1;have bB:∀y∈s,y≠l[i]:=iU hn i2 n1;refine Xi ⟨(i+1,s.take k++([l[i]]++s.drop k)),n1,by show(s.take k++([l[i]]++s.drop k)).Perm (l.take (i+1));rw[kp];exact(VN s _ k).trans ((i2.cons _).trans (OJ _ _).symm),Yz i3 bB k2 HL k1⟩ ?_;exact⟨Dl l.length i (by omega),⟨Zr,⟨(show AV.slice .none (kj s k++([Ae l[i]]++QS s k))=sl Ae (s.take k++([l[i]]++s.drop k))from Ab (AV.slice .none) (sV s l[i] k)),rfl⟩,Zr,Tv⟩,Tv,Fh,Tv⟩
  have h2:¬((0:Int)<(k:Int)):=h2;have HL:k=0∨∃h:k-1<s.length,FA l[i] s[k-1]=false:=.inl (by omega);refine Yi (by kernel_rfl) ?_;refine Yi (show(0:Int)≤0∧(0:Int)≤k∧(k:Int)=k∧(k:Int)≤((s.map Ae).length:Nat) by rw[Lm];omega) (Yi (Nl s) ?_);refine Xi (Ae l[i]) (Yi (Jp n1) (Yi rfl ?_));refine Yi (Nz rfl) ?_;refine Yi (show(0:Int)≤k∧(k:Int)≤((s.map Ae).length:Nat)∧(((s.map Ae).length:Nat):Int)≤((s.map Ae).length:Nat) by rw[Lm];omega) (Yi (Nl s) ?_);refine Yi (qX s l[i] k (by omega)) ?_;refine Yi (qY s l[i] k k1 (by omega)) ?_;refine Yi (by kernel_rfl) ?_;refine Xi ⟨[(0,sl Ae l),(3,.slice .none (kj s k++([Ae l[i]]++QS s k))),(4,vi i)],[],Aa⟩ (Yi ⟨Z3,Tv,Fh,Tv⟩ ?_)
  refine Yi (Ii i (by omega)) ?_;have kp:l.take (i+1)=l.take i++[l[i]]:=EV n1;have bB:∀y∈s,y≠l[i]:=iU hn i2 n1;refine Xi ⟨(i+1,s.take k++([l[i]]++s.drop k)),n1,by show(s.take k++([l[i]]++s.drop k)).Perm (l.take (i+1));rw[kp];exact(VN s _ k).trans ((i2.cons _).trans (OJ _ _).symm),Yz i3 bB k2 HL k1⟩ ?_;exact⟨Dl l.length i (by omega),⟨Zr,⟨(show AV.slice .none (kj s k++([Ae l[i]]++QS s k))=sl Ae (s.take k++([l[i]]++s.drop k))from Ab (AV.slice .none) (sV s l[i] k)),rfl⟩,Zr,Tv⟩,Tv,Fh,Tv⟩
 have h1:¬((i:Int)<((l.map Ae).length:Int)):=h1;have n1:=H4 h1;have hi:l.take i=l:=AJ (by have q:=h1;rw[Lm]at q;omega);exact .of_eq (Ab (fun z=>sl Ae z) (bC uN i3 ht fun y=>by rw[i2.mem_iff,hi];exact(lJ y).symm))
abbrev bl(b:Wk):Sl→Bool:=fun y=>!decide (y∈b.exc)&&!decide (y∈b.pin)
abbrev jq(b:Wk):Sl→Bool:=fun y=>(QL b.pin y.path).isNone&&!decide (y∈b.exc)
theorem Ue{l:List Sl}(h:l.Pairwise T3):l.Nodup:=h.imp fun q e=>by subst e;exact bG _ q
theorem i9{l:List Sl}(h:l.Pairwise lW):l.Nodup:=h.imp fun q e=>by subst e;rw[lW,CW]at q;cases q
theorem Oq{l:List Sl}(h:l.Nodup){i:Nat}(hi:i<l.length):l[i]∉l.take i:=fun hm=>by
 obtain⟨j,hj,e⟩:=BR.1 hm;rw[ES]at e;rw[AC]at hj;exact(A7.1 h) j i (by omega) hi (by omega) e
theorem Uo{l:List Sl}{p:ByteArray}:QL l p=none↔∀s∈l,s.path≠p:=by
 unfold QL;rw[D0];exact⟨fun h s hs=>by simpa using h s hs,fun h s hs=>by simpa using h s hs⟩
theorem bm{b:Wk}{y:Sl}:bl b y=true↔y∉b.exc∧y∉b.pin:=by unfold bl;simp
theorem bT{b:Wk}{y:Sl}:jq b y=true↔QL b.pin y.path=none∧y∉b.exc:=by unfold jq;simp
theorem iN{o l:List Sl}{y:Sl}:y∈F1 l o↔y∈l∧y∉o:=by unfold F1 kept;simp
theorem m6{b:Wk}{y:Sl}(h:¬(y∉b.exc∧y∉b.pin)):¬bl b y=true:=fun q=>h (bm.1 q)
theorem nK{b:Wk}{y:Sl}(h:¬(QL b.pin y.path=none∧y∉b.exc)):¬jq b y=true:=fun q=>h (bT.1 q)
theorem lc{a b:Wk}(ha:B6 a=0)(hb:B6 b=0)(y:Sl):y∈F1 (AW Fi a.exc b.exc) b.pin↔y∈b.exc++a.exc.filter (bl b):=by
 have hd:=(Mg hb).2.2.2;rw[iN,T6 uN (EA ha) (EA hb),A6,Bo,bm];constructor
 ·rintro⟨h | ⟨h,hn⟩,hp⟩
  ·exact .inl h
  ·exact .inr ⟨h,fun q=>hn y q rfl,hp⟩
 ·rintro(h | ⟨h,hn⟩)
  ·exact⟨.inl h,fun q=>hd y q h⟩
  ·exact⟨.inr ⟨h,fun s hs e=>hn.1 (by rw[show y=s from e];exact hs)⟩,hn.2⟩
theorem cX{a b:Wk}(ha:B6 a=0)(hb:B6 b=0):(b.exc++a.exc.filter (bl b)).Nodup:=by
 rw[ET];refine⟨Ue (EA hb),(Ue (EA ha)).filter _,fun x hx y hy e=>?_⟩;subst e;exact(bm.1 (Bo.1 hy).2).1 hx
theorem la{a b:Wk}(ha:B6 a=0)(hb:B6 b=0):(F1 (AW Fi a.exc b.exc) b.pin).Pairwise T3:=List.Pairwise.filter _ (T7 uN (EA ha) (EA hb))
theorem YH{a b:Wk}(ha:B6 a=0):(F1 a.pin b.exc).Pairwise lW:=List.Pairwise.filter _ (Hf ha)
theorem mu{a b:Wk}(ha:B6 a=0)(hb:B6 b=0)(y:Sl):y∈AW I3 (F1 a.pin b.exc) b.pin↔y∈b.pin++a.pin.filter (jq b):=by
 rw[T6 uM (YH ha) (Hf hb),iN,A6,Bo,bT,Uo];constructor
 ·rintro(h | ⟨⟨h,he⟩,hn⟩)
  ·exact .inl h
  ·exact .inr ⟨h,fun s hs e=>hn s hs e.symm,he⟩
 ·rintro(h | ⟨h,hn⟩)
  ·exact .inl h
  ·exact .inr ⟨⟨h,hn.2⟩,fun s hs e=>hn.1 s hs e.symm⟩
theorem eG{a b:Wk}(ha:B6 a=0)(hb:B6 b=0):(b.pin++a.pin.filter (jq b)).Nodup:=by
 rw[ET];refine⟨i9 (Hf hb),(i9 (Hf ha)).filter _,fun x hx y hy e=>?_⟩;subst e;exact Uo.1 (bT.1 (Bo.1 hy).2).1 x hx rfl
theorem mr{a b:Wk}(ha:B6 a=0)(hb:B6 b=0):(AW I3 (F1 a.pin b.exc) b.pin).Pairwise T3:=(T7 uM (YH ha) (Hf hb)).imp .inl
theorem Jv{l:List Sl}{q:Sl→Bool}{i:Nat}(h:i<l.length):(l.take (i+1)).filter q=(l.take i).filter q++(if q l[i]=true then [l[i]]else []):=by
 rw[Lh h,DZ]
 congr 1
 cases e:q l[i]<;>simp[e]
theorem o18(a b:Wk)(WU:SH a)(hB:SH b)(L1:a.rep.length+b.rep.length≤1073741824)(uw:b.exc.length+a.exc.length≤1073741824)(qB:b.pin.length+a.pin.length≤1073741824):PC 18 [.agg (Bc a),.agg (Bc b)] (T8 (GM a b)):=by
 obtain⟨A0,hA⟩:∃A,A=AW Cj a.rep b.rep:=⟨_,rfl⟩;have lp:A0.length≤1073741824:=by rw[hA];exact A3 (Ht a.rep b.rep) L1
 have h48:PC 48 [sl Ai a.rep,sl Ai b.rep] (sl Ai A0):=by rw[hA];exact o48 a.rep b.rep WU.reps hB.reps
 refine Ps ⟨[2,3],[],[],[],[],[],[],[],[],[],[4,7,8,10,11,12,13,14,15,16,17,18,19,20,21,22,23,24,25]⟩ Tryz.func18 rfl (Nz rfl) ?_;refine Yi (Nz rfl) ?_;refine Xi .pure (Xi _ (Yi (o14 a WU) ?_));refine Yi (fun h1=>?_) (fun h1=>?_)
 ·have h1:((B6 a):Int)≠(0:Int):=h1;refine Yi (Nz rfl) ?_;refine Yi (Nz rfl) ?_;exact IC (YQ h1)
 have h1:((B6 a):Int)=(0:Int):=Bj h1;refine Xi ⟨[(2,.ref 2 0),(3,.ref 3 0),(4,.ref 4 0)],[(2,.ro (Bc a)),(3,.ro (Bc b)),(4,.cells [.v (.slice none 0 0),.v (.slice none 0 0),.v (.slice none 0 0)])],Aa⟩ (Yi ⟨Z3,Z3,Fh,Tv⟩ ?_)
 refine Yi (Nz rfl) ?_;refine Xi .pure (Xi _ (Yi (o14 b hB) ?_));refine Yi (fun h3=>?_) (fun h3=>?_)
 ·have h3:((B6 b):Int)≠(0:Int):=h3;refine Yi (Nz rfl) ?_;refine Yi (Nz rfl) ?_;exact IC (YR h1 h3)
 have h3:((B6 b):Int)=(0:Int):=Bj h3;refine Xi ⟨[(2,.ref 2 0),(3,.ref 3 0),(4,.ref 4 0)],[(2,.ro (Bc a)),(3,.ro (Bc b)),(4,.cells [.v (.slice none 0 0),.v (.slice none 0 0),.v (.slice none 0 0)])],Aa⟩ (Yi ⟨Z3,Z3,Fh,Tv⟩ ?_)
 refine Xi .pure (Xi _ (Yi h48 ?_));refine Yi (Nz rfl) ?_;refine Xi ⟨[(2,.ref 2 0),(3,.ref 3 0),(4,.ref 4 0),(8,.ref 8 0)],[(2,.ro (Bc a)),(3,.ro (Bc b)),(4,.cells [.v (.slice none 0 0),.v (.slice none 0 0),.v (.slice none 0 0)]),(8,.cells [sl Ai A0,.v (.slice none 0 0),.v (.slice none 0 0)])],Aa⟩ (Yi ⟨Z4,Z4,Fh,Tv⟩ ?_)
 refine Yi (fun h5=>?_) (fun h5=>?_)
 ·have h5:(256:Int)<((A0.map Ai).length:Int):=h5;have n5:256<A0.length:=by have q:=h5;rw[Lm]at q;omega
  refine Yi (Nz rfl) ?_;refine Yi (Nz rfl) ?_;exact IC (YS h1 h3 hA (by have q:=h5;rw[Lm]at q;exact q))
 have h5:¬((256:Int)<((A0.map Ai).length:Int)):=h5;have n5:¬256<A0.length:=by have q:=h5;rw[Lm]at q;omega
 refine Xi ⟨[(2,.ref 2 0),(3,.ref 3 0),(4,.ref 4 0),(8,.ref 8 0)],[(2,.ro (Bc a)),(3,.ro (Bc b)),(4,.cells [.v (.slice none 0 0),.v (.slice none 0 0),.v (.slice none 0 0)]),(8,.cells [sl Ai A0,.v (.slice none 0 0),.v (.slice none 0 0)])],Aa⟩ (Yi ⟨Z4,Z4,Fh,Tv⟩ ?_)
 have b7:CT 4 (b.exc.map Ae)∧([]:List (List AV)).length=0∧(([]:List (List AV)).length+(b.exc.map Ae).length)*40≤140737488355328∧([]:List (List AV)).length+(b.exc.map Ae).length≤9223372036854775807:=⟨(Ea (enc:=Ae) (n:=4) (fun _=>rfl) b.exc),(by first | (simp;done) | (rw[Lm];assumption)),(by simp only[Lm,Ay];omega),(by simp only[Lm,Ay];omega)⟩
 refine Yi b7 ?_;have b8:CT 4 (b.pin.map Ae)∧([]:List (List AV)).length=0∧(([]:List (List AV)).length+(b.pin.map Ae).length)*40≤140737488355328∧([]:List (List AV)).length+(b.pin.map Ae).length≤9223372036854775807:=⟨(Ea (enc:=Ae) (n:=4) (fun _=>rfl) b.pin),(by first | (simp;done) | (rw[Lm];assumption)),(by simp only[Lm,Ay];omega),(by simp only[Lm,Ay];omega)⟩
 refine Yi b8 ?_;refine Yi (by kernel_rfl) ?_;refine Xi ⟨[(2,.ref 2 0),(3,.ref 3 0),(4,.ref 4 0),(8,.ref 8 0),(9,.slice (.id 40 4) ([]++(b.exc.map Ae))),(10,.slice (.id 44 4) ([]++(b.pin.map Ae)))],[(2,.ro (Bc a)),(3,.ro (Bc b)),(4,.cells [.v (.slice none 0 0),.v (.slice none 0 0),.v (.slice none 0 0)]),(8,.cells [sl Ai A0,.v (.slice none 0 0),.v (.slice none 0 0)]),(40,.tok 4 (([]:List (List AV)).length+(b.exc.map Ae).length)),(44,.tok 4 (([]:List (List AV)).length+(b.pin.map Ae).length))],Aa⟩ (Yi ⟨Z6,Z6,Fh,Tv⟩ ?_)
 refine Xi {q:Nat×List Sl // q.1≤a.exc.length∧q.2=b.exc++(a.exc.take q.1).filter (bl b)} (Xi (fun q=>⟨[(2,.ref 2 0),(3,.ref 3 0),(4,.ref 4 0),(8,.ref 8 0),(9,.slice (.id 40 4) (q.1.2.map Ae)),(10,.slice (.id 44 4) ([]++(b.pin.map Ae))),(11,vi q.1.1)],[(2,.ro (Bc a)),(3,.ro (Bc b)),(4,.cells [.v (.slice none 0 0),.v (.slice none 0 0),.v (.slice none 0 0)]),(8,.cells [sl Ai A0,.v (.slice none 0 0),.v (.slice none 0 0)]),(40,.tok 4 q.1.2.length),(44,.tok 4 (([]:List (List AV)).length+(b.pin.map Ae).length))],Aa⟩) (Xi (fun q=>a.exc.length-q.1.1) (Yi (Xi ⟨(0,b.exc),AG _,by rw[List.take_zero,List.filter_nil,BE]⟩ ?_) ?_)))
 ·exact⟨⟨Zr,Zr,Zr,Zr,⟨(show AV.slice (.id 40 4) (([]:List (List AV))++b.exc.map Ae)=.slice (.id 40 4) (b.exc.map Ae)from rfl),rfl⟩,Zr,Zr,Tv⟩,⟨Zr,Zr,Zr,Zr,⟨(show HO.tok 4 (([]:List (List AV)).length+(b.exc.map Ae).length)=.tok 4 b.exc.length by rw[Lm,Ay,Bk]),rfl⟩,Zr,Tv⟩,Fh,Tv⟩
 intro⟨⟨i,E⟩,i1,i2⟩;have i1:i≤a.exc.length:=i1;have i2:E=b.exc++(a.exc.take i).filter (bl b):=i2;have i3:E.length≤b.exc.length+a.exc.length:=by rw[i2,Ad];exact Nat.add_le_add_left (A3 (BB _ _) (by rw[AC];omega)) _
 refine Xi ⟨[(2,.ref 2 0),(3,.ref 3 0),(4,.ref 4 0),(8,.ref 8 0),(9,.slice (.id 40 4) (E.map Ae)),(10,.slice (.id 44 4) ([]++(b.pin.map Ae))),(11,vi i)],[(2,.ro (Bc a)),(3,.ro (Bc b)),(4,.cells [.v (.slice none 0 0),.v (.slice none 0 0),.v (.slice none 0 0)]),(8,.cells [sl Ai A0,.v (.slice none 0 0),.v (.slice none 0 0)]),(40,.tok 4 E.length),(44,.tok 4 (([]:List (List AV)).length+(b.pin.map Ae).length))],Aa⟩ (Yi ⟨Z7,Z6,Fh,Tv⟩ ?_)
 refine Yi (fun h9=>?_) (fun h9=>?_)
 ·have h9:(i:Int)<((a.exc.map Ae).length:Int):=h9;have n9:=H5 h9;refine Xi ⟨[(2,.ref 2 0),(3,.ref 3 0),(4,.ref 4 0),(8,.ref 8 0),(9,.slice (.id 40 4) (E.map Ae)),(10,.slice (.id 44 4) ([]++(b.pin.map Ae))),(11,vi i)],[(2,.ro (Bc a)),(3,.ro (Bc b)),(4,.cells [.v (.slice none 0 0),.v (.slice none 0 0),.v (.slice none 0 0)]),(8,.cells [sl Ai A0,.v (.slice none 0 0),.v (.slice none 0 0)]),(40,.tok 4 E.length),(44,.tok 4 (([]:List (List AV)).length+(b.pin.map Ae).length))],Aa⟩ (Yi ⟨Z7,Z6,Fh,Tv⟩ ?_)
  refine Xi (Ae a.exc[i]) (Yi (Jp n9) (Yi rfl ?_));refine Yi (Nz rfl) ?_;refine Yi (Nz rfl) ?_;refine Xi ⟨[(2,.ref 2 0),(3,.ref 3 0),(4,.ref 4 0),(8,.ref 8 0),(9,.slice (.id 40 4) (E.map Ae)),(10,.slice (.id 44 4) ([]++(b.pin.map Ae))),(11,vi i),(12,.ref 12 0)],[(2,.ro (Bc a)),(3,.ro (Bc b)),(4,.cells [.v (.slice none 0 0),.v (.slice none 0 0),.v (.slice none 0 0)]),(8,.cells [sl Ai A0,.v (.slice none 0 0),.v (.slice none 0 0)]),(12,.cells (Ae a.exc[i])),(40,.tok 4 E.length),(44,.tok 4 (([]:List (List AV)).length+(b.pin.map Ae).length))],Aa⟩ (Yi ⟨Z8,Z7,Fh,Tv⟩ ?_)
  refine Yi (Nz rfl) ?_;refine Bq (Bt (decide (a.exc[i]∈E))) (fun M3=>?_) (fun M3=>?_)
  ·have M3:(decide (a.exc[i]∈E))=true:=M3;refine Xi .pure (Xi _ (Yi (cb M3 (nJ E a.exc[i] (by unfold Co;omega))) ?_));refine Xi ⟨[(2,.ref 2 0),(3,.ref 3 0),(4,.ref 4 0),(8,.ref 8 0),(9,.slice (.id 40 4) (E.map Ae)),(10,.slice (.id 44 4) ([]++(b.pin.map Ae))),(11,vi i)],[(2,.ro (Bc a)),(3,.ro (Bc b)),(4,.cells [.v (.slice none 0 0),.v (.slice none 0 0),.v (.slice none 0 0)]),(8,.cells [sl Ai A0,.v (.slice none 0 0),.v (.slice none 0 0)]),(40,.tok 4 E.length),(44,.tok 4 (([]:List (List AV)).length+(b.pin.map Ae).length))],Aa⟩ (Yi ⟨Z7,Z6,Fh,Tv⟩ ?_)
   refine Yi (Ii i (by omega)) ?_;have eF:=Jv (l:=a.exc) (q:=bl b) n9;have ni:a.exc[i]∉(a.exc.take i).filter (bl b):=fun q=>Oq (Ue (EA h1)) n9 (Bo.1 q).1;have mE:a.exc[i]∈b.exc:=by have q:=BD M3;rw[i2]at q;exact(A6.1 q).resolve_right ni
   rw[Ao (m6 fun q=>q.1 mE),BE]at eF;refine Xi ⟨(i+1,E),n9,by show E=_;rw[eF,i2]⟩ ?_;exact⟨Dl a.exc.length i (by omega),Z7,Z6,Fh,Tv⟩
  have M3:(decide (a.exc[i]∈E))=false:=M3;refine Xi .pure (Xi _ (Yi (cb M3 (nJ E a.exc[i] (by unfold Co;omega))) ?_));refine Yi (Nz rfl) ?_;refine Bq (Bt (decide (a.exc[i]∈b.pin))) (fun IZ=>?_) (fun IZ=>?_)
  ·have IZ:(decide (a.exc[i]∈b.pin))=true:=IZ;refine Xi .pure (Xi _ (Yi (cb IZ (nJ b.pin a.exc[i] hB.pin)) ?_));refine Xi ⟨[(2,.ref 2 0),(3,.ref 3 0),(4,.ref 4 0),(8,.ref 8 0),(9,.slice (.id 40 4) (E.map Ae)),(10,.slice (.id 44 4) ([]++(b.pin.map Ae))),(11,vi i)],[(2,.ro (Bc a)),(3,.ro (Bc b)),(4,.cells [.v (.slice none 0 0),.v (.slice none 0 0),.v (.slice none 0 0)]),(8,.cells [sl Ai A0,.v (.slice none 0 0),.v (.slice none 0 0)]),(40,.tok 4 E.length),(44,.tok 4 (([]:List (List AV)).length+(b.pin.map Ae).length))],Aa⟩ (Yi ⟨Z7,Z6,Fh,Tv⟩ ?_)
   refine Yi (Ii i (by omega)) ?_;have eF:=Jv (l:=a.exc) (q:=bl b) n9;have ni:a.exc[i]∉(a.exc.take i).filter (bl b):=fun q=>Oq (Ue (EA h1)) n9 (Bo.1 q).1;have mE:a.exc[i]∉b.exc:=fun q=>by have z:=D2 M3;rw[i2]at z;exact z (Br _ q)
   rw[Ao (m6 fun q=>q.2 (BD IZ)),BE]at eF;refine Xi ⟨(i+1,E),n9,by show E=_;rw[eF,i2]⟩ ?_;exact⟨Dl a.exc.length i (by omega),Z7,Z6,Fh,Tv⟩
  have IZ:(decide (a.exc[i]∈b.pin))=false:=IZ;refine Xi .pure (Xi _ (Yi (cb IZ (nJ b.pin a.exc[i] hB.pin)) ?_));refine Xi ⟨[(2,.ref 2 0),(3,.ref 3 0),(4,.ref 4 0),(8,.ref 8 0),(9,.slice (.id 40 4) (E.map Ae)),(10,.slice (.id 44 4) ([]++(b.pin.map Ae))),(11,vi i),(12,.ref 12 0)],[(2,.ro (Bc a)),(3,.ro (Bc b)),(4,.cells [.v (.slice none 0 0),.v (.slice none 0 0),.v (.slice none 0 0)]),(8,.cells [sl Ai A0,.v (.slice none 0 0),.v (.slice none 0 0)]),(12,.cells (Ae a.exc[i])),(40,.tok 4 E.length),(44,.tok 4 (([]:List (List AV)).length+(b.pin.map Ae).length))],Aa⟩ (Yi ⟨Z8,Z7,Fh,Tv⟩ ?_)
  refine Yi (Nz rfl) ?_;refine Yi (Md rfl (by omega) (by decide)) ?_;refine Xi ⟨[(2,.ref 2 0),(3,.ref 3 0),(4,.ref 4 0),(8,.ref 8 0),(9,.slice (.id 40 4) ((E.map Ae)++[(Ae a.exc[i])])),(10,.slice (.id 44 4) ([]++(b.pin.map Ae))),(11,vi i)],[(2,.ro (Bc a)),(3,.ro (Bc b)),(4,.cells [.v (.slice none 0 0),.v (.slice none 0 0),.v (.slice none 0 0)]),(8,.cells [sl Ai A0,.v (.slice none 0 0),.v (.slice none 0 0)]),(40,.tok 4 ((E.map Ae).length+([(Ae a.exc[i])]:List (List AV)).length)),(44,.tok 4 (([]:List (List AV)).length+(b.pin.map Ae).length))],Aa⟩ (Yi ⟨Z7,Z6,Fh,Tv⟩ ?_)
  refine Yi (Ii i (by omega)) ?_;have eF:=Jv (l:=a.exc) (q:=bl b) n9;have ni:a.exc[i]∉(a.exc.take i).filter (bl b):=fun q=>Oq (Ue (EA h1)) n9 (Bo.1 q).1;have mE:a.exc[i]∉b.exc:=fun q=>by have z:=D2 M3;rw[i2]at z;exact z (Br _ q)
  rw[Ax (bm.2 ⟨mE,D2 IZ⟩)]at eF;refine Xi ⟨(i+1,(E++[a.exc[i]])),n9,by show(E++[a.exc[i]])=_;rw[eF,i2,AM]⟩ ?_;exact⟨Dl a.exc.length i (by omega),⟨Zr,Zr,Zr,Zr,⟨Qc,rfl⟩,Zr,Zr,Tv⟩,⟨Zr,Zr,Zr,Zr,⟨PZ,rfl⟩,Zr,Tv⟩,Fh,Tv⟩
 have h9:¬((i:Int)<((a.exc.map Ae).length:Int)):=h9;have n9:=H4 h9;refine Xi ⟨[(2,.ref 2 0),(3,.ref 3 0),(4,.ref 4 0),(8,.ref 8 0),(9,.slice (.id 40 4) (E.map Ae)),(10,.slice (.id 44 4) ([]++(b.pin.map Ae)))],[(2,.ro (Bc a)),(3,.ro (Bc b)),(4,.cells [.v (.slice none 0 0),.v (.slice none 0 0),.v (.slice none 0 0)]),(8,.cells [sl Ai A0,.v (.slice none 0 0),.v (.slice none 0 0)]),(40,.tok 4 E.length),(44,.tok 4 (([]:List (List AV)).length+(b.pin.map Ae).length))],Aa⟩ (Yi ⟨Z6,Z6,Fh,Tv⟩ ?_)
 refine Xi {q:Nat×List Sl // q.1≤a.pin.length∧q.2=b.pin++(a.pin.take q.1).filter (jq b)} (Xi (fun q=>⟨[(2,.ref 2 0),(3,.ref 3 0),(4,.ref 4 0),(8,.ref 8 0),(9,.slice (.id 40 4) (E.map Ae)),(10,.slice (.id 44 4) (q.1.2.map Ae)),(13,vi q.1.1)],[(2,.ro (Bc a)),(3,.ro (Bc b)),(4,.cells [.v (.slice none 0 0),.v (.slice none 0 0),.v (.slice none 0 0)]),(8,.cells [sl Ai A0,.v (.slice none 0 0),.v (.slice none 0 0)]),(40,.tok 4 E.length),(44,.tok 4 q.1.2.length)],Aa⟩) (Xi (fun q=>a.pin.length-q.1.1) (Yi (Xi ⟨(0,b.pin),AG _,by rw[List.take_zero,List.filter_nil,BE]⟩ ?_) ?_)))
 ·exact⟨⟨Zr,Zr,Zr,Zr,Zr,⟨(show AV.slice (.id 44 4) (([]:List (List AV))++b.pin.map Ae)=.slice (.id 44 4) (b.pin.map Ae)from rfl),rfl⟩,Zr,Tv⟩,⟨Zr,Zr,Zr,Zr,Zr,⟨(show HO.tok 4 (([]:List (List AV)).length+(b.pin.map Ae).length)=.tok 4 b.pin.length by rw[Lm,Ay,Bk]),rfl⟩,Tv⟩,Fh,Tv⟩
 intro⟨⟨m,P⟩,m1,m2⟩;have m1:m≤a.pin.length:=m1;have m2:P=b.pin++(a.pin.take m).filter (jq b):=m2;have m3:P.length≤b.pin.length+a.pin.length:=by rw[m2,Ad];exact Nat.add_le_add_left (A3 (BB _ _) (by rw[AC];omega)) _
 refine Xi ⟨[(2,.ref 2 0),(3,.ref 3 0),(4,.ref 4 0),(8,.ref 8 0),(9,.slice (.id 40 4) (E.map Ae)),(10,.slice (.id 44 4) (P.map Ae)),(13,vi m)],[(2,.ro (Bc a)),(3,.ro (Bc b)),(4,.cells [.v (.slice none 0 0),.v (.slice none 0 0),.v (.slice none 0 0)]),(8,.cells [sl Ai A0,.v (.slice none 0 0),.v (.slice none 0 0)]),(40,.tok 4 E.length),(44,.tok 4 P.length)],Aa⟩ (Yi ⟨Z7,Z6,Fh,Tv⟩ ?_)
 refine Yi (fun L7=>?_) (fun L7=>?_)
 ·have L7:(m:Int)<((a.pin.map Ae).length:Int):=L7;have n16:=H5 L7;refine Xi ⟨[(2,.ref 2 0),(3,.ref 3 0),(4,.ref 4 0),(8,.ref 8 0),(9,.slice (.id 40 4) (E.map Ae)),(10,.slice (.id 44 4) (P.map Ae)),(13,vi m)],[(2,.ro (Bc a)),(3,.ro (Bc b)),(4,.cells [.v (.slice none 0 0),.v (.slice none 0 0),.v (.slice none 0 0)]),(8,.cells [sl Ai A0,.v (.slice none 0 0),.v (.slice none 0 0)]),(40,.tok 4 E.length),(44,.tok 4 P.length)],Aa⟩ (Yi ⟨Z7,Z6,Fh,Tv⟩ ?_)
  refine Xi (Ae a.pin[m]) (Yi (Jp n16) (Yi rfl ?_));refine Yi (Nz rfl) ?_;refine Yi (Nz rfl) ?_;refine Xi ⟨[(2,.ref 2 0),(3,.ref 3 0),(4,.ref 4 0),(8,.ref 8 0),(9,.slice (.id 40 4) (E.map Ae)),(10,.slice (.id 44 4) (P.map Ae)),(13,vi m),(14,.ref 14 0)],[(2,.ro (Bc a)),(3,.ro (Bc b)),(4,.cells [.v (.slice none 0 0),.v (.slice none 0 0),.v (.slice none 0 0)]),(8,.cells [sl Ai A0,.v (.slice none 0 0),.v (.slice none 0 0)]),(14,.cells (Ae a.pin[m])),(40,.tok 4 E.length),(44,.tok 4 P.length)],Aa⟩ (Yi ⟨Z8,Z7,Fh,Tv⟩ ?_)
  refine Bq (dX (QL b.pin a.pin[m].path)) (fun RY=>?_) (fun RY=>?_)
  ·refine BN RY (fun p RY=>?_);have gW:=(o51 b.pin a.pin[m].path hB.pin);rw[RY]at gW;refine Xi .pure (Xi _ (Yi gW ?_));refine Yi (Nz rfl) ?_;refine Xi ⟨[(2,.ref 2 0),(3,.ref 3 0),(4,.ref 4 0),(8,.ref 8 0),(9,.slice (.id 40 4) (E.map Ae)),(10,.slice (.id 44 4) (P.map Ae)),(13,vi m),(14,.ref 14 0),(16,vb true)],[(2,.ro (Bc a)),(3,.ro (Bc b)),(4,.cells [.v (.slice none 0 0),.v (.slice none 0 0),.v (.slice none 0 0)]),(8,.cells [sl Ai A0,.v (.slice none 0 0),.v (.slice none 0 0)]),(14,.cells (Ae a.pin[m])),(40,.tok 4 E.length),(44,.tok 4 P.length)],Aa⟩ (Yi ⟨Z9,Z7,Fh,Tv⟩ ?_)
   refine Xi ⟨[(2,.ref 2 0),(3,.ref 3 0),(4,.ref 4 0),(8,.ref 8 0),(9,.slice (.id 40 4) (E.map Ae)),(10,.slice (.id 44 4) (P.map Ae)),(13,vi m)],[(2,.ro (Bc a)),(3,.ro (Bc b)),(4,.cells [.v (.slice none 0 0),.v (.slice none 0 0),.v (.slice none 0 0)]),(8,.cells [sl Ai A0,.v (.slice none 0 0),.v (.slice none 0 0)]),(40,.tok 4 E.length),(44,.tok 4 P.length)],Aa⟩ (Yi ⟨Z7,Z6,Fh,Tv⟩ ?_)
   refine Yi (Ii m (by omega)) ?_;have eF:=Jv (l:=a.pin) (q:=jq b) n16;rw[Ao (nK fun q=>by rw[RY]at q;cases q.1),BE]at eF;refine Xi ⟨(m+1,P),n16,by show P=_;rw[eF,m2]⟩ ?_;exact⟨Dl a.pin.length m (by omega),Z7,Z6,Fh,Tv⟩
  have gW:=(o51 b.pin a.pin[m].path hB.pin);rw[RY]at gW;refine Xi .pure (Xi _ (Yi gW ?_));refine Yi (Nz rfl) ?_;refine Xi ⟨[(2,.ref 2 0),(3,.ref 3 0),(4,.ref 4 0),(8,.ref 8 0),(9,.slice (.id 40 4) (E.map Ae)),(10,.slice (.id 44 4) (P.map Ae)),(13,vi m),(14,.ref 14 0),(16,vb false)],[(2,.ro (Bc a)),(3,.ro (Bc b)),(4,.cells [.v (.slice none 0 0),.v (.slice none 0 0),.v (.slice none 0 0)]),(8,.cells [sl Ai A0,.v (.slice none 0 0),.v (.slice none 0 0)]),(14,.cells (Ae a.pin[m])),(40,.tok 4 E.length),(44,.tok 4 P.length)],Aa⟩ (Yi ⟨Z9,Z7,Fh,Tv⟩ ?_)
  refine Yi (Nz rfl) ?_;refine Bq (Bt (decide (a.pin[m]∈b.exc))) (fun N7=>?_) (fun N7=>?_)
  ·have N7:(decide (a.pin[m]∈b.exc))=true:=N7;refine Xi .pure (Xi _ (Yi (cb N7 (nJ b.exc a.pin[m] hB.exc)) ?_));refine Xi ⟨[(2,.ref 2 0),(3,.ref 3 0),(4,.ref 4 0),(8,.ref 8 0),(9,.slice (.id 40 4) (E.map Ae)),(10,.slice (.id 44 4) (P.map Ae)),(13,vi m)],[(2,.ro (Bc a)),(3,.ro (Bc b)),(4,.cells [.v (.slice none 0 0),.v (.slice none 0 0),.v (.slice none 0 0)]),(8,.cells [sl Ai A0,.v (.slice none 0 0),.v (.slice none 0 0)]),(40,.tok 4 E.length),(44,.tok 4 P.length)],Aa⟩ (Yi ⟨Z7,Z6,Fh,Tv⟩ ?_)
   refine Yi (Ii m (by omega)) ?_;have eF:=Jv (l:=a.pin) (q:=jq b) n16;rw[Ao (nK fun q=>q.2 (BD N7)),BE]at eF;refine Xi ⟨(m+1,P),n16,by show P=_;rw[eF,m2]⟩ ?_;exact⟨Dl a.pin.length m (by omega),Z7,Z6,Fh,Tv⟩
  have N7:(decide (a.pin[m]∈b.exc))=false:=N7;refine Xi .pure (Xi _ (Yi (cb N7 (nJ b.exc a.pin[m] hB.exc)) ?_));refine Xi ⟨[(2,.ref 2 0),(3,.ref 3 0),(4,.ref 4 0),(8,.ref 8 0),(9,.slice (.id 40 4) (E.map Ae)),(10,.slice (.id 44 4) (P.map Ae)),(13,vi m),(14,.ref 14 0)],[(2,.ro (Bc a)),(3,.ro (Bc b)),(4,.cells [.v (.slice none 0 0),.v (.slice none 0 0),.v (.slice none 0 0)]),(8,.cells [sl Ai A0,.v (.slice none 0 0),.v (.slice none 0 0)]),(14,.cells (Ae a.pin[m])),(40,.tok 4 E.length),(44,.tok 4 P.length)],Aa⟩ (Yi ⟨Z8,Z7,Fh,Tv⟩ ?_)
  refine Yi (Nz rfl) ?_;refine Yi (Md rfl (by omega) (by decide)) ?_;refine Xi ⟨[(2,.ref 2 0),(3,.ref 3 0),(4,.ref 4 0),(8,.ref 8 0),(9,.slice (.id 40 4) (E.map Ae)),(10,.slice (.id 44 4) ((P.map Ae)++[(Ae a.pin[m])])),(13,vi m)],[(2,.ro (Bc a)),(3,.ro (Bc b)),(4,.cells [.v (.slice none 0 0),.v (.slice none 0 0),.v (.slice none 0 0)]),(8,.cells [sl Ai A0,.v (.slice none 0 0),.v (.slice none 0 0)]),(40,.tok 4 E.length),(44,.tok 4 ((P.map Ae).length+([(Ae a.pin[m])]:List (List AV)).length))],Aa⟩ (Yi ⟨Z7,Z6,Fh,Tv⟩ ?_)
  refine Yi (Ii m (by omega)) ?_;have eF:=Jv (l:=a.pin) (q:=jq b) n16;rw[Ax (bT.2 ⟨RY,D2 N7⟩)]at eF;refine Xi ⟨(m+1,(P++[a.pin[m]])),n16,by show(P++[a.pin[m]])=_;rw[eF,m2,AM]⟩ ?_;exact⟨Dl a.pin.length m (by omega),⟨Zr,Zr,Zr,Zr,Zr,⟨Qc,rfl⟩,Zr,Tv⟩,⟨Zr,Zr,Zr,Zr,Zr,⟨PZ,rfl⟩,Tv⟩,Fh,Tv⟩
 have L7:¬((m:Int)<((a.pin.map Ae).length:Int)):=L7;have n16:=H4 L7;refine Xi ⟨[(4,.ref 4 0),(8,.ref 8 0),(9,.slice (.id 40 4) (E.map Ae)),(10,.slice (.id 44 4) (P.map Ae))],[(4,.cells [.v (.slice none 0 0),.v (.slice none 0 0),.v (.slice none 0 0)]),(8,.cells [sl Ai A0,.v (.slice none 0 0),.v (.slice none 0 0)]),(40,.tok 4 E.length),(44,.tok 4 P.length)],Aa⟩ (Yi ⟨Z4,Z4,Fh,Tv⟩ ?_)
 have eE:E=b.exc++a.exc.filter (bl b):=by rw[i2,AJ (by have q:=h9;rw[Lm]at q;omega)]
 have eP:P=b.pin++a.pin.filter (jq b):=by rw[m2,AJ (by have q:=L7;rw[Lm]at q;omega)]
 have wt:PC 64 [sl Ae E] (sl Ae (F1 (AW Fi a.exc b.exc) b.pin)):=o64 E _ (by unfold Co;omega) (by rw[eE];exact cX h1 h3) (la h1 h3) (fun y=>by rw[eE];exact lc h1 h3 y);have wu:PC 64 [sl Ae P] (sl Ae (AW I3 (F1 a.pin b.exc) b.pin)):=o64 P _ (by unfold Co;omega) (by rw[eP];exact eG h1 h3) (mr h1 h3) (fun y=>by rw[eP];exact mu h1 h3 y);refine Xi .pure (Xi _ (Yi wt ?_));refine Xi .pure (Xi _ (Yi wu ?_));refine Yi (Nz rfl) ?_;refine Yi (Nz rfl) ?_;refine Xi ⟨[(4,.ref 4 0),(8,.ref 8 0)],[(4,.cells [.v (.slice none 0 0),.v (.slice none 0 0),.v (.slice none 0 0)]),(8,.cells [sl Ai A0,sl Ae (F1 (AW Fi a.exc b.exc) b.pin),sl Ae (AW I3 (F1 a.pin b.exc) b.pin)])],Aa⟩ (Yi ⟨Z2,Z2,Fh,Tv⟩ ?_)
 refine Yi (Nz rfl) ?_;refine Yi (Nz rfl) ?_;refine Yi (Nz rfl) ?_;have eM:=YT h1 h3 hA (by have q:=h5;rw[Lm]at q;exact q);exact .of_eq (show _=T8 (GM a b) by rw[eM];rfl)
end Go.Eng
