/- Lemmas for the claims of this seat, without a condition: part 7 (EngH, EngI, EngJ, EngK, EngL, EngM). -/
import Derived.Test.YtddfphmpfnmknaaGreatDoorFA06
import Derived.Laws.IdiomStrings
import Derived.Lib.BufferRead
namespace Go.Eng
section
variable {P:Program}{T:Gs}(hT:Cn P T){h:Nat→HO}{g:Gh}{w:World}{K:AV→Prop}
section
include hT
theorem Um{t:Nat}{x ix:AV}{vx vi:Value}(hx:BD g w (AP h) x vx)(hi:BD g w (AP h) ix vi)(hk:Jn T t x ix K):BF P h g w (Instr.indexAt t vx vi) K:=by
 unfold Jn at hk;split at hk
 ·rename_i e i ht;obtain rfl:=hi.v_eq;have hu:=hT.slice ht;split at hk
  ·exact hk.elim
  ·rename_i m hm;have CD:∀b off (len cap:Nat),0≤i→i<(len:Int)→(Instr.indexAt t (.slice (some ⟨b,off,none⟩) len cap) (.int .i64 i)).run P w=.ok (.pointer (some ⟨b,off+i.toNat*(T e).size,none⟩)) w:=fun b off len cap h0 h1=>by
    simp[Instr.indexAt,asIntOf,run_underlying hu,h0,h1,hT.size1 w hm,Addr.add_lit,hm]
   split at hk
   ·rename_i tk es;obtain⟨cs,⟨h0,h1⟩,h2,hk⟩:=hk;have hs:=hx.slice_none;have DA:=(Ap.1 h1).1;cases hs with
    |snil=>simp at h1
    |slice _ _ b off sz cap val hc hl Dw Ed =>
     have Ew:sz=(T e).size:=by rw[←h2];exact(hl _ _ h1).symm
     subst Ew;refine⟨_,_,CD b off es.length cap h0 (by omega),hk,.cptr _ cs b _ (val i.toNat) (fun j av hj=>?_) (fun j av hj=>Ed _ _ _ _ h1 hj)⟩;exact Dw _ _ _ _ h1 hj
   ·rename_i r n;obtain⟨⟨h0,h1⟩,hk⟩:=hk;cases hx with
    |msl _ _ _ a cap fZ ht' hn ha Ly =>
     rcases ha with rfl | ⟨b,rfl⟩
     ·omega
     ·refine⟨_,_,CD b 0 n cap h0 h1,hk,?_⟩;rw[Bg];exact .eref _ r n _ _ 0 b cap fZ ht' ⟨by omega,hn⟩ (fun e=>(Ly e).symm)
   ·exact hk.elim
 ·rename_i n e i ht;obtain rfl:=hi.v_eq;have hu:=hT.array ht;split at hk
  ·exact hk.elim
  ·rename_i m hm;have CD:∀b off,0≤i→i<(n:Int)→(Instr.indexAt t (.pointer (some ⟨b,off,none⟩)) (.int .i64 i)).run P w=.ok (.pointer (some ⟨b,off+i.toNat*(T e).size,none⟩)) w:=fun b off h0 h1=>by
    simp[Instr.indexAt,asIntOf,run_underlying hu,h0,h1,hT.size1 w hm,Addr.add_lit,hm,Instr.sureAddr]
   split at hk
   ·cases hx with
    |cptr _ _ b off val Dw Ed=>exact⟨_,_,CD b off hk.1.1 hk.1.2,hk.2,(BD.cptr _ _ b off val Dw Ed).cptr_drop _⟩
   ·rename_i r off;cases hx with
    |ref _ _ _ b hu ht hp=>exact⟨_,_,CD b off hk.1.1 hk.1.2,hk.2,.ref _ r _ b hu ht hp⟩
   ·exact hk.elim
 ·exact hk.elim
theorem cr{t:Nat}{x ix:AV}{vx vi:Value}(hx:BD g w (AP h) x vx)(hi:BD g w (AP h) ix vi)(hk:SV T t x ix K):BF P h g w (Instr.index t vx vi) K:=by
 unfold SV at hk;split at hk
 ·rename_i s i ht;obtain rfl:=hx.v_eq;obtain rfl:=hi.v_eq;obtain⟨b,⟨h0,h1⟩,hk⟩:=hk;refine BF.val (x:=.int .u8 b.toNat) ?_ hk;have h2:s[i.toNat]?=some b:=by
   have:=(Bl.1 h1)
   obtain⟨l1,l2⟩:=this;have s8 : i.toNat<s.size:=l1;rw[getElem?_pos s i.toNat s8];exact Ac some l2
  simp[Instr.index,asIntOf,run_underlying (hT.string ht),h0,h2]
 ·rename_i n e cs i ht;obtain rfl:=hi.v_eq;obtain⟨⟨h0,h1⟩,hk⟩:=hk;cases hx with
  |agg _ _ xs a1 a2 a3 =>
   have hd:(T e).d≠.other:=by
    intro e';unfold Yj Ls at hk;rw[e']at hk;exact hk.elim
   obtain⟨y,av,p1,p2,p3⟩:=Yk hT (WT.of_agg (.agg _ _ xs a1 a2 a3) _) hk;refine⟨y,av,?_,p2,p3⟩;simp[Instr.index,asIntOf,run_underlying (hT.array ht),h0,h1,hT.size w hd,p1]
 ·exact hk.elim
theorem eQ{s t:Nat}{x:AV}{vx:Value}(hx:BD g w (AP h) x vx)(hk:Xd T s t x K):BF P h g w (convert s t vx) K:=by
 unfold Xd at hk;split at hk
 ·rename_i k n h1 h2;obtain rfl:=hx.v_eq;refine BF.val (x:=.int .i64 n) ?_ hk.2;have hw:=MM hk.1;simp[convert,run_underlying (hT.int h1),run_underlying (hT.int h2),Conv.intToInt,hw]
 ·rename_i k k' m n Dt h1 h2;obtain rfl:=hx.v_eq;refine BF.val (x:=.int k' (k'.wrap n)) ?_ hk;simp[convert,run_underlying (hT.int h1),run_underlying (hT.int h2),Conv.intToInt]
 ·rename_i s' h1 h2;obtain rfl:=hx.v_eq;refine BF.val (x:=.string s') ?_ hk;simp[convert,run_underlying (hT.string h1),run_underlying (hT.string h2)]
 ·rename_i e tk es h1 h2;split at hk
  ·rename_i h3;obtain⟨l,rfl,hk⟩:=hk;have hr:=hx.slice_none;refine BF.val (x:=.string ⟨l.toArray⟩) ?_ hk;generalize hes:l.map (fun b=>[AV.v (.int .u8 b.toNat)])=es at hr;cases hr with
   |snil _ a cap =>
    have hl:l=[]:=by cases l with | nil=>rfl | cons b l=>cases hes
    subst hl;cases a with
    |none=>exact Lib.run_convert_nil_bytes w s t e cap (hT.slice h1) (hT.int h3) (hT.string h2)
    |some a=>exact run_convert_bytes_back w s t e a cap [] (hT.slice h1) (hT.int h3) (hT.string h2) (fun j hj=>by simp at hj)
   |slice _ _ b off sz cap val hc hl Dw Ed =>
    have Cq:l.length=es.length:=by rw[←hes];simp
    have:=run_convert_bytes_back (P:=P) w s t e ⟨b,off,none⟩ cap l (hT.slice h1) (hT.int h3) (hT.string h2) (fun j hj=>by
     have hg:es[j]?=some [AV.v (.int .u8 l[j].toNat)]:=by rw[←hes,AG,At hj];rfl
     have Rj:sz=1:=(hl j _ hg).symm;have h4:=Dw j _ 0 _ hg rfl;have h5:=Ed j _ 0 _ hg rfl;rw[Addr.add_lit];rw[Rj,Nat.mul_one,Gf]at h4;rw[h4.2.1,h5.v_eq])
    rw[Cq]at this;exact this
  ·exact hk.elim
 ·exact hk.elim
end
theorem iO{op:UnOp}{x:AV}{vx:Value}(hx:BD g w (AP h) x vx)(hk:YA op x K):BF P h g w (Op.unary op vx) K:=by
 unfold YA at hk;split at hk
 ·unfold cP at hk;split at hk
  ·obtain rfl:=hx.v_eq;exact BF.val (x:=.bool false) (by simp[Op.unary]) hk
  ·obtain rfl:=hx.v_eq;exact BF.val (x:=.bool true) (by simp[Op.unary]) hk
  ·exact hk.elim
 ·rename_i a;obtain rfl:=hx.v_eq;refine BF.val (x:=.int .i64 (-a)) ?_ hk.2
  have:=MM hk.1
  simp[Op.unary,Op.intArith,this]
 ·obtain rfl:=hx.v_eq;exact BF.val (by simp[Op.unary,Op.intBits,Qz]) hk
 ·exact hk.elim
theorem X9:∀{l:List AV} {j:Nat} {a:AV},kN l j=some a→l[j]?=some a
 | [],j,a,h=>by cases h
 |b::r,0,a,h=>by simpa[kN]using h
 |b::r,j+1,a,h=>by simpa using X9 (l:=r) (j:=j) h
theorem Xq{i:Nat}{x:AV}{vx:Value}(hx:BD g w (AP h) x vx)(hk:LO x i K):BF P h g w (Instr.extract vx i) K:=by
 unfold LO at hk;split at hk
 ·rename_i cs;cases hx with
  |tup _ _ vs hs hh =>
   split at hk
   ·rename_i a ha;have hc:=X9 ha;have hi:i<vs.size:=by rw[hs];exact(Ap.1 hc).1
    exact⟨vs[i],_,by simp[Instr.extract,hi],hk,hh _ _ _ hc (by simp[hi])⟩
   ·exact hk.elim
 ·exact hk.elim
theorem g8{c a b:AV}{vc va vb:Value}(hc:BD g w (AP h) c vc)(ha:BD g w (AP h) a va)(hb:BD g w (AP h) b vb)(hk:Yl c a b K) :
  BF P h g w (do pure (if ←asBool vc then va else vb)) K:=by
 unfold Yl at hk;split at hk
 ·obtain rfl:=hc.v_eq;exact⟨va,a,by simp[asBool],hk,ha⟩
 ·obtain rfl:=hc.v_eq;exact⟨vb,b,by simp[asBool],hk,hb⟩
 ·exact hk.elim
theorem kD{t:Nat}{GJ:Array TypeId}{x y:AV}{vx vy:Value}(hx:BD g w (AP h) x vx)(hy:BD g w (AP h) y vy)(hk:kG max x y K):BF P h g w (Builtin.max_ GJ t #[vx,vy]) K:=by
 unfold kG at hk;split at hk
 ·rename_i k a k' b;split at hk
  ·obtain rfl:=hx.v_eq;obtain rfl:=hy.v_eq;refine BF.val (x:=.int k (max a b)) ?_ hk;simp[Builtin.max_,Builtin.max2];omega
  ·exact hk.elim
 ·exact hk.elim
theorem kF{t:Nat}{GJ:Array TypeId}{x y:AV}{vx vy:Value}(hx:BD g w (AP h) x vx)(hy:BD g w (AP h) y vy)(hk:kG min x y K):BF P h g w (Builtin.min_ GJ t #[vx,vy]) K:=by
 unfold kG at hk;split at hk
 ·rename_i k a k' b;split at hk
  ·obtain rfl:=hx.v_eq;obtain rfl:=hy.v_eq;refine BF.val (x:=.int k (min a b)) ?_ hk;simp[Builtin.min_,Builtin.min2];omega
  ·exact hk.elim
 ·exact hk.elim
end
theorem Cu.at{g:Gh}{w:World}{U:Nat→Prop}{cs:List AV}{vs:List Value}(h:Cu g w U cs vs){i:Nat}{av:AV}(hi:cs[i]?=some av):∃x,vs[i]?=some x∧x.oneCell'=true∧BD g w U av x:=by
 have DA:i<vs.length:=by rw[h.1];exact(Ap.1 hi).1
 exact⟨vs[i],At DA,h.2.1 _ (AC DA),h.2.2 i av _ hi (At DA)⟩
theorem Fa{α:Type}{n:Nat}:∀{es:List (List α)},(∀c∈es,c.length=n)→∀{i j:Nat} {c:List α},es[i]?=some c→j<n→es.flatten[i*n+j]?=c[j]?
 | [],_,i,j,c,h,_=>by simp at h
 |d::es,hl,0,j,c,h,hj=>by
  simp at h;subst h
  have:=hl d (Aa ..)
  rw[Bv,AX (by omega)]
  congr 1;omega
 |d::es,hl,i+1,j,c,h,hj=>by
  have hd:=hl d (Aa ..);rw[Bv,AY (by rw[hd,DY];omega)];rw[show(i+1)*n+j-d.length=i*n+j by rw[hd,DY];omega];exact Fa (fun c hc=>hl c (Ag _ hc)) (by simpa using h) hj
theorem C3{α:Type}{n:Nat}:∀{es:List (List α)},(∀c∈es,c.length=n)→es.flatten.length=es.length*n
 | [],_=>by simp
 |d::es,hl=>by
  rw[Bv,Ad,hl d (Aa ..),C3 (fun c hc=>hl c (Ag _ hc)),Av,DY,Nat.add_comm]
section
variable {P:Program}{T:Gs}(hT:Cn P T){h:Nat→HO}{g:Gh}{w:World}{K:AV→Prop}(ho:∀r,D6 g w (AP h) r (h r))
include ho
theorem U8(hT:Cn P T){t:Nat}{p:AV}{vp:Value}(hp:BD g w (AP h) p vp)(hk:H9 T h t p K):BF P h g w (Instr.loadAt t vp) K:=by
 have TW:∀b off,BF P h g w (loadVar t ⟨b,off,none⟩) K→BF P h g w (Instr.loadAt t (.pointer (some ⟨b,off,none⟩))) K:=by
  rintro b off ⟨x,av,h1,h2,h3⟩
  exact⟨x,av,by simp[Instr.loadAt,Instr.sureAddr,h1],h2,h3⟩
 unfold H9 at hk;split at hk
 ·cases hp with
  |cptr _ _ b off val Dw Ed=>exact TW b off (L6 hT (Hp.of_cptr (.cptr Fi _ b off val Dw Ed) _) hk)
 ·rename_i r off;have hr:=ho r;cases hp with
  |ref _ _ _ b hu ht hx =>
   split at hk
   ·rename_i cs e;rw[e]at hr;obtain⟨_,b',E,vs,a1,a2,a3,a4,a5⟩:=hr;rw[a2]at hx;cases hx
    have:=(Hp.of_row a3 a4).drop off
    rw[Bg]at this;exact TW b off (L6 hT this hk)
   ·rename_i cs e;rw[e]at hr;obtain⟨_,b',a1,a2⟩:=hr;rw[a1]at hx;cases hx
    have:=(Hp.of_cptr a2 (AP h)).drop off
    rw[Bg]at this;exact TW b off (L6 hT this hk)
   ·exact hk.elim
 ·rename_i r n sz i off;have hr:=ho r;cases hp with
  |eref _ _ _ _ _ _ b cap hu ht hn hx =>
   split at hk
   ·rename_i Gq es e;rw[e]at hr;split at hk
    ·rename_i hz;obtain rfl:=AH hz;obtain⟨Cq,cs,h1,hk⟩:=hk;obtain⟨t1,l1,al,a1⟩:=hr;have DA:=(Ap.1 h1).1;rcases a1 with ⟨rfl,_⟩ | ⟨b',KO,E,vs,e1,e2,e3,e4,e5,e6,e7⟩
     ·simp at h1
     ·have:=hx (Cq.trans l1.symm)
      rw[e1]at this;simp only[Value.slice.injEq,Bi,Addr.mk.injEq]at this;obtain⟨⟨rfl,_,_⟩,_,_⟩:=this;refine TW _ _ (L6 hT (cs:=cs.drop off) (fun j av hj=>?_) hk);rw[Dr]at hj;have hcl:=al cs (Ar h1);have qI:off+j<sz:=by rw[←hcl];exact(Ap.1 hj).1
      have hf:=Fa al h1 qI;rw[hj]at hf;obtain⟨x,x1,x2,x3⟩:=e6.at hf;refine⟨x,?_,x2,x3.up _⟩;rw[FD e4];have nH:i*sz+(off+j)<es.length*sz:=by
       have:=Be sz (show i+1≤es.length from DA)
       rw[DY]at this;omega
      rw[BE nH]at x1;rw[←Gr]at x1;simpa using x1
    ·exact hk.elim
   ·rename_i Gq es i' c av e;rw[e]at hr;split at hk
    ·rename_i hz;obtain rfl:=AH hz;obtain⟨⟨Cq,rfl,rfl⟩,hk⟩:=hk;obtain⟨t1,l1,al,b',KO,E,vs,e1,e2,e3,e4,e5,e6,e7,e8,x,e9,pY⟩:=hr
     have:=hx (Cq.trans l1.symm)
     rw[e1]at this;simp only[Value.slice.injEq,Bi,Addr.mk.injEq]at this;obtain⟨⟨rfl,_,_⟩,_,_⟩:=this;refine TW _ _ (L6 hT (cs:=[av]) (fun j a' hj=>?_) hk);cases j with
     |succ j=>simp at hj
     |zero =>
      simp only[A7,Bi]at hj;subst hj;refine⟨x,by rw[FD e4];simpa using e9,?_,pY⟩;have hm:x∈vs.toList.take (es.length*sz):=by
       have h9:vs.toList[i*sz+off]?=some x:=by simpa using e9
       exact Ar (by rw[BE e8];exact h9)
      exact e6.2.1 x hm
    ·exact hk.elim
   ·exact hk.elim
 ·exact hk.elim
end
theorem FH{α:Type}:∀(cs:List α) (o:Nat) (vs:List α),(over cs o vs).length=cs.length
 | [],_,_=>rfl
 |c::cs,o+1,vs=>by simp[over,FH cs o vs]
 |c::cs,0,[]=>rfl
 |c::cs,0,v::vs=>by simp[over,FH cs 0 vs]
theorem FG{α:Type}:∀(cs:List α) (o:Nat) (vs:List α) (i:Nat),o+vs.length≤cs.length→(over cs o vs)[i]?=if o≤i∧i<o+vs.length then vs[i-o]? else cs[i]?
 | [],o,vs,i,h=>by
  simp at h;obtain⟨rfl,rfl⟩:=h;simp[over]
 |c::cs,o+1,vs,0,h=>by simp[over]
 |c::cs,o+1,vs,i+1,h=>by
  have:=FG cs o vs i (by simp at h;omega)
  simp only[over,GK,this]
  by_cases hc:o≤i∧i<o+vs.length
  ·rw[Ao hc,Ao (by omega)];congr 1;omega
  ·rw[Ah hc,Ah (by omega)]
 |c::cs,0,[],i,h=>by
  have:¬(0≤i∧i<0+([]:List α).length):=by simp
  rw[Ah this];rfl
 |c::cs,0,v::vs,0,h=>by simp[over]
 |c::cs,0,v::vs,i+1,h=>by
  have:=FG cs 0 vs i (by simp at h;omega)
  simp only[over,GK,this]
  by_cases hc:0≤i∧i<0+vs.length
  ·rw[Ao hc,Ao (by simp;omega)];simp
  ·rw[Ah hc,Ah (by simp at hc⊢;omega)]
theorem Cu.over{g:Gh}{w:World}{U:Nat→Prop}{cs T9:List AV}{xs vs:List Value}(h:Cu g w U cs xs)(k:Cu g w U T9 vs)(o:Nat)(Ho:o+T9.length≤cs.length) :
  Cu g w U (Eng.over cs o T9) (Eng.over xs o vs):=by
 have qN : o+vs.length≤xs.length:=by rw[k.1,h.1];exact Ho
 refine⟨by rw[FH,FH,h.1],fun x hx=>?_,fun i av x h1 h2=>?_⟩
 ·obtain⟨i,hi⟩:=B4.1 hx;rw[FG _ _ _ _ qN]at hi;split at hi
  ·exact k.2.1 _ (Ar hi)
  ·exact h.2.1 _ (Ar hi)
 ·rw[FG _ _ _ _ Ho]at h1;rw[FG _ _ _ _ qN,k.1]at h2;split at h1
  ·rename_i hc;rw[Ao hc]at h2;exact k.2.2 _ _ _ h1 h2
  ·rename_i hc;rw[Ah hc]at h2;exact h.2.2 _ _ _ h1 h2
theorem ol{g:Gh}{w:World}{U:Nat→Prop}{a:AV}{x:Value}(h:BD g w U a x)(h1:one a=true):x.oneCell'=true:=by
 cases h with
 |v=>exact h1
 |tok _ r sz es _ h=>cases h with
  |snil=>rfl
  |slice=>rfl
 |ver _ r sz v es _ h=>cases h with
  |snil=>rfl
  |slice=>rfl
 |full _ sz es _ h=>cases h with
  |snil=>rfl
  |slice=>rfl
 |_=>first |rfl |(cases h1;done)
theorem cV{x:Value}(h:x.oneCell'=true):x.cells=#[x]:=by
 cases x<;>first | rfl | (simp[Value.oneCell']at h)
theorem Ms{g:Gh}{w:World}{U:Nat→Prop}{n:Nat}{a:AV}{K:List AV→Prop}{x:Value}(h:BD g w U a x)(hk:GX n a K) :
  ∃cs,K cs∧cs.length=n∧Cu g w U cs x.cells.toList:=by
 have single:one a=true→n=1→K [a]→∃cs,K cs∧cs.length=n∧Cu g w U cs x.cells.toList:=by
  intro h1 hn hk;have hx:=ol h h1;rw[cV hx];refine⟨[a],hk,hn.symm,rfl,by simpa using hx,fun i av y e1 e2=>?_⟩;cases i with
  |zero=>simp at e1 e2;subst e1;subst e2;exact h
  |succ i=>simp at e1
 unfold GX at hk;split at hk
 ·rename_i cs;split at hk
  ·rename_i hl;cases h with
   |agg _ _ vs hs h1 hr =>
    refine⟨cs,hk,AH hl,by simpa[Value.cells]using hs,fun y hy=>?_,fun i av y e1 e2=>?_⟩
    ·obtain⟨i,hi⟩:=B4.1 hy;exact h1 i y (by simpa[Value.cells]using hi)
    ·exact hr i av y e1 (by simpa[Value.cells]using e2)
  ·exact hk.elim
 ·split at hk
  ·rename_i h1;split at hk
   ·exact single h1 rfl hk
   ·exact hk.elim
  ·exact hk.elim
theorem Nw:∀(vs:List Value) (k o:Nat) (cs:Array Value),o+k+vs.length≤cs.size →
  ((vs.zipIdx k).foldl (fun(cs:Array Value) (p:Value×Nat)=>cs.setIfInBounds (o+p.2) p.1) cs).toList=over cs.toList (o+k) vs
 | [],k,o,cs,_=>by
  have:∀(l:List Value) (o:Nat),over l o []=l:=by
   intro l
   induction l with
   |nil=>intro o;rfl
   |cons c l ih=>intro o;cases o with
    |zero=>rfl
    |succ o=>simp[over,ih]
  simp[this]
 |v::vs,k,o,cs,h=>by
  simp at h;rw[List.zipIdx_cons,Eb,Nw vs (k+1) o _ (by simp;omega)];simp only[Array.toList_setIfInBounds];apply CX;intro i;rw[FG _ _ _ _ (by simp;omega),FG _ _ _ _ (by simp;omega)];simp only[Av,List.getElem?_set]
  by_cases h1:i=o+k
  ·subst h1;rw[Ah (by omega),Ao (by omega)];have DA:o+k<cs.size:=by omega
   simp[DA]
  ·by_cases h2:o+k≤i∧i<o+k+(vs.length+1)
   ·rw[Ao (by omega),Ao h2,show i-(o+k)=(i-(o+(k+1)))+1 by omega];simp
   ·rw[Ah (by omega),Ah (by omega),Ah h2]
theorem Su{g:Gh}{w:World}{U:Nat→Prop}{t:Nat→AV}{ρ:Operand→Value}(ht:∀x:Operand,BD g w U (ev t x) (ρ x)){pl pl' : Nat→Option (Nat×Nat)}(vD:∀i p,pl i=some p→pl' i=some p) :
  ∀{ps:List (Nat×Operand)} {cs:List AV} {xs:Array Value} {K:List AV→Prop},Cu g w U cs xs.toList→Kr pl cs t ps K →
   ∃Y0 Vx,K Y0∧Cu g w U Y0 Vx.toList∧Instr.fill pl' xs (ps.map fun(i,x)=>(i,ρ x))=some Vx
 | [],cs,xs,K,h,hk=>⟨cs,xs,hk,h,rfl⟩
 |(i,x)::ps,cs,xs,K,h,hk=>by
  unfold Kr at hk;split at hk
  ·exact hk.elim
  ·rename_i o n hp;obtain⟨T9,hk,hn,hr⟩:=Ms (ht x) hk;split at hk
   ·rename_i Ho;have Ho:=HX Ho;have Ew:(ρ x).cells.size=n:=by rw[←hn];simpa using hr.1
    have ji:cs.length=xs.size:=by simpa using h.1.symm
    have EQ:=h.over hr o (by rw[hn];exact Ho);have e:=Nw (ρ x).cells.toList 0 o xs (by simp[Ew];omega);simp only[Gf]at e;rw[←e]at EQ;obtain⟨Y0,Vx,k1,k2,k3⟩:=Su ht vD EQ hk;refine⟨Y0,Vx,k1,k2,?_⟩;simp only[AL,Instr.fill,vD _ _ hp];have e2:(ρ x).cells.zipIdx.foldl (fun cs (c,j)=>cs.setIfInBounds (o+j) c) xs=((ρ x).cells.toList.zipIdx 0).foldl (fun(cs:Array Value) (p:Value×Nat)=>cs.setIfInBounds (o+p.2) p.1) xs:=by
     rw[←Array.foldl_toList];simp
    rw[Ah (by simp[Ew];omega),e2];exact k3
   ·exact hk.elim
theorem Mm:∀{l:List AV},GV l=true→∀a∈l,one a=true
 | [],_,a,h=>by cases h
 |b::r,h,a,ha=>by
  unfold GV at h;split at h
  ·rename_i hb;rcases Au.1 ha with rfl | ha
   ·exact hb
   ·exact Mm h a ha
  ·cases h
theorem Cu.vals{g:Gh}{w:World}{U:Nat→Prop}{vs:List Value}(h:GV (vs.map .v)=true):Cu g w U (vs.map .v) vs:=by
 refine⟨by simp,fun x hx=>?_,fun i av x h1 h2=>?_⟩
 ·have:=Mm h (.v x) (Ak.2 ⟨x,hx,rfl⟩)
  simpa[one]using this
 ·rw[AG,h2]at h1;simp at h1;subst h1;exact .v _ _
section
variable {P:Program}{T:Gs}(hT:Cn P T){h:Nat→HO}{g:Gh}{w:World}{K:AV→Prop}
theorem X0{α β:Type}(P:Program)(w:World)(f:α→Sem β)(f' : α→β):∀(l:List α),(∀a∈l,(f a).run P w=.ok (f' a) w)→(l.mapM f).run P w=.ok (l.map f') w
 | [],_=>rfl
 |a::l,h=>by
  have h1:=h a (Aa ..);have h2:=X0 P w f f' l (fun b hb=>h b (Ag _ hb));simp[List.mapM_cons,Sem.run_bind,h1,h2]
theorem Qw:∀{fs:List (Nat×Nat)},N7 T fs=true→∀p∈fs,∃n,(T p.1).size=n+1
 | [],_,p,h=>by cases h
 |(t,o)::r,h,p,hp=>by
  unfold N7 at h;split at h
  ·cases h
  ·rename_i n hn;rcases Au.1 hp with rfl | hp
   ·exact⟨n,hn⟩
   ·exact Qw h p hp
include hT
theorem Pm{t:Nat}(hd:(T t).d≠.other):∃z,(zeroValue t).run P w=.ok z w∧(T t).zc=z.cells.toList∧(T t).zero=z:=by
 obtain⟨d,i,z,h1,h2,h3,h4,h5,h6,h7,h8⟩:=hT.get hd;exact⟨z,by simp[zeroValue,typeInfo,h3,h4],by rw[TI.zc_cells,h7],h7⟩
theorem Vz{t n:Nat}(h:(T t).size=n+1):∃z,(zeroValue t).run P w=.ok z w∧(T t).zc=z.cells.toList:=by
 rcases hT t with e | e
 ·rw[e]at h;cases h
 unfold dC at e;split at e
 ·split at e
  ·rename_i d i h1 h2 _ z h3;exact⟨z,by simp[zeroValue,typeInfo,h2,h3],by rw[TI.zc_cells,e]⟩
  ·rw[e]at h;cases h
 ·rw[e]at h;cases h
theorem bI{ty:Nat}{t:Nat→AV}{ρ:Operand→Value}(ht:∀x:Operand,BD g w (AP h) (ev t x) (ρ x)){ps:Array (Nat×Operand)}(hk:Pv T ty t ps.toList K) :
  BF P h g w (Instr.build ty (ps.map fun(i,x)=>(i,ρ x))) K:=by
 unfold Pv at hk;split at hk
 ·exact hk.elim
 ·rename_i Rj;have fin:∀(Y0 : List AV) (Vx : Array Value),Cu g w (AP h) Y0 Vx.toList→BD g w (AP h) (.agg Y0) (.agg Vx):=fun Y0 Vx hr =>
   .agg _ _ _ (by simpa using hr.1) (fun i x hx=>hr.2.1 x (Ar (by simpa using hx))) (fun i av x h1 h2=>hr.2.2 i av x h1 (by simpa using h2))
  split at hk
  ·rename_i fs hs;have hd:(T ty).d≠.other:=by rw[hs];simp
   obtain⟨z,z1,z2,_⟩:=Pm hT (w:=w) hd;split at hk
   ·exact hk.elim
   ·rename_i Ew;obtain⟨fa,u1,u2,u3⟩:=hT.struct hs;have ki:(fa.mapM fun(f:Field)=>(do pure (f.offset,←sizeOf f.type):Sem (Nat×Nat))).run P w=.ok (fa.map fun f=>(f.offset,(T f.type).size)) w:=by
     rw[Array.mapM_eq_mapM_toList]
     have:=X0 P w (fun f:Field=>(do pure (f.offset,←sizeOf f.type):Sem (Nat×Nat))) (fun f=>(f.offset,(T f.type).size)) fa.toList (fun f hf=>by
      obtain⟨n,hn⟩:=Qw Ew (f.type,f.offset) (by rw[u2];exact Ak.2 ⟨f,hf,rfl⟩);simp[hT.size1 w hn,hn])
     simp only[Sem.run_map,this,Result.andThen_ok]
     congr 1
     apply NY;simp
    rw[z2]at hk Rj;obtain⟨Y0,Vx,k1,k2,k3⟩:=Su ht (pl':=fun i=>(fa.map fun f=>(f.offset,(T f.type).size))[i]?) (fun i p hp=>by
     split at hp
     ·rename_i t' o hf;cases hp;obtain⟨fa',fd,v1,v2,rfl,rfl⟩:=Sy hT hs hf;rw[u1]at v1;cases v1;simp[v2]
     ·cases hp) (Cu.vals (vs:=z.cells.toList) Rj) hk
    refine⟨_,_,?_,k1,fin Y0 Vx k2⟩;simp only[Instr.build,Sem.run_bind,z1,Result.andThen_ok,run_underlying u1,ki];have e3:(Array.map (fun x:Nat×Operand=>match x with | (i,x)=>(i,ρ x)) ps).toList=ps.toList.map fun(i,x)=>(i,ρ x):=by simp
    rw[e3];rw[k3]
    rfl
  ·rename_i n e hs;have hd:(T ty).d≠.other:=by rw[hs];simp
   obtain⟨z,z1,z2,_⟩:=Pm hT (w:=w) hd;split at hk
   ·exact hk.elim
   ·rename_i m hm;rw[z2]at hk Rj;obtain⟨Y0,Vx,k1,k2,k3⟩:=Su ht (pl':=fun i=>some (i*(T e).size,(T e).size)) (fun i p hp=>hp) (Cu.vals (vs:=z.cells.toList) Rj) hk;refine⟨_,_,?_,k1,fin Y0 Vx k2⟩;simp only[Instr.build,Sem.run_bind,z1,Result.andThen_ok,run_underlying (hT.array hs),hT.size1 w hm];have e3:(Array.map (fun x:Nat×Operand=>match x with | (i,x)=>(i,ρ x)) ps).toList=ps.toList.map fun(i,x)=>(i,ρ x):=by simp
    rw[e3];simp only[hm]at k3;rw[k3]
    rfl
  ·exact hk.elim
end
theorem ky{a b:KS}(h:kw a b=true):a=b:=by
 cases a<;>cases b<;>first | rfl | (simp[kw]at h;done) | (simp only[kw]at h;obtain rfl:=J5 h;rfl)
theorem XV:∀{a b:List KS},S8 a b=true→a=b
 | [],[],_=>rfl
 |x::a,y::b,h=>by
  unfold S8 at h;split at h
  ·rename_i e;obtain rfl:=ky e;obtain rfl:=XV h;rfl
  ·cases h
 | [],_::_,h=>by simp[S8]at h
 |_::_,[],h=>by simp[S8]at h
theorem lu{a b:EE}(h:oG a b=true):a=b:=by
 obtain⟨a1,a2⟩:=a;obtain⟨b1,b2⟩:=b;cases a1<;>cases b1<;>simp only[oG]at h<;>first | (obtain rfl:=XV h;rfl) | cases h
section
variable {P:Program}{T:Gs}(hT:Cn P T)
include hT
def Kf(P:Program)(w:World)(b:Bool)(d t:Nat)(xs:Array Value)(o:Nat):Prop :=
 (do let a ←part t xs o;Instr.checkKey b d t a).run P w=.ok () w
theorem Sf(w:World)(b:Bool):∀(n t:Nat) (l:List KS),Hw T n t=some l→∀d,n≤d→∀(xs:Array Value) (o:Nat),I6 l (H1 xs.toList o l.length)=true→Kf P w b d t xs o
 |0,t,l,h=>by simp[Hw]at h
 |n+1,t,l,h=>by
  intro d hd xs o hx;obtain⟨d,rfl⟩:∃d',d=d'+1:=⟨d-1,by omega⟩;have scalar:∀k,(T t).d≠.other→JE (T t).d=false→l=[k]→(∀x,M6 k x=true→(Instr.checkKey b (d+1) t x).run P w=.ok () w)→Kf P w b (d+1) t xs o:=by
   rintro k XG hs rfl hk
   obtain⟨x,x1,x2,x3⟩:=Lb hx;unfold Kf;simp[Sem.run_bind,DN hT w XG hs xs o _ x1,hk x x2]
  unfold Hw at h;split at h
  ·rename_i k hk;split at h
   ·cases h
    refine scalar _ (by rw[hk];simp) (by rw[hk];rfl) rfl (fun x hx=>?_);cases x<;>simp[M6]at hx
    simp[Instr.checkKey,run_underlying (hT.int hk)]
   ·cases h
  ·rename_i hk;split at h
   ·cases h
    refine scalar _ (by rw[hk];simp) (by rw[hk];rfl) rfl (fun x hx=>?_);cases x<;>simp[M6]at hx
    simp[Instr.checkKey,run_underlying (hT.string hk)]
   ·cases h
  ·rename_i hk;split at h
   ·cases h
    refine scalar _ (by rw[hk];simp) (by rw[hk];rfl) rfl (fun x hx=>?_);cases x<;>simp[M6]at hx
    simp[Instr.checkKey,run_underlying (hT.bool hk)]
   ·cases h
  ·rename_i fs hk;split at h
   ·split at h
    ·rename_i l' J3;split at h
     ·rename_i Cq;cases h;have Cq:=AH Cq;have XG:(T t).d≠.other:=by rw[hk];simp
      have hs:JE (T t).d=true:=by rw[hk];rfl
      obtain⟨fa,u1,u2,u3⟩:=hT.struct hk;rw[u2]at J3;have ex:(xs.extract o (o+(T t).size)).toList=H1 xs.toList o l.length:=by
       rw[←Cq];simp[H1]
      have s0:H1 (H1 xs.toList o l.length) 0 l.length=H1 xs.toList o l.length:=by
       rw[aZ _ _ _ _ _ (by omega)];rfl
      unfold Kf;simp only[Sem.run_bind,Gz hT w XG hs,Result.andThen_ok];have ih:=Sf w b n;have hq:I6 l (H1 (xs.extract o (o+(T t).size)).toList 0 l.length)=true:=by rw[ex,s0];exact hx
      generalize xs.extract o (o+(T t).size)=ys at hq;simp only[Instr.checkKey,Sem.run_bind,run_underlying u1,Result.andThen_ok];rw[←Array.forIn_toList]
      clear u2 hk
      have key : ∀ (fl : List Field) (m : Nat) (l : List KS), Nv (Hw T n) m (fl.map fun f => (f.type, f.offset)) = some l → (∀ f ∈ fl, f.name ≠ "_") → I6 l (H1 ys.toList m l.length) = true →
        (forIn fl PUnit.unit (fun (f : Field) (_ : PUnit) => ((if f.name ≠ "_" then (do
         let x ←part f.type ys f.offset
         Instr.checkKey b d f.type x
         pure (ForInStep.yield PUnit.unit))else pure (ForInStep.yield PUnit.unit)):Sem (ForInStep PUnit)))).run P w=.ok PUnit.unit w:=by
       intro fl
       induction fl with
       |nil=>intro m l _ _ _;rfl
       |cons f fl ihf =>
        intro m l hg hn hy;obtain⟨ho,a,c,ha,hc,rfl⟩:=M3 hg;rw[Ad]at hy;obtain⟨y1,y2⟩:=Ry hy;rw[Pf _ _ _ _ (by omega)]at y1;rw[Pe,GM]at y2;have h1:=ih f.type a ha d (by omega) ys m y1;unfold Kf at h1;rw[List.forIn_cons];simp only[Sem.run_bind,Ao (hn f (Aa ..))];simp only[Sem.run_bind]at h1;rw[ho];generalize (part f.type ys m).run P w=r1 at h1⊢;cases r1 with
        |halt x w1=>cases h1
        |ok u w1 =>
         simp only[Result.andThen_ok]at h1⊢;rw[h1];simp only[Result.andThen_ok,Sem.run_pure];exact ihf (m+a.length) c hc (fun f hf=>hn f (Ag _ hf)) y2
      rw[key fa.toList 0 l J3 u3 hq]
      rfl
     ·cases h
    ·cases h
   ·cases h
  ·cases h
theorem iy{kt:Nat}{sh:EE}(hs:HR T kt=some sh)(w:World){x y:Value}(hx:Vm sh x=true)(hy:Vm sh y=true) :
  ∃b:Bool,(Op.equal kt x y).run P w=.ok b w∧(b=true↔x=y):=by
 unfold HR at hs;split at hs
 ·rename_i fs hk;split at hs
  ·rename_i l hl;cases hs;cases x<;>simp only[Vm]at hx<;>try (cases hx;done)
   cases y<;>simp only[Vm]at hy<;>try (cases hy;done)
   rename_i xs ys;have hd:(T kt).d≠.other:=by rw[hk];simp
   have ha:JE (T kt).d=true:=by rw[hk];rfl
   have Cq:l.length=(T kt).size:=by
    unfold Hw at hl;rw[hk]at hl;dsimp only at hl;split at hl
    ·split at hl
     ·split at hl
      ·rename_i e;cases hl;exact AH e
      ·cases hl
     ·cases hl
    ·cases hl
   have s0:∀zs:Array Value,I6 l zs.toList=true→H1 zs.toList 0 l.length=zs.toList:=fun zs hz=>by
    have:=K5 hz
    simp only[H1,List.drop_zero];rw[AE (by omega)]
   have ex:∀zs:Array Value,I6 l zs.toList=true→zs.extract 0 (0+(T kt).size)=zs:=fun zs hz=>by
    have:=K5 hz
    rw[←Cq,←this];simp
   obtain⟨b,b1,b2⟩:=VX hT w 8 kt l hl 10000 (by omega) xs ys 0 (by rw[s0 _ hx];exact hx) (by rw[s0 _ hy];exact hy);simp only[Sem.run_bind,Gz hT w hd ha,Result.andThen_ok,ex _ hx,ex _ hy]at b1;rw[s0 _ hx,s0 _ hy]at b2;refine⟨b,b1,b2.trans ⟨fun e=>by rw[NY e],fun e=>by cases e;rfl⟩⟩
  ·cases hs
 ·rename_i Ri;split at hs
  ·rename_i l hl;cases hs;have Ly : I6 l [x]=true:=by cases x<;>exact hx
   have vS : I6 l [y]=true:=by cases y<;>exact hy
   have single:∀k,l=[k]→M6 k x=true∧M6 k y=true:=by
    rintro k rfl
    unfold I6 at Ly vS;split at Ly
    ·split at vS
     ·exact⟨‹_›,‹_›⟩
     ·cases vS
    ·cases Ly
   have e9:Op.equal kt x y=Op.equalIn (9999+1) kt x y:=rfl;rw[e9];unfold Hw at hl;split at hl
   ·rename_i k hk;split at hl
    ·cases hl
     obtain⟨h1,h2⟩:=single _ rfl;cases x<;>simp[M6]at h1
     cases y<;>simp[M6]at h2
     obtain rfl:=J5 h1;obtain rfl:=J5 h2;exact⟨_,run_equalIn_int w 9999 kt _ _ _ _ (hT.int hk),by simp⟩
    ·cases hl
   ·rename_i hk;split at hl
    ·cases hl
     obtain⟨h1,h2⟩:=single _ rfl;cases x<;>simp[M6]at h1
     cases y<;>simp[M6]at h2
     exact⟨_,run_equalIn_string w 9999 kt _ _ (hT.string hk),by rw[Jy];simp⟩
    ·cases hl
   ·rename_i hk;split at hl
    ·cases hl
     obtain⟨h1,h2⟩:=single _ rfl;cases x<;>simp[M6]at h1
     cases y<;>simp[M6]at h2
     exact⟨_,run_equalIn_bool' w 9999 kt _ _ (hT.bool hk),by simp⟩
    ·cases hl
   ·rename_i fs hk;exact absurd hk (Ri fs)
   ·cases hl
  ·cases hs
theorem Mh{kt:Nat}{sh:EE}(hs:HR T kt=some sh)(w:World)(b:Bool){x:Value}(hx:Vm sh x=true):(Instr.checkKey b 10000 kt x).run P w=.ok () w:=by
 unfold HR at hs;split at hs
 ·rename_i fs hk;split at hs
  ·rename_i l hl;cases hs;cases x<;>simp only[Vm]at hx<;>try (cases hx;done)
   rename_i xs;have hd:(T kt).d≠.other:=by rw[hk];simp
   have ha:JE (T kt).d=true:=by rw[hk];rfl
   have Cq:l.length=(T kt).size:=by
    unfold Hw at hl;rw[hk]at hl;dsimp only at hl;split at hl
    ·split at hl
     ·split at hl
      ·rename_i e;cases hl;exact AH e
      ·cases hl
     ·cases hl
    ·cases hl
   have:=K5 hx
   have h0:H1 xs.toList 0 l.length=xs.toList:=by
    simp only[H1,List.drop_zero];rw[AE (by omega)]
   have h1:=Sf hT w b 8 kt l hl 10000 (by omega) xs 0 (by rw[h0];exact hx);unfold Kf at h1;simp only[Sem.run_bind,Gz hT w hd ha,Result.andThen_ok]at h1;have ex:xs.extract 0 (0+(T kt).size)=xs:=by rw[←Cq,←this];simp
   rw[ex]at h1;exact h1
  ·cases hs
 ·rename_i Ri;split at hs
  ·rename_i l hl;cases hs;have key:∀d,(Instr.checkKey b (d+1) kt x).run P w=.ok () w:=by
    intro d;unfold Hw at hl;split at hl
    ·rename_i k hk;simp[Instr.checkKey,run_underlying (hT.int hk)]
    ·rename_i hk;simp[Instr.checkKey,run_underlying (hT.string hk)]
    ·rename_i hk;simp[Instr.checkKey,run_underlying (hT.bool hk)]
    ·rename_i fs hk;exact absurd hk (Ri fs)
    ·cases hl
   exact key 9999
  ·cases hs
end
def MU(x:Value)(es:List MapEntry)(i:Nat)(r:Option (Nat×Value)):Prop :=
 (r=none∧∀e∈es,e.key≠x)∨∃(j:Nat) (e:MapEntry),r=some (i+j,e.val)∧es[j]?=some e∧e.key=x
theorem MU.here{x:Value}{es:List MapEntry}{i:Nat}{e:MapEntry}(h:e.key=x):MU x (e::es) i (some (i,e.val)) :=
 .inr ⟨0,e,rfl,rfl,h⟩
theorem MU.there{x:Value}{es:List MapEntry}{i:Nat}{e:MapEntry}{r:Option (Nat×Value)}(h:e.key≠x)(k:MU x es (i+1) r):MU x (e::es) i r:=by
 rcases k with ⟨h1,h2⟩ | ⟨j,e',h1,h2,h3⟩
 ·exact .inl ⟨h1,fun d hd=>(Au.1 hd).elim (fun e'=>e'▸h) (h2 d)⟩
 ·exact .inr ⟨j+1,e',by rw[h1,Gr,Nat.add_comm 1 j],h2,h3⟩
theorem Sv{kind:TypeDesc}{x:Value}:∀(es:List MapEntry) (i:Nat),(∀e∈es,∃b,Instr.sameNow kind x e.key=some b∧(b=true↔x=e.key))→∃r,Instr.findNow kind x es i=some r∧MU x es i r
 | [],i,_=>⟨none,rfl,.inl ⟨rfl,fun _ h=>by cases h⟩⟩
 |e::es,i,h=>by
  obtain⟨b,b1,b2⟩:=h e (Aa ..);cases b with
  |true=>exact⟨_,by simp[Instr.findNow,b1],.here (b2.1 rfl).symm⟩
  |false =>
   obtain⟨r,r1,r2⟩:=Sv es (i+1) (fun d hd=>h d (Ag _ hd));exact⟨r,by simp[Instr.findNow,b1,r1],.there (fun e'=>by have:=b2.2 e'.symm;cases this) r2⟩
section
variable {P:Program}{T:Gs}(hT:Cn P T)
include hT
theorem M1{kt:Nat}{sh:EE}(hs:HR T kt=some sh)(w:World){x:Value}(hx:Vm sh x=true) :
  ∀(es:List MapEntry) (i:Nat),(∀e∈es,Vm sh e.key=true)→∃r,(Instr.findAsking kt x es i).run P w=.ok r w∧MU x es i r
 | [],i,_=>⟨none,rfl,.inl ⟨rfl,fun _ h=>by cases h⟩⟩
 |e::es,i,h=>by
  obtain⟨b,b1,b2⟩:=iy hT hs w hx (h e (Aa ..));cases b with
  |true=>exact⟨_,by simp[Instr.findAsking,b1],.here (b2.1 rfl).symm⟩
  |false =>
   obtain⟨r,r1,r2⟩:=M1 hs w hx es (i+1) (fun d hd=>h d (Ag _ hd));exact⟨r,by simp[Instr.findAsking,b1,r1],.there (fun e'=>by have:=b2.2 e'.symm;cases this) r2⟩
theorem NS{kt:Nat}{sh:EE}(hs:HR T kt=some sh)(w:World){x:Value}(hx:Vm sh x=true)(es:List MapEntry)(he:∀e∈es,Vm sh e.key=true) :
  ∃r,(Instr.findKey kt x es).run P w=.ok r w∧MU x es 0 r:=by
 have mM:∀d,P.underlying kt=some d→Instr.findNow d x es 0=none→∃r,(Instr.findKey kt x es).run P w=.ok r w∧MU x es 0 r:=by
  intro d hd hn;obtain⟨r,r1,r2⟩:=M1 hT hs w hx es 0 he;exact⟨r,by simp[Instr.findKey,run_underlying hd,hn,r1],r2⟩
 have now:∀d,P.underlying kt=some d→(∀e∈es,∃b,Instr.sameNow d x e.key=some b∧(b=true↔x=e.key))→∃r,(Instr.findKey kt x es).run P w=.ok r w∧MU x es 0 r:=by
  intro d hd hn;obtain⟨r,r1,r2⟩:=Sv es 0 hn;exact⟨r,by simp[Instr.findKey,run_underlying hd,r1],r2⟩
 have WP:=hs;unfold HR at WP;split at WP
 ·rename_i fs hk;obtain⟨fa,u1,_⟩:=hT.struct hk;cases es with
  |nil=>exact⟨none,by simp[Instr.findKey,run_underlying u1,Instr.findNow],.inl ⟨rfl,fun _ h=>by cases h⟩⟩
  |cons e es =>
   refine mM _ u1 ?_;split at WP
   ·cases WP
    cases x<;>simp only[Vm]at hx<;>try (cases hx;done)
    simp[Instr.findNow,Instr.sameNow]
   ·cases WP
 ·rename_i Ri;split at WP
  ·rename_i l hl;cases WP;have cv:∀y,Vm ⟨false,l⟩ y=true→I6 l [y]=true:=fun y hy=>by cases y<;>exact hy
   have Ly:=cv x hx;have uY : ∀e∈es,I6 l [e.key]=true:=fun e h=>cv _ (he e h)
   clear hx he cv
   have single:∀k y,l=[k]→I6 l [y]=true→M6 k y=true:=by
    rintro k y rfl h
    unfold I6 at h;split at h
    ·assumption
    ·cases h
   unfold Hw at hl;split at hl
   ·rename_i k hk;split at hl
    ·cases hl
     refine now _ (hT.int hk) (fun e h=>?_);have h1:=single _ _ rfl Ly;have h2:=single _ _ rfl (uY e h);generalize e.key=y at h2;cases x<;>simp[M6]at h1
     cases y<;>simp[M6]at h2
     obtain rfl:=J5 h1;obtain rfl:=J5 h2;exact⟨_,by simp[Instr.sameNow];rfl,by simp⟩
    ·cases hl
   ·rename_i hk;split at hl
    ·cases hl
     refine now _ (hT.string hk) (fun e h=>?_);have h1:=single _ _ rfl Ly;have h2:=single _ _ rfl (uY e h);generalize e.key=y at h2;cases x<;>simp[M6]at h1
     cases y<;>simp[M6]at h2
     exact⟨_,by simp[Instr.sameNow];rfl,by rw[beq_toListBytes,Jy];simp⟩
    ·cases hl
   ·rename_i hk;split at hl
    ·cases hl
     refine now _ (hT.bool hk) (fun e h=>?_);have h1:=single _ _ rfl Ly;have h2:=single _ _ rfl (uY e h);generalize e.key=y at h2;cases x<;>simp[M6]at h1
     cases y<;>simp[M6]at h2
     exact⟨_,by simp[Instr.sameNow];rfl,by simp⟩
    ·cases hl
   ·rename_i fs hk;exact absurd hk (Ri fs)
   ·cases hl
  ·cases WP
end
theorem QY{P:Program}(w:World){sh:EE}{x:Value}(hx:Vm sh x=true):(Instr.keyThatStays x x).run P w=.ok x w:=by
 have scalar:∀(k:KS) (y:Value) (n:Nat),M6 k y=true→Instr.sameBits n y y=true:=by
  intro k y n h;cases k<;>cases y<;>simp[M6]at h<;>cases n<;>simp[Instr.sameBits,beq_toListBytes]
 have lst:∀(l:List KS) (ys:List Value) (n:Nat),I6 l ys=true→((ys.zip ys).all fun(a,b)=>Instr.sameBits n a b)=true:=by
  intro l ys n
  induction ys generalizing l with
  |nil=>intro _;rfl
  |cons y ys ih =>
   intro h;cases l with
   |nil=>simp[I6]at h
   |cons k l =>
    unfold I6 at h;split at h
    ·rename_i hk;simp only[List.zip_cons_cons,List.all_cons,scalar k y n hk,Ey];exact ih l h
    ·cases h
 have h1:∀n,Instr.sameBits (n+1) x x=true:=by
  intro n;obtain⟨ag,l⟩:=sh;cases ag with
  |true =>
   cases x<;>simp only[Vm]at hx<;>try (cases hx;done)
   have:=lst l _ n hx
   simp only[Instr.sameBits,beq_self_eq_true,Ey];exact this
  |false =>
   have Ly : I6 l [x]=true:=by cases x<;>exact hx
   cases l with
   |nil=>simp[I6]at Ly
   |cons k l =>
    unfold I6 at Ly;split at Ly
    ·rename_i hk;exact scalar k x (n+1) hk
    ·cases Ly
 have:=h1 9999
 simp only[Instr.keyThatStays];rw[Ao this]
 rfl
theorem Vw:∀{cs:List AV} {l:List Value},WI cs=some l→cs=l.map .v
 | [],l,h=>by cases h;rfl
 |a::r,l,h=>by
  cases a<;>simp only[WI]at h<;>try (cases h;done)
  split at h
  ·rename_i l' hl;cases h;rw[Vw hl];rfl
  ·cases h
theorem kr{g:Gh}{w:World}{U:Nat→Prop}{a:AV}{x y:Value}(h:BD g w U a x)(hk:nZ a=some y):x=y:=by
 unfold nZ at hk;split at hk
 ·cases hk;exact h.v_eq
 ·split at hk
  ·rename_i l hl;cases hk;obtain rfl:=Vw hl;exact h.agg_vals
  ·cases hk
 ·cases hk
theorem Mz{T:Gs}{g:Gh}{w:World}{U:Nat→Prop}{ty:Nat}{sh:EE}{a:AV}{x:Value}{K:Value→Prop}(h:BD g w U a x)(hk:J6 T ty sh a K) :
  ∃kt e,(T ty).d=.map kt e∧HR T kt=some sh∧Vm sh x=true∧K x:=by
 unfold J6 at hk;split at hk
 ·rename_i kt e ht;split at hk
  ·rename_i tg hs;split at hk
   ·rename_i zW;obtain rfl:=lu zW;split at hk
    ·rename_i kx Po;obtain rfl:=kr h Po;split at hk
     ·rename_i hb;exact⟨kt,e,ht,hs,hb,hk⟩
     ·exact hk.elim
    ·exact hk.elim
   ·exact hk.elim
  ·exact hk.elim
 ·exact hk.elim
theorem G8.shape{sh:EE}{es:Array MapEntry}{ck:Nat}{BX:List (Value×AV)}(h:G8 sh es ck BX):∀e∈es.toList,Vm sh e.key=true:=by
 intro e he;obtain⟨h1,h2,h3,_⟩:=h;obtain⟨i,hi⟩:=B4.1 he;have DA:i<BX.length:=by rw[←h1];have:=(Ap.1 hi).1;simpa using this
 rw[h2 i BX[i] e (At DA) (by simpa using hi)];exact h3 _ (AC DA)
theorem G8.none{sh:EE}{es:Array MapEntry}{ck:Nat}{BX:List (Value×AV)}(h:G8 sh es ck BX){x:Value}(hn:∀e∈es.toList,e.key≠x)(a:AV):(x,a)∉BX:=by
 intro hm;obtain⟨h1,h2,_⟩:=h;obtain⟨i,hi⟩:=B4.1 hm;have DA:i<es.size:=by rw[h1];exact(Ap.1 hi).1
 exact hn es[i] (by simp) (h2 i _ es[i] hi (by simp[DA]))
theorem G8.some{sh:EE}{es:Array MapEntry}{ck:Nat}{BX:List (Value×AV)}(h:G8 sh es ck BX){x:Value}{j:Nat}{e:MapEntry}(he:es.toList[j]?=some e)(hk:e.key=x) :
  ∃a,BX[j]?=some (x,a)∧(x,a)∈BX:=by
 obtain⟨h1,h2,_⟩:=h;have DA:j<BX.length:=by rw[←h1];have:=(Ap.1 he).1;simpa using this
 have hg:BX[j]?=Option.some BX[j]:=At DA
 have:=h2 j BX[j] e hg (by simpa using he)
 have e2:BX[j]=(x,BX[j].2):=by rw[←hk,this]
 exact⟨BX[j].2,by rw[hg];exact Ac _ e2,by rw[←e2];exact AC DA⟩
section
variable {P:Program}{T:Gs}(hT:Cn P T){h:Nat→HO}{g:Gh}{w:World}{K:AV→Prop}
section
include hT
theorem Vy{t:Nat}(hk:Kc T t K):BF P h g w (zeroValue t) K:=by
 unfold Kc at hk;split at hk
 ·exact hk.elim
 ·rename_i hd;obtain⟨z,z1,z2,z3⟩:=Pm hT (w:=w) hd;rw[z3]at hk;split at hk
  ·rename_i cs;split at hk
   ·rename_i ha;have hr:=Cu.vals (g:=g) (w:=w) (U:=AP h) ha;exact⟨_,_,z1,hk,.agg _ _ _ (by simp) (fun i x hx=>hr.2.1 x (Ar (by simpa using hx))) (fun i av x h1 h2=>hr.2.2 i av x h1 (by simpa using h2))⟩
   ·exact hk.elim
  ·exact⟨_,_,z1,hk,.v _ _⟩
theorem JP{ty b:Nat}{kt e:Nat}{sh:EE}{es:Array MapEntry}{ck:Nat}{BX:List (Value×AV)}{x:Value}{ok:Bool}(ht:(T ty).d=.map kt e)(hs:HR T kt=some sh)(hx:Vm sh x=true)
  (hb:w.heap[b]?=some (.map es ck)) (hm:G8 sh es ck BX) (hv:∀(i:Nat) (kv:Value×AV) (e:MapEntry),BX[i]?=some kv→es[i]?=some e→BD g w (AP h) kv.2 e.val)
  (hk:LV T ty ok BX x K):BF P h g w (Instr.lookup ty (.map (some b)) x ok) K:=by
 have hu:=hT.map ht;have Fc:=run_getObj_map (P:=P) w b es ck hb;have TZ:=fun bb=>Mh hT hs w bb hx;obtain⟨r,r1,r2⟩:=NS hT hs w hx es.toList hm.shape;unfold LV at hk;rw[ht]at hk;dsimp only at hk;rcases r2 with ⟨rfl,hn⟩ | ⟨j,en,rfl,hj,hkey⟩
 ·have XM:=fun a=>hm.none hn a;cases ok with
  |true =>
   obtain⟨y,av,y1,y2,y3⟩:=Vy hT (K:=fun z=>K (.tup [z,.v (.bool false)])) (P:=P) (h:=h) (g:=g) (w:=w) (hk.2 XM);refine⟨.tuple #[y,.bool false],_,?_,y2,.tup _ _ _ rfl (fun i a x h1 h2=>?_)⟩
   ·simp[Instr.lookup,run_underlying hu,Fc,TZ,r1,y1]
   ·match i,h1,h2 with
    |0,h1,h2=>simp at h1 h2;subst h1;subst h2;exact y3
    |1,h1,h2=>simp at h1 h2;subst h1;subst h2;exact .v _ _
  |false =>
   obtain⟨y,av,y1,y2,y3⟩:=Vy hT (K:=K) (P:=P) (h:=h) (g:=g) (w:=w) (hk.2 XM);exact⟨y,av,by simp[Instr.lookup,run_underlying hu,Fc,TZ,r1,y1],y2,y3⟩
 ·obtain⟨a,a1,a2⟩:=hm.some hj hkey;have hr:=hv j (x,a) en a1 (by simpa using hj);cases ok with
  |true =>
   refine⟨.tuple #[en.val,.bool true],_,?_,hk.1 a a2,.tup _ _ _ rfl (fun i av y h1 h2=>?_)⟩
   ·simp[Instr.lookup,run_underlying hu,Fc,TZ,r1]
   ·match i,h1,h2 with
    |0,h1,h2=>simp at h1 h2;subst h1;subst h2;exact hr
    |1,h1,h2=>simp at h1 h2;subst h1;subst h2;exact .v _ _
  |false=>exact⟨en.val,a,by simp[Instr.lookup,run_underlying hu,Fc,TZ,r1],hk.1 a a2,hr⟩
theorem Zm(ho:∀r,D6 g w (AP h) r (h r)){ty:Nat}{m k:AV}{vm vk:Value}{ok:Bool}(hm:BD g w (AP h) m vm)(hx:BD g w (AP h) k vk)(hk:MC T h ty m k ok K) :
  BF P h g w (Instr.lookup ty vm vk ok) K:=by
 unfold MC at hk;split at hk
 ·obtain⟨kt,e,k1,k2,k3,k4⟩:=Mz hx hk;cases hm with
  |cmap _ _ _ b es ck hS hb hmm hv=>exact JP hT k1 k2 k3 hb hmm (fun i kv e p q=>(hv i kv e p q).up _) k4
 ·rename_i r;have hr:=ho r;cases hm with
  |mref _ _ b hu ht hp =>
   split at hk
   ·rename_i sh BX e;rw[e]at hr;obtain⟨_,b',es,ck,a1,a2,a3,a4,a5,a6⟩:=hr;rw[a2]at hp;cases hp;obtain⟨kt,e,k1,k2,k3,k4⟩:=Mz hx hk;exact JP hT k1 k2 k3 a3 a4 (fun i kv e p q=>(a5 i kv e p q).up _) k4
   ·rename_i sh BX e;rw[e]at hr;obtain⟨_,b',es,ck,a1,a2,a3,a4,a5,a6⟩:=hr;rw[a2]at hp;cases hp;obtain⟨kt,e,k1,k2,k3,k4⟩:=Mz hx hk;exact JP hT k1 k2 k3 a3 a4 a5 k4
   ·rename_i sh BX e;rw[e]at hr;obtain⟨_,b',a1,a2⟩:=hr;rw[a1]at hp;cases hp;obtain⟨kt,e,k1,k2,k3,k4⟩:=Mz hx hk;cases a2 with
    |cmap _ _ _ _ es ck hS hb hmm hv=>exact JP hT k1 k2 k3 hb hmm (fun i kv e p q=>(hv i kv e p q).up _) k4
   ·exact hk.elim
 ·exact hk.elim
omit hT in
theorem OD{ty:Nat}{ok:Bool}{BX:List (Value×AV)}{kx:Value}(hk:LU T ty ok BX kx K):LV T ty ok BX kx K:=by
 unfold LU at hk;unfold LV;split at hk
 ·rename_i e;split at hk
  ·rcases hk with ⟨a,⟨h1,h2⟩,h3⟩ | ⟨h1,h2⟩
   ·exact⟨fun b hb=>by rw[h2 b hb];exact h3,fun hn=>absurd h1 (hn a)⟩
   ·exact⟨fun b hb=>absurd hb (h1 b),fun _=>h2⟩
  ·rcases hk with ⟨a,⟨h1,h2⟩,h3⟩ | ⟨h1,h2⟩
   ·exact⟨fun b hb=>by rw[h2 b hb];exact h3,fun hn=>absurd h1 (hn a)⟩
   ·exact⟨fun b hb=>absurd hb (h1 b),fun _=>h2⟩
 ·exact hk.elim
omit hT in
theorem My{ty:Nat}{sh:EE}{k:AV}{A B:Value→Prop}(hk:J6 T ty sh k A)(jd:∀x,A x→B x):J6 T ty sh k B:=by
 unfold J6 at *
 repeat' split at hk
 all_goals first | exact hk.elim | skip
 simp_all
omit hT in
theorem cE{ty:Nat}{m k:AV}{ok:Bool}(hk:MB T h ty m k ok K):MC T h ty m k ok K:=by
 unfold MB at hk;unfold MC;split at hk
 ·exact My hk fun _=>OD
 ·split at hk
  ·exact My hk fun _=>OD
  ·exact My hk fun _=>OD
  ·exact My hk fun _=>OD
  ·exact hk.elim
 ·exact hk.elim
theorem gA(ho:∀r,D6 g w (AP h) r (h r)){t ty:Nat}{x:AV}{vx:Value}(hx:BD g w (AP h) x vx)(hk:QN T t h x K):BF P h g w (Builtin.len_ #[t] ty #[vx]) K:=by
 unfold QN at hk;split at hk
 ·rename_i e ht;have hu:=hT.slice ht;have run:∀a n c,(Builtin.len_ #[t] ty #[.slice a n c]).run P w=.ok (.int .i64 n) w:=fun a n c=>by simp[Builtin.len_,run_underlying hu,goInt]
  split at hk
  ·have hs:=hx.slice_none;cases hs with
   |snil _ a cap=>exact⟨_,_,run a 0 cap,hk,.v _ _⟩
   |slice _ _ b off sz cap val hc=>exact⟨_,_,run _ _ _,hk,.v _ _⟩
  ·cases hx with
   |msl=>exact⟨_,_,run _ _ _,hk,.v _ _⟩
  ·obtain rfl:=hx.v_eq;exact⟨_,_,run _ _ _,hk,.v _ _⟩
  ·exact hk.elim
 ·rename_i ht;split at hk
  ·obtain rfl:=hx.v_eq;exact⟨_,_,by simp[Builtin.len_,run_underlying (hT.string ht),goInt],hk,.v _ _⟩
  ·exact hk.elim
 ·rename_i k e ht;have hu:=hT.map ht;have run:∀b es ck,w.heap[b]?=some (.map es ck)→(Builtin.len_ #[t] ty #[.map (some b)]).run P w=.ok (.int .i64 es.size) w:=fun b es ck hb=>by
   simp[Builtin.len_,run_underlying hu,goInt,run_getObj_map (P:=P) w b es ck hb]
  split at hk
  ·cases hx with
   |cmap _ _ _ b es ck hS hb hmm hv=>exact⟨_,_,run b es ck hb,by rw[hmm.1];exact hk,.v _ _⟩
  ·rename_i r;have hr:=ho r;cases hx with
   |mref _ _ b fZ ht' hp =>
    split at hk
    ·rename_i sh BX e;rw[e]at hr;obtain⟨_,b',es,ck,a1,a2,a3,a4,a5,a6⟩:=hr;rw[a2]at hp;cases hp;exact⟨_,_,run _ es ck a3,by rw[a4.1];exact hk,.v _ _⟩
    ·rename_i sh BX e;rw[e]at hr;obtain⟨_,b',es,ck,a1,a2,a3,a4,a5,a6⟩:=hr;rw[a2]at hp;cases hp;exact⟨_,_,run _ es ck a3,by rw[a4.1];exact hk,.v _ _⟩
    ·rename_i sh BX e;rw[e]at hr;obtain⟨_,b',a1,a2⟩:=hr;rw[a1]at hp;cases hp;cases a2 with
     |cmap _ _ _ _ es ck hS hb hmm hv=>exact⟨_,_,run _ es ck hb,by rw[hmm.1];exact hk,.v _ _⟩
    ·exact hk.elim
  ·exact hk.elim
 ·exact hk.elim
end
theorem Ws(ho:∀r,D6 g w (AP h) r (h r)){t:Nat→AV}{ρ:Operand→Value}(ht:∀x:Operand,BD g w (AP h) (ev t x) (ρ x)){fn:Fn}{first cap:Array Operand}(hk:Ku t h fn first.toList cap.toList K) :
  BF P h g w (Instr.makeFunc fn (first.map ρ) (cap.map ρ)) K:=by
 unfold Ku at hk;split at hk
 ·rename_i f e;have hf:first=#[]:=by
   apply NY;simpa using e
  subst hf;refine⟨_,_,rfl,hk,?_⟩;have e0:Array.map ρ (#[]:Array Operand)=#[]:=by simp
  rw[e0];refine .clo _ f (cap.toList.map fun x=>rsv h (ev t x)) (cap.map ρ) (by simp) (fun i av x h1 h2=>?_);rw[AG,AW]at h1;obtain⟨y,y1,rfl⟩:=h1;rw[NZ,AW]at h2;obtain⟨z,z1,rfl⟩:=h2
  have:y=z:=by
   have:=y1
   rw[A0,z1]at this;exact(Ct this).symm
  subst this;exact(ht y).rsv ho
 ·exact hk.elim
theorem Wu{x:AV}{vx:Value}(hx:BD g w (AP h) x vx)(hk:Ky x K){pos:String}{after:Array Edge}{gd:Option (Nat×Bool)}{dst:Option Tmp}{ty:Nat}{ρ:Operand→Value}{X:Operand}(hX:ρ X=vx) :
  (execOp ρ ⟨dst,.nilCheck X,ty,pos,after,gd⟩).run P w=.ok (.value vx) w∧K x:=by
 subst hX;unfold Ky at hk;split at hk
 all_goals first
  |exact hk.elim
  |(refine⟨?_,hk⟩;generalize hq:ρ X=q at hx;cases hx;simp[execOp,hq];done)
theorem bU(ho:∀r,D6 g w (AP h) r (h r)){x:AV}{vx:Value}(hx:BD g w (AP h) x vx)(hk:Y3 h x K):BF P h g w (Instr.entry vx) K:=by
 unfold Y3 at hk;split at hk
 ·rename_i r;have hr:=ho r;split at hk
  ·rename_i all rem kv e;rw[e]at hr;cases hx with
   |ref _ _ _ b hu ht hp =>
    obtain⟨_,b',mb,JT,seen,st,es,ck,a1,a2,a3,a4,a5,⟨sh,a6⟩,a7,a8,a9,WV,ZV,a12,mG⟩:=hr;rw[a2]at hp;cases hp;obtain⟨i,en,c1,c2,c3⟩:=a12;have qB:es.find? (fun e=>e.born == en.born)=some en:=by
     rw[Array.find?_eq_some_iff_getElem];obtain⟨DA,he⟩:=Bl.1 c2;refine⟨by simp,i,DA,he,fun j hj=>?_⟩;have fQ : j<es.size:=by omega
     simp only[CI,beq_eq_false_iff_ne,Vc];intro e'
     have:=a6.2.2.2.2.2 j i es[j] en (by simp[fQ]) c2 e'
     omega
    have hkey:=a6.2.1 i kv en c1 c2;refine⟨.tuple #[en.key,en.val],_,?_,hk,.tup _ _ _ rfl (fun k av y h1 h2=>?_)⟩
    ·have Ug:(getObj b).run P w=.ok (.mapIter (some mb) JT seen st) w:=by simp[getObj,Sem.run,a3]
     have fO:=run_getObj_map (P:=P) w mb es ck a5;simp[Instr.entry,Ug,c3,fO,a8,qB]
    ·match k,h1,h2 with
     |0,h1,h2=>simp at h1 h2;subst h1;subst h2;rw[hkey];exact .v _ _
     |1,h1,h2=>simp at h1 h2;subst h1;subst h2;exact(a9 i kv en c1 c2).up _
  ·exact hk.elim
 ·exact hk.elim
end
end Go.Eng
