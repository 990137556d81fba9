/- Lemmas for the claims of this seat, without a condition: part 7 (EngH, EngI, EngJ, EngK, EngL, EngM). -/
import Derived.Test.YtddfphmpfnmknaaGreatDoorDA06
import Derived.Laws.IdiomStrings
import Derived.Lib.BufferRead
namespace Go.Eng
section
variable {P:Program}{T:GK}(hT:Cz P T){h:Nat→HO}{g:Gh}{w:World}{K:AV→Prop}
section
include hT
theorem UJ{t:Nat}{x ix:AV}{vx vi:Value}(hx:BH g w (AT h) x vx)(hi:BH g w (AT h) ix vi)(hk:JA T t x ix K):BK P h g w (Instr.indexAt t vx vi) K:=by
 unfold JA at hk;split at hk
 ·rename_i e i ht;obtain rfl:=hi.v_eq;have hu:=hT.slice ht;split at hk
  ·exact hk.elim
  ·rename_i m hm;have CP:∀b off (len cap:Nat),0≤i→i<(len:Int)→(Instr.indexAt t (.slice (some ⟨b,off,none⟩) len cap) (.int .i64 i)).run P w=.ok (.pointer (some ⟨b,off+i.toNat*(T e).size,none⟩)) w:=fun b off len cap h0 h1=>by
    simp[Instr.indexAt,asIntOf,run_underlying hu,h0,h1,hT.size1 w hm,Addr.add_lit,hm]
   split at hk
   ·rename_i tk es;obtain⟨cs,⟨h0,h1⟩,h2,hk⟩:=hk;have hs:=hx.slice_none;have DB:=(As.1 h1).1;cases hs with
    |snil=>simp at h1
    |slice _ _ b off sz cap val hc hl DH Ep =>
     have Eh:sz=(T e).size:=by rw[←h2];exact(hl _ _ h1).symm
     subst Eh;refine⟨_,_,CP b off es.length cap h0 (by omega),hk,.cptr _ cs b _ (val i.toNat) (fun j av hj=>?_) (fun j av hj=>Ep _ _ _ _ h1 hj)⟩;exact DH _ _ _ _ h1 hj
   ·rename_i r n;obtain⟨⟨h0,h1⟩,hk⟩:=hk;cases hx with
    |msl _ _ _ a cap gP ht' hn ha LN =>
     rcases ha with rfl | ⟨b,rfl⟩
     ·omega
     ·refine⟨_,_,CP b 0 n cap h0 h1,hk,?_⟩;rw[Bl];exact .eref _ r n _ _ 0 b cap gP ht' ⟨by omega,hn⟩ (fun e=>(LN e).symm)
   ·exact hk.elim
 ·rename_i n e i ht;obtain rfl:=hi.v_eq;have hu:=hT.array ht;split at hk
  ·exact hk.elim
  ·rename_i m hm;have CP:∀b off,0≤i→i<(n:Int)→(Instr.indexAt t (.pointer (some ⟨b,off,none⟩)) (.int .i64 i)).run P w=.ok (.pointer (some ⟨b,off+i.toNat*(T e).size,none⟩)) w:=fun b off h0 h1=>by
    simp[Instr.indexAt,asIntOf,run_underlying hu,h0,h1,hT.size1 w hm,Addr.add_lit,hm,Instr.sureAddr]
   split at hk
   ·cases hx with
    |cptr _ _ b off val DH Ep=>exact⟨_,_,CP b off hk.1.1 hk.1.2,hk.2,(BH.cptr _ _ b off val DH Ep).cptr_drop _⟩
   ·rename_i r off;cases hx with
    |ref _ _ _ b hu ht hp=>exact⟨_,_,CP b off hk.1.1 hk.1.2,hk.2,.ref _ r _ b hu ht hp⟩
   ·exact hk.elim
 ·exact hk.elim
theorem cM{t:Nat}{x ix:AV}{vx vi:Value}(hx:BH g w (AT h) x vx)(hi:BH g w (AT h) ix vi)(hk:TA T t x ix K):BK P h g w (Instr.index t vx vi) K:=by
 unfold TA at hk;split at hk
 ·rename_i s i ht;obtain rfl:=hx.v_eq;obtain rfl:=hi.v_eq;obtain⟨b,⟨h0,h1⟩,hk⟩:=hk;refine BK.val (x:=.int .u8 b.toNat) ?_ hk;have h2:s[i.toNat]?=some b:=by
   have:=(Bw.1 h1)
   obtain⟨l1,l2⟩:=this;have uu : i.toNat<s.size:=l1;rw[getElem?_pos s i.toNat uu];exact Ac some l2
  simp[Instr.index,asIntOf,run_underlying (hT.string ht),h0,h2]
 ·rename_i n e cs i ht;obtain rfl:=hi.v_eq;obtain⟨⟨h0,h1⟩,hk⟩:=hk;cases hx with
  |agg _ _ xs a1 a2 a3 =>
   have hd:(T e).d≠.other:=by
    intro e';unfold YK LG at hk;rw[e']at hk;exact hk.elim
   obtain⟨y,av,p1,p2,p3⟩:=YL hT (Xo.of_agg (.agg _ _ xs a1 a2 a3) _) hk;refine⟨y,av,?_,p2,p3⟩;simp[Instr.index,asIntOf,run_underlying (hT.array ht),h0,h1,hT.size w hd,p1]
 ·exact hk.elim
theorem fD{s t:Nat}{x:AV}{vx:Value}(hx:BH g w (AT h) x vx)(hk:XE T s t x K):BK P h g w (convert s t vx) K:=by
 unfold XE at hk;split at hk
 ·rename_i k n h1 h2;obtain rfl:=hx.v_eq;refine BK.val (x:=.int .i64 n) ?_ hk.2;have hw:=M4 hk.1;simp[convert,run_underlying (hT.int h1),run_underlying (hT.int h2),Conv.intToInt,hw]
 ·rename_i k k' m n DF h1 h2;obtain rfl:=hx.v_eq;refine BK.val (x:=.int k' (k'.wrap n)) ?_ hk;simp[convert,run_underlying (hT.int h1),run_underlying (hT.int h2),Conv.intToInt]
 ·rename_i s' h1 h2;obtain rfl:=hx.v_eq;refine BK.val (x:=.string s') ?_ hk;simp[convert,run_underlying (hT.string h1),run_underlying (hT.string h2)]
 ·rename_i e tk es h1 h2;split at hk
  ·rename_i h3;obtain⟨l,rfl,hk⟩:=hk;have hr:=hx.slice_none;refine BK.val (x:=.string ⟨l.toArray⟩) ?_ hk;generalize hes:l.map (fun b=>[AV.v (.int .u8 b.toNat)])=es at hr;cases hr with
   |snil _ a cap =>
    have hl:l=[]:=by cases l with | nil=>rfl | cons b l=>cases hes
    subst hl;cases a with
    |none=>exact Lib.run_convert_nil_bytes w s t e cap (hT.slice h1) (hT.int h3) (hT.string h2)
    |some a=>exact run_convert_bytes_back w s t e a cap [] (hT.slice h1) (hT.int h3) (hT.string h2) (fun j hj=>by simp at hj)
   |slice _ _ b off sz cap val hc hl DH Ep =>
    have CB:l.length=es.length:=by rw[←hes];simp
    have:=run_convert_bytes_back (P:=P) w s t e ⟨b,off,none⟩ cap l (hT.slice h1) (hT.int h3) (hT.string h2) (fun j hj=>by
     have hg:es[j]?=some [AV.v (.int .u8 l[j].toNat)]:=by rw[←hes,AI,Ax hj];rfl
     have RM:sz=1:=(hl j _ hg).symm;have h4:=DH j _ 0 _ hg rfl;have h5:=Ep j _ 0 _ hg rfl;rw[Addr.add_lit];rw[RM,Nat.mul_one,HA]at h4;rw[h4.2.1,h5.v_eq])
    rw[CB]at this;exact this
  ·exact hk.elim
 ·exact hk.elim
end
theorem ju{op:UnOp}{x:AV}{vx:Value}(hx:BH g w (AT h) x vx)(hk:YY op x K):BK P h g w (Op.unary op vx) K:=by
 unfold YY at hk;split at hk
 ·unfold di at hk;split at hk
  ·obtain rfl:=hx.v_eq;exact BK.val (x:=.bool false) (by simp[Op.unary]) hk
  ·obtain rfl:=hx.v_eq;exact BK.val (x:=.bool true) (by simp[Op.unary]) hk
  ·exact hk.elim
 ·rename_i a;obtain rfl:=hx.v_eq;refine BK.val (x:=.int .i64 (-a)) ?_ hk.2
  have:=M4 hk.1
  simp[Op.unary,Op.intArith,this]
 ·obtain rfl:=hx.v_eq;exact BK.val (by simp[Op.unary,Op.intBits,U3]) hk
 ·exact hk.elim
theorem YC:∀{l:List AV} {j:Nat} {a:AV},lx l j=some a→l[j]?=some a
 | [],j,a,h=>by cases h
 |b::r,0,a,h=>by simpa[lx]using h
 |b::r,j+1,a,h=>by simpa using YC (l:=r) (j:=j) h
theorem XQ{i:Nat}{x:AV}{vx:Value}(hx:BH g w (AT h) x vx)(hk:L3 x i K):BK P h g w (Instr.extract vx i) K:=by
 unfold L3 at hk;split at hk
 ·rename_i cs;cases hx with
  |tup _ _ vs hs hh =>
   split at hk
   ·rename_i a ha;have hc:=YC ha;have hi:i<vs.size:=by rw[hs];exact(As.1 hc).1
    exact⟨vs[i],_,by simp[Instr.extract,hi],hk,hh _ _ _ hc (by simp[hi])⟩
   ·exact hk.elim
 ·exact hk.elim
theorem iN{c a b:AV}{vc va vb:Value}(hc:BH g w (AT h) c vc)(ha:BH g w (AT h) a va)(hb:BH g w (AT h) b vb)(hk:YM c a b K) :
  BK P h g w (do pure (if ←asBool vc then va else vb)) K:=by
 unfold YM at hk;split at hk
 ·obtain rfl:=hc.v_eq;exact⟨va,a,by simp[asBool],hk,ha⟩
 ·obtain rfl:=hc.v_eq;exact⟨vb,b,by simp[asBool],hk,hb⟩
 ·exact hk.elim
theorem lj{t:Nat}{GZ:Array TypeId}{x y:AV}{vx vy:Value}(hx:BH g w (AT h) x vx)(hy:BH g w (AT h) y vy)(hk:lm max x y K):BK P h g w (Builtin.max_ GZ t #[vx,vy]) K:=by
 unfold lm at hk;split at hk
 ·rename_i k a k' b;split at hk
  ·obtain rfl:=hx.v_eq;obtain rfl:=hy.v_eq;refine BK.val (x:=.int k (max a b)) ?_ hk;simp[Builtin.max_,Builtin.max2];omega
  ·exact hk.elim
 ·exact hk.elim
theorem ll{t:Nat}{GZ:Array TypeId}{x y:AV}{vx vy:Value}(hx:BH g w (AT h) x vx)(hy:BH g w (AT h) y vy)(hk:lm min x y K):BK P h g w (Builtin.min_ GZ t #[vx,vy]) K:=by
 unfold lm at hk;split at hk
 ·rename_i k a k' b;split at hk
  ·obtain rfl:=hx.v_eq;obtain rfl:=hy.v_eq;refine BK.val (x:=.int k (min a b)) ?_ hk;simp[Builtin.min_,Builtin.min2];omega
  ·exact hk.elim
 ·exact hk.elim
end
theorem CI.at{g:Gh}{w:World}{U:Nat→Prop}{cs:List AV}{vs:List Value}(h:CI g w U cs vs){i:Nat}{av:AV}(hi:cs[i]?=some av):∃x,vs[i]?=some x∧x.oneCell'=true∧BH g w U av x:=by
 have DB:i<vs.length:=by rw[h.1];exact(As.1 hi).1
 exact⟨vs[i],Ax DB,h.2.1 _ (At DB),h.2.2 i av _ hi (Ax DB)⟩
theorem Fr{α:Type}{n:Nat}:∀{es:List (List α)},(∀c∈es,c.length=n)→∀{i j:Nat} {c:List α},es[i]?=some c→j<n→es.flatten[i*n+j]?=c[j]?
 | [],_,i,j,c,h,_=>by simp at h
 |d::es,hl,0,j,c,h,hj=>by
  simp at h;subst h
  have:=hl d (Ab ..)
  rw[BC,A2 (by omega)]
  congr 1;omega
 |d::es,hl,i+1,j,c,h,hj=>by
  have hd:=hl d (Ab ..);rw[BC,AW (by rw[hd,D5];omega)];rw[show(i+1)*n+j-d.length=i*n+j by rw[hd,D5];omega];exact Fr (fun c hc=>hl c (Ai _ hc)) (by simpa using h) hj
theorem Dp{α:Type}{n:Nat}:∀{es:List (List α)},(∀c∈es,c.length=n)→es.flatten.length=es.length*n
 | [],_=>by simp
 |d::es,hl=>by
  rw[BC,Ae,hl d (Ab ..),Dp (fun c hc=>hl c (Ai _ hc)),Az,D5,Nat.add_comm]
section
variable {P:Program}{T:GK}(hT:Cz P T){h:Nat→HO}{g:Gh}{w:World}{K:AV→Prop}(ho:∀r,Ej g w (AT h) r (h r))
include ho
theorem Vy(hT:Cz P T){t:Nat}{p:AV}{vp:Value}(hp:BH g w (AT h) p vp)(hk:Iq T h t p K):BK P h g w (Instr.loadAt t vp) K:=by
 have Uq:∀b off,BK P h g w (loadVar t ⟨b,off,none⟩) K→BK P h g w (Instr.loadAt t (.pointer (some ⟨b,off,none⟩))) K:=by
  rintro b off ⟨x,av,h1,h2,h3⟩
  exact⟨x,av,by simp[Instr.loadAt,Instr.sureAddr,h1],h2,h3⟩
 unfold Iq at hk;split at hk
 ·cases hp with
  |cptr _ _ b off val DH Ep=>exact Uq b off (Ml hT (HD.of_cptr (.cptr Fy _ b off val DH Ep) _) hk)
 ·rename_i r off;have hr:=ho r;cases hp with
  |ref _ _ _ b hu ht hx =>
   split at hk
   ·rename_i cs e;rw[e]at hr;obtain⟨_,b',E,vs,a1,a2,a3,a4,a5⟩:=hr;rw[a2]at hx;cases hx
    have:=(HD.of_row a3 a4).drop off
    rw[Bl]at this;exact Uq b off (Ml hT this hk)
   ·rename_i cs e;rw[e]at hr;obtain⟨_,b',a1,a2⟩:=hr;rw[a1]at hx;cases hx
    have:=(HD.of_cptr a2 (AT h)).drop off
    rw[Bl]at this;exact Uq b off (Ml hT this hk)
   ·exact hk.elim
 ·rename_i r n sz i off;have hr:=ho r;cases hp with
  |eref _ _ _ _ _ _ b cap hu ht hn hx =>
   split at hk
   ·rename_i GI es e;rw[e]at hr;split at hk
    ·rename_i hz;obtain rfl:=AM hz;obtain⟨CB,cs,h1,hk⟩:=hk;obtain⟨t1,l1,al,a1⟩:=hr;have DB:=(As.1 h1).1;rcases a1 with ⟨rfl,_⟩ | ⟨b',K8,E,vs,e1,e2,e3,e4,e5,e6,e7⟩
     ·simp at h1
     ·have:=hx (CB.trans l1.symm)
      rw[e1]at this;simp only[Value.slice.injEq,Bo,Addr.mk.injEq]at this;obtain⟨⟨rfl,_,_⟩,_,_⟩:=this;refine Uq _ _ (Ml hT (cs:=cs.drop off) (fun j av hj=>?_) hk);rw[DD]at hj;have hcl:=al cs (Av h1);have rN:off+j<sz:=by rw[←hcl];exact(As.1 hj).1
      have hf:=Fr al h1 rN;rw[hj]at hf;obtain⟨x,x1,x2,x3⟩:=e6.at hf;refine⟨x,?_,x2,x3.up _⟩;rw[FQ e4];have oz:i*sz+(off+j)<es.length*sz:=by
       have:=Bh sz (show i+1≤es.length from DB)
       rw[D5]at this;omega
      rw[BI oz]at x1;rw[←GJ]at x1;simpa using x1
    ·exact hk.elim
   ·rename_i GI es i' c av e;rw[e]at hr;split at hk
    ·rename_i hz;obtain rfl:=AM hz;obtain⟨⟨CB,rfl,rfl⟩,hk⟩:=hk;obtain⟨t1,l1,al,b',K8,E,vs,e1,e2,e3,e4,e5,e6,e7,e8,x,e9,qT⟩:=hr
     have:=hx (CB.trans l1.symm)
     rw[e1]at this;simp only[Value.slice.injEq,Bo,Addr.mk.injEq]at this;obtain⟨⟨rfl,_,_⟩,_,_⟩:=this;refine Uq _ _ (Ml hT (cs:=[av]) (fun j a' hj=>?_) hk);cases j with
     |succ j=>simp at hj
     |zero =>
      simp only[A8,Bo]at hj;subst hj;refine⟨x,by rw[FQ e4];simpa using e9,?_,qT⟩;have hm:x∈vs.toList.take (es.length*sz):=by
       have h9:vs.toList[i*sz+off]?=some x:=by simpa using e9
       exact Av (by rw[BI e8];exact h9)
      exact e6.2.1 x hm
    ·exact hk.elim
   ·exact hk.elim
 ·exact hk.elim
end
theorem FV{α:Type}:∀(cs:List α) (o:Nat) (vs:List α),(over cs o vs).length=cs.length
 | [],_,_=>rfl
 |c::cs,o+1,vs=>by simp[over,FV cs o vs]
 |c::cs,0,[]=>rfl
 |c::cs,0,v::vs=>by simp[over,FV cs 0 vs]
theorem FU{α:Type}:∀(cs:List α) (o:Nat) (vs:List α) (i:Nat),o+vs.length≤cs.length→(over cs o vs)[i]?=if o≤i∧i<o+vs.length then vs[i-o]? else cs[i]?
 | [],o,vs,i,h=>by
  simp at h;obtain⟨rfl,rfl⟩:=h;simp[over]
 |c::cs,o+1,vs,0,h=>by simp[over]
 |c::cs,o+1,vs,i+1,h=>by
  have:=FU cs o vs i (by simp at h;omega)
  simp only[over,Ez,this]
  by_cases hc:o≤i∧i<o+vs.length
  ·rw[Ap hc,Ap (by omega)];congr 1;omega
  ·rw[Aj hc,Aj (by omega)]
 |c::cs,0,[],i,h=>by
  have:¬(0≤i∧i<0+([]:List α).length):=by simp
  rw[Aj this];rfl
 |c::cs,0,v::vs,0,h=>by simp[over]
 |c::cs,0,v::vs,i+1,h=>by
  have:=FU cs 0 vs i (by simp at h;omega)
  simp only[over,Ez,this]
  by_cases hc:0≤i∧i<0+vs.length
  ·rw[Ap hc,Ap (by simp;omega)];simp
  ·rw[Aj hc,Aj (by simp at hc⊢;omega)]
theorem CI.over{g:Gh}{w:World}{U:Nat→Prop}{cs UA:List AV}{xs vs:List Value}(h:CI g w U cs xs)(k:CI g w U UA vs)(o:Nat)(He:o+UA.length≤cs.length) :
  CI g w U (Eng.over cs o UA) (Eng.over xs o vs):=by
 have rT : o+vs.length≤xs.length:=by rw[k.1,h.1];exact He
 refine⟨by rw[FV,FV,h.1],fun x hx=>?_,fun i av x h1 h2=>?_⟩
 ·obtain⟨i,hi⟩:=B9.1 hx;rw[FU _ _ _ _ rT]at hi;split at hi
  ·exact k.2.1 _ (Av hi)
  ·exact h.2.1 _ (Av hi)
 ·rw[FU _ _ _ _ He]at h1;rw[FU _ _ _ _ rT,k.1]at h2;split at h1
  ·rename_i hc;rw[Ap hc]at h2;exact k.2.2 _ _ _ h1 h2
  ·rename_i hc;rw[Aj hc]at h2;exact h.2.2 _ _ _ h1 h2
theorem o9{g:Gh}{w:World}{U:Nat→Prop}{a:AV}{x:Value}(h:BH g w U a x)(h1:one a=true):x.oneCell'=true:=by
 cases h with
 |v=>exact h1
 |tok _ r sz es _ h=>cases h with
  |snil=>rfl
  |slice=>rfl
 |ver _ r sz v es _ h=>cases h with
  |snil=>rfl
  |slice=>rfl
 |full _ sz es _ h=>cases h with
  |snil=>rfl
  |slice=>rfl
 |_=>first |rfl |(cases h1;done)
theorem dq{x:Value}(h:x.oneCell'=true):x.cells=#[x]:=by
 cases x<;>first | rfl | (simp[Value.oneCell']at h)
theorem MJ{g:Gh}{w:World}{U:Nat→Prop}{n:Nat}{a:AV}{K:List AV→Prop}{x:Value}(h:BH g w U a x)(hk:Hc n a K) :
  ∃cs,K cs∧cs.length=n∧CI g w U cs x.cells.toList:=by
 have single:one a=true→n=1→K [a]→∃cs,K cs∧cs.length=n∧CI g w U cs x.cells.toList:=by
  intro h1 hn hk;have hx:=o9 h h1;rw[dq hx];refine⟨[a],hk,hn.symm,rfl,by simpa using hx,fun i av y e1 e2=>?_⟩;cases i with
  |zero=>simp at e1 e2;subst e1;subst e2;exact h
  |succ i=>simp at e1
 unfold Hc at hk;split at hk
 ·rename_i cs;split at hk
  ·rename_i hl;cases h with
   |agg _ _ vs hs h1 hr =>
    refine⟨cs,hk,AM hl,by simpa[Value.cells]using hs,fun y hy=>?_,fun i av y e1 e2=>?_⟩
    ·obtain⟨i,hi⟩:=B9.1 hy;exact h1 i y (by simpa[Value.cells]using hi)
    ·exact hr i av y e1 (by simpa[Value.cells]using e2)
  ·exact hk.elim
 ·split at hk
  ·rename_i h1;split at hk
   ·exact single h1 rfl hk
   ·exact hk.elim
  ·exact hk.elim
theorem NQ:∀(vs:List Value) (k o:Nat) (cs:Array Value),o+k+vs.length≤cs.size →
  ((vs.zipIdx k).foldl (fun(cs:Array Value) (p:Value×Nat)=>cs.setIfInBounds (o+p.2) p.1) cs).toList=over cs.toList (o+k) vs
 | [],k,o,cs,_=>by
  have:∀(l:List Value) (o:Nat),over l o []=l:=by
   intro l
   induction l with
   |nil=>intro o;rfl
   |cons c l ih=>intro o;cases o with
    |zero=>rfl
    |succ o=>simp[over,ih]
  simp[this]
 |v::vs,k,o,cs,h=>by
  simp at h;rw[List.zipIdx_cons,Eo,NQ vs (k+1) o _ (by simp;omega)];simp only[Array.toList_setIfInBounds];apply Dj;intro i;rw[FU _ _ _ _ (by simp;omega),FU _ _ _ _ (by simp;omega)];simp only[Az,List.getElem?_set]
  by_cases h1:i=o+k
  ·subst h1;rw[Aj (by omega),Ap (by omega)];have DB:o+k<cs.size:=by omega
   simp[DB]
  ·by_cases h2:o+k≤i∧i<o+k+(vs.length+1)
   ·rw[Ap (by omega),Ap h2,show i-(o+k)=(i-(o+(k+1)))+1 by omega];simp
   ·rw[Aj (by omega),Aj (by omega),Aj h2]
theorem Tb{g:Gh}{w:World}{U:Nat→Prop}{t:Nat→AV}{ρ:Operand→Value}(ht:∀x:Operand,BH g w U (ev t x) (ρ x)){pl pl' : Nat→Option (Nat×Nat)}(r8:∀i p,pl i=some p→pl' i=some p) :
  ∀{ps:List (Nat×Operand)} {cs:List AV} {xs:Array Value} {K:List AV→Prop},CI g w U cs xs.toList→KG pl cs t ps K →
   ∃Zp Wa,K Zp∧CI g w U Zp Wa.toList∧Instr.fill pl' xs (ps.map fun(i,x)=>(i,ρ x))=some Wa
 | [],cs,xs,K,h,hk=>⟨cs,xs,hk,h,rfl⟩
 |(i,x)::ps,cs,xs,K,h,hk=>by
  unfold KG at hk;split at hk
  ·exact hk.elim
  ·rename_i o n hp;obtain⟨UA,hk,hn,hr⟩:=MJ (ht x) hk;split at hk
   ·rename_i He;have He:=H9 He;have Eh:(ρ x).cells.size=n:=by rw[←hn];simpa using hr.1
    have jN:cs.length=xs.size:=by simpa using h.1.symm
    have E6:=h.over hr o (by rw[hn];exact He);have e:=NQ (ρ x).cells.toList 0 o xs (by simp[Eh];omega);simp only[HA]at e;rw[←e]at E6;obtain⟨Zp,Wa,k1,k2,k3⟩:=Tb ht r8 E6 hk;refine⟨Zp,Wa,k1,k2,?_⟩;simp only[AP,Instr.fill,r8 _ _ hp];have e2:(ρ x).cells.zipIdx.foldl (fun cs (c,j)=>cs.setIfInBounds (o+j) c) xs=((ρ x).cells.toList.zipIdx 0).foldl (fun(cs:Array Value) (p:Value×Nat)=>cs.setIfInBounds (o+p.2) p.1) xs:=by
     rw[←Array.foldl_toList];simp
    rw[Aj (by simp[Eh];omega),e2];exact k3
   ·exact hk.elim
theorem MC:∀{l:List AV},Hb l=true→∀a∈l,one a=true
 | [],_,a,h=>by cases h
 |b::r,h,a,ha=>by
  unfold Hb at h;split at h
  ·rename_i hb;rcases AA.1 ha with rfl | ha
   ·exact hb
   ·exact MC h a ha
  ·cases h
theorem CI.vals{g:Gh}{w:World}{U:Nat→Prop}{vs:List Value}(h:Hb (vs.map .v)=true):CI g w U (vs.map .v) vs:=by
 refine⟨by simp,fun x hx=>?_,fun i av x h1 h2=>?_⟩
 ·have:=MC h (.v x) (Am.2 ⟨x,hx,rfl⟩)
  simpa[one]using this
 ·rw[AI,h2]at h1;simp at h1;subst h1;exact .v _ _
section
variable {P:Program}{T:GK}(hT:Cz P T){h:Nat→HO}{g:Gh}{w:World}{K:AV→Prop}
theorem Yt{α β:Type}(P:Program)(w:World)(f:α→Sem β)(f' : α→β):∀(l:List α),(∀a∈l,(f a).run P w=.ok (f' a) w)→(l.mapM f).run P w=.ok (l.map f') w
 | [],_=>rfl
 |a::l,h=>by
  have h1:=h a (Ab ..);have h2:=Yt P w f f' l (fun b hb=>h b (Ai _ hb));simp[List.mapM_cons,Sem.run_bind,h1,h2]
theorem QU:∀{fs:List (Nat×Nat)},Ow T fs=true→∀p∈fs,∃n,(T p.1).size=n+1
 | [],_,p,h=>by cases h
 |(t,o)::r,h,p,hp=>by
  unfold Ow at h;split at h
  ·cases h
  ·rename_i n hn;rcases AA.1 hp with rfl | hp
   ·exact⟨n,hn⟩
   ·exact QU h p hp
include hT
theorem PJ{t:Nat}(hd:(T t).d≠.other):∃z,(zeroValue t).run P w=.ok z w∧(T t).zc=z.cells.toList∧(T t).zero=z:=by
 obtain⟨d,i,z,h1,h2,h3,h4,h5,h6,h7,h8⟩:=hT.get hd;exact⟨z,by simp[zeroValue,typeInfo,h3,h4],by rw[TI.zc_cells,h7],h7⟩
theorem Wc{t n:Nat}(h:(T t).size=n+1):∃z,(zeroValue t).run P w=.ok z w∧(T t).zc=z.cells.toList:=by
 rcases hT t with e | e
 ·rw[e]at h;cases h
 unfold dS at e;split at e
 ·split at e
  ·rename_i d i h1 h2 _ z h3;exact⟨z,by simp[zeroValue,typeInfo,h2,h3],by rw[TI.zc_cells,e]⟩
  ·rw[e]at h;cases h
 ·rw[e]at h;cases h
theorem bX{ty:Nat}{t:Nat→AV}{ρ:Operand→Value}(ht:∀x:Operand,BH g w (AT h) (ev t x) (ρ x)){ps:Array (Nat×Operand)}(hk:PR T ty t ps.toList K) :
  BK P h g w (Instr.build ty (ps.map fun(i,x)=>(i,ρ x))) K:=by
 unfold PR at hk;split at hk
 ·exact hk.elim
 ·rename_i RM;have fin:∀(Zp : List AV) (Wa : Array Value),CI g w (AT h) Zp Wa.toList→BH g w (AT h) (.agg Zp) (.agg Wa):=fun Zp Wa hr =>
   .agg _ _ _ (by simpa using hr.1) (fun i x hx=>hr.2.1 x (Av (by simpa using hx))) (fun i av x h1 h2=>hr.2.2 i av x h1 (by simpa using h2))
  split at hk
  ·rename_i fs hs;have hd:(T ty).d≠.other:=by rw[hs];simp
   obtain⟨z,z1,z2,_⟩:=PJ hT (w:=w) hd;split at hk
   ·exact hk.elim
   ·rename_i Eh;obtain⟨fa,u1,u2,u3⟩:=hT.struct hs;have kR:(fa.mapM fun(f:Field)=>(do pure (f.offset,←sizeOf f.type):Sem (Nat×Nat))).run P w=.ok (fa.map fun f=>(f.offset,(T f.type).size)) w:=by
     rw[Array.mapM_eq_mapM_toList]
     have:=Yt P w (fun f:Field=>(do pure (f.offset,←sizeOf f.type):Sem (Nat×Nat))) (fun f=>(f.offset,(T f.type).size)) fa.toList (fun f hf=>by
      obtain⟨n,hn⟩:=QU Eh (f.type,f.offset) (by rw[u2];exact Am.2 ⟨f,hf,rfl⟩);simp[hT.size1 w hn,hn])
     simp only[Sem.run_map,this,Result.andThen_ok]
     congr 1
     apply Ol;simp
    rw[z2]at hk RM;obtain⟨Zp,Wa,k1,k2,k3⟩:=Tb ht (pl':=fun i=>(fa.map fun f=>(f.offset,(T f.type).size))[i]?) (fun i p hp=>by
     split at hp
     ·rename_i t' o hf;cases hp;obtain⟨fa',fd,v1,v2,rfl,rfl⟩:=Tf hT hs hf;rw[u1]at v1;cases v1;simp[v2]
     ·cases hp) (CI.vals (vs:=z.cells.toList) RM) hk
    refine⟨_,_,?_,k1,fin Zp Wa k2⟩;simp only[Instr.build,Sem.run_bind,z1,Result.andThen_ok,run_underlying u1,kR];have e3:(Array.map (fun x:Nat×Operand=>match x with | (i,x)=>(i,ρ x)) ps).toList=ps.toList.map fun(i,x)=>(i,ρ x):=by simp
    rw[e3];rw[k3]
    rfl
  ·rename_i n e hs;have hd:(T ty).d≠.other:=by rw[hs];simp
   obtain⟨z,z1,z2,_⟩:=PJ hT (w:=w) hd;split at hk
   ·exact hk.elim
   ·rename_i m hm;rw[z2]at hk RM;obtain⟨Zp,Wa,k1,k2,k3⟩:=Tb ht (pl':=fun i=>some (i*(T e).size,(T e).size)) (fun i p hp=>hp) (CI.vals (vs:=z.cells.toList) RM) hk;refine⟨_,_,?_,k1,fin Zp Wa k2⟩;simp only[Instr.build,Sem.run_bind,z1,Result.andThen_ok,run_underlying (hT.array hs),hT.size1 w hm];have e3:(Array.map (fun x:Nat×Operand=>match x with | (i,x)=>(i,ρ x)) ps).toList=ps.toList.map fun(i,x)=>(i,ρ x):=by simp
    rw[e3];simp only[hm]at k3;rw[k3]
    rfl
  ·exact hk.elim
end
theorem lg{a b:KS}(h:lf a b=true):a=b:=by
 cases a<;>cases b<;>first | rfl | (simp[lf]at h;done) | (simp only[lf]at h;obtain rfl:=Kj h;rfl)
theorem Yo:∀{a b:List KS},TK a b=true→a=b
 | [],[],_=>rfl
 |x::a,y::b,h=>by
  unfold TK at h;split at h
  ·rename_i e;obtain rfl:=lg e;obtain rfl:=Yo h;rfl
  ·cases h
 | [],_::_,h=>by simp[TK]at h
 |_::_,[],h=>by simp[TK]at h
theorem l6{a b:ET}(h:pp a b=true):a=b:=by
 obtain⟨a1,a2⟩:=a;obtain⟨b1,b2⟩:=b;cases a1<;>cases b1<;>simp only[pp]at h<;>first | (obtain rfl:=Yo h;rfl) | cases h
section
variable {P:Program}{T:GK}(hT:Cz P T)
include hT
def Kt(P:Program)(w:World)(b:Bool)(d t:Nat)(xs:Array Value)(o:Nat):Prop :=
 (do let a ←part t xs o;Instr.checkKey b d t a).run P w=.ok () w
theorem SL(w:World)(b:Bool):∀(n t:Nat) (l:List KS),HL T n t=some l→∀d,n≤d→∀(xs:Array Value) (o:Nat),Jj l (Ih xs.toList o l.length)=true→Kt P w b d t xs o
 |0,t,l,h=>by simp[HL]at h
 |n+1,t,l,h=>by
  intro d hd xs o hx;obtain⟨d,rfl⟩:∃d',d=d'+1:=⟨d-1,by omega⟩;have scalar:∀k,(T t).d≠.other→JP (T t).d=false→l=[k]→(∀x,Nt k x=true→(Instr.checkKey b (d+1) t x).run P w=.ok () w)→Kt P w b (d+1) t xs o:=by
   rintro k ZD hs rfl hk
   obtain⟨x,x1,x2,x3⟩:=Ls hx;unfold Kt;simp[Sem.run_bind,DV hT w ZD hs xs o _ x1,hk x x2]
  unfold HL at h;split at h
  ·rename_i k hk;split at h
   ·cases h
    refine scalar _ (by rw[hk];simp) (by rw[hk];rfl) rfl (fun x hx=>?_);cases x<;>simp[Nt]at hx
    simp[Instr.checkKey,run_underlying (hT.int hk)]
   ·cases h
  ·rename_i hk;split at h
   ·cases h
    refine scalar _ (by rw[hk];simp) (by rw[hk];rfl) rfl (fun x hx=>?_);cases x<;>simp[Nt]at hx
    simp[Instr.checkKey,run_underlying (hT.string hk)]
   ·cases h
  ·rename_i hk;split at h
   ·cases h
    refine scalar _ (by rw[hk];simp) (by rw[hk];rfl) rfl (fun x hx=>?_);cases x<;>simp[Nt]at hx
    simp[Instr.checkKey,run_underlying (hT.bool hk)]
   ·cases h
  ·rename_i fs hk;split at h
   ·split at h
    ·rename_i l' HC;split at h
     ·rename_i CB;cases h;have CB:=AM CB;have ZD:(T t).d≠.other:=by rw[hk];simp
      have hs:JP (T t).d=true:=by rw[hk];rfl
      obtain⟨fa,u1,u2,u3⟩:=hT.struct hk;rw[u2]at HC;have ex:(xs.extract o (o+(T t).size)).toList=Ih xs.toList o l.length:=by
       rw[←CB];simp[Ih]
      have s0:Ih (Ih xs.toList o l.length) 0 l.length=Ih xs.toList o l.length:=by
       rw[bA _ _ _ _ _ (by omega)];rfl
      unfold Kt;simp only[Sem.run_bind,GQ hT w ZD hs,Result.andThen_ok];have ih:=SL w b n;have hq:Jj l (Ih (xs.extract o (o+(T t).size)).toList 0 l.length)=true:=by rw[ex,s0];exact hx
      generalize xs.extract o (o+(T t).size)=ys at hq;simp only[Instr.checkKey,Sem.run_bind,run_underlying u1,Result.andThen_ok];rw[←Array.forIn_toList]
      clear u2 hk
      have key : ∀ (fl : List Field) (m : Nat) (l : List KS), NP (HL T n) m (fl.map fun f => (f.type, f.offset)) = some l → (∀ f ∈ fl, f.name ≠ "_") → Jj l (Ih ys.toList m l.length) = true →
        (forIn fl PUnit.unit (fun (f : Field) (_ : PUnit) => ((if f.name ≠ "_" then (do
         let x ←part f.type ys f.offset
         Instr.checkKey b d f.type x
         pure (ForInStep.yield PUnit.unit))else pure (ForInStep.yield PUnit.unit)):Sem (ForInStep PUnit)))).run P w=.ok PUnit.unit w:=by
       intro fl
       induction fl with
       |nil=>intro m l _ _ _;rfl
       |cons f fl ihf =>
        intro m l hg hn hy;obtain⟨ho,a,c,ha,hc,rfl⟩:=Np hg;rw[Ae]at hy;obtain⟨y1,y2⟩:=Sb hy;rw[Pz _ _ _ _ (by omega)]at y1;rw[Py,G0]at y2;have h1:=ih f.type a ha d (by omega) ys m y1;unfold Kt at h1;rw[List.forIn_cons];simp only[Sem.run_bind,Ap (hn f (Ab ..))];simp only[Sem.run_bind]at h1;rw[ho];generalize (part f.type ys m).run P w=r1 at h1⊢;cases r1 with
        |halt x w1=>cases h1
        |ok u w1 =>
         simp only[Result.andThen_ok]at h1⊢;rw[h1];simp only[Result.andThen_ok,Sem.run_pure];exact ihf (m+a.length) c hc (fun f hf=>hn f (Ai _ hf)) y2
      rw[key fa.toList 0 l HC u3 hq]
      rfl
     ·cases h
    ·cases h
   ·cases h
  ·cases h
theorem jg{kt:Nat}{sh:ET}(hs:H5 T kt=some sh)(w:World){x y:Value}(hx:VN sh x=true)(hy:VN sh y=true) :
  ∃b:Bool,(Op.equal kt x y).run P w=.ok b w∧(b=true↔x=y):=by
 unfold H5 at hs;split at hs
 ·rename_i fs hk;split at hs
  ·rename_i l hl;cases hs;cases x<;>simp only[VN]at hx<;>try (cases hx;done)
   cases y<;>simp only[VN]at hy<;>try (cases hy;done)
   rename_i xs ys;have hd:(T kt).d≠.other:=by rw[hk];simp
   have ha:JP (T kt).d=true:=by rw[hk];rfl
   have CB:l.length=(T kt).size:=by
    unfold HL at hl;rw[hk]at hl;dsimp only at hl;split at hl
    ·split at hl
     ·split at hl
      ·rename_i e;cases hl;exact AM e
      ·cases hl
     ·cases hl
    ·cases hl
   have s0:∀zs:Array Value,Jj l zs.toList=true→Ih zs.toList 0 l.length=zs.toList:=fun zs hz=>by
    have:=Ln hz
    simp only[Ih,Oo];rw[Aw (by omega)]
   have ex:∀zs:Array Value,Jj l zs.toList=true→zs.extract 0 (0+(T kt).size)=zs:=fun zs hz=>by
    have:=Ln hz
    rw[←CB,←this];simp
   obtain⟨b,b1,b2⟩:=WA hT w 8 kt l hl 10000 (by omega) xs ys 0 (by rw[s0 _ hx];exact hx) (by rw[s0 _ hy];exact hy);simp only[Sem.run_bind,GQ hT w hd ha,Result.andThen_ok,ex _ hx,ex _ hy]at b1;rw[s0 _ hx,s0 _ hy]at b2;refine⟨b,b1,b2.trans ⟨fun e=>by rw[Ol e],fun e=>by cases e;rfl⟩⟩
  ·cases hs
 ·rename_i RL;split at hs
  ·rename_i l hl;cases hs;have LN : Jj l [x]=true:=by cases x<;>exact hx
   have xy : Jj l [y]=true:=by cases y<;>exact hy
   have single:∀k,l=[k]→Nt k x=true∧Nt k y=true:=by
    rintro k rfl
    unfold Jj at LN xy;split at LN
    ·split at xy
     ·exact⟨‹_›,‹_›⟩
     ·cases xy
    ·cases LN
   have e9:Op.equal kt x y=Op.equalIn (9999+1) kt x y:=rfl;rw[e9];unfold HL at hl;split at hl
   ·rename_i k hk;split at hl
    ·cases hl
     obtain⟨h1,h2⟩:=single _ rfl;cases x<;>simp[Nt]at h1
     cases y<;>simp[Nt]at h2
     obtain rfl:=Kj h1;obtain rfl:=Kj h2;exact⟨_,run_equalIn_int w 9999 kt _ _ _ _ (hT.int hk),by simp⟩
    ·cases hl
   ·rename_i hk;split at hl
    ·cases hl
     obtain⟨h1,h2⟩:=single _ rfl;cases x<;>simp[Nt]at h1
     cases y<;>simp[Nt]at h2
     exact⟨_,run_equalIn_string w 9999 kt _ _ (hT.string hk),by rw[JK];simp⟩
    ·cases hl
   ·rename_i hk;split at hl
    ·cases hl
     obtain⟨h1,h2⟩:=single _ rfl;cases x<;>simp[Nt]at h1
     cases y<;>simp[Nt]at h2
     exact⟨_,run_equalIn_bool' w 9999 kt _ _ (hT.bool hk),by simp⟩
    ·cases hl
   ·rename_i fs hk;exact absurd hk (RL fs)
   ·cases hl
  ·cases hs
theorem Mx{kt:Nat}{sh:ET}(hs:H5 T kt=some sh)(w:World)(b:Bool){x:Value}(hx:VN sh x=true):(Instr.checkKey b 10000 kt x).run P w=.ok () w:=by
 unfold H5 at hs;split at hs
 ·rename_i fs hk;split at hs
  ·rename_i l hl;cases hs;cases x<;>simp only[VN]at hx<;>try (cases hx;done)
   rename_i xs;have hd:(T kt).d≠.other:=by rw[hk];simp
   have ha:JP (T kt).d=true:=by rw[hk];rfl
   have CB:l.length=(T kt).size:=by
    unfold HL at hl;rw[hk]at hl;dsimp only at hl;split at hl
    ·split at hl
     ·split at hl
      ·rename_i e;cases hl;exact AM e
      ·cases hl
     ·cases hl
    ·cases hl
   have:=Ln hx
   have h0:Ih xs.toList 0 l.length=xs.toList:=by
    simp only[Ih,Oo];rw[Aw (by omega)]
   have h1:=SL hT w b 8 kt l hl 10000 (by omega) xs 0 (by rw[h0];exact hx);unfold Kt at h1;simp only[Sem.run_bind,GQ hT w hd ha,Result.andThen_ok]at h1;have ex:xs.extract 0 (0+(T kt).size)=xs:=by rw[←CB,←this];simp
   rw[ex]at h1;exact h1
  ·cases hs
 ·rename_i RL;split at hs
  ·rename_i l hl;cases hs;have key:∀d,(Instr.checkKey b (d+1) kt x).run P w=.ok () w:=by
    intro d;unfold HL at hl;split at hl
    ·rename_i k hk;simp[Instr.checkKey,run_underlying (hT.int hk)]
    ·rename_i hk;simp[Instr.checkKey,run_underlying (hT.string hk)]
    ·rename_i hk;simp[Instr.checkKey,run_underlying (hT.bool hk)]
    ·rename_i fs hk;exact absurd hk (RL fs)
    ·cases hl
   exact key 9999
  ·cases hs
end
def Ng(x:Value)(es:List MapEntry)(i:Nat)(r:Option (Nat×Value)):Prop :=
 (r=none∧∀e∈es,e.key≠x)∨∃(j:Nat) (e:MapEntry),r=some (i+j,e.val)∧es[j]?=some e∧e.key=x
theorem Ng.here{x:Value}{es:List MapEntry}{i:Nat}{e:MapEntry}(h:e.key=x):Ng x (e::es) i (some (i,e.val)) :=
 .inr ⟨0,e,rfl,rfl,h⟩
theorem Ng.there{x:Value}{es:List MapEntry}{i:Nat}{e:MapEntry}{r:Option (Nat×Value)}(h:e.key≠x)(k:Ng x es (i+1) r):Ng x (e::es) i r:=by
 rcases k with ⟨h1,h2⟩ | ⟨j,e',h1,h2,h3⟩
 ·exact .inl ⟨h1,fun d hd=>(AA.1 hd).elim (fun e'=>e'▸h) (h2 d)⟩
 ·exact .inr ⟨j+1,e',by rw[h1,GJ,Nat.add_comm 1 j],h2,h3⟩
theorem Tc{kind:TypeDesc}{x:Value}:∀(es:List MapEntry) (i:Nat),(∀e∈es,∃b,Instr.sameNow kind x e.key=some b∧(b=true↔x=e.key))→∃r,Instr.findNow kind x es i=some r∧Ng x es i r
 | [],i,_=>⟨none,rfl,.inl ⟨rfl,fun _ h=>by cases h⟩⟩
 |e::es,i,h=>by
  obtain⟨b,b1,b2⟩:=h e (Ab ..);cases b with
  |true=>exact⟨_,by simp[Instr.findNow,b1],.here (b2.1 rfl).symm⟩
  |false =>
   obtain⟨r,r1,r2⟩:=Tc es (i+1) (fun d hd=>h d (Ai _ hd));exact⟨r,by simp[Instr.findNow,b1,r1],.there (fun e'=>by have:=b2.2 e'.symm;cases this) r2⟩
section
variable {P:Program}{T:GK}(hT:Cz P T)
include hT
theorem Nm{kt:Nat}{sh:ET}(hs:H5 T kt=some sh)(w:World){x:Value}(hx:VN sh x=true) :
  ∀(es:List MapEntry) (i:Nat),(∀e∈es,VN sh e.key=true)→∃r,(Instr.findAsking kt x es i).run P w=.ok r w∧Ng x es i r
 | [],i,_=>⟨none,rfl,.inl ⟨rfl,fun _ h=>by cases h⟩⟩
 |e::es,i,h=>by
  obtain⟨b,b1,b2⟩:=jg hT hs w hx (h e (Ab ..));cases b with
  |true=>exact⟨_,by simp[Instr.findAsking,b1],.here (b2.1 rfl).symm⟩
  |false =>
   obtain⟨r,r1,r2⟩:=Nm hs w hx es (i+1) (fun d hd=>h d (Ai _ hd));exact⟨r,by simp[Instr.findAsking,b1,r1],.there (fun e'=>by have:=b2.2 e'.symm;cases this) r2⟩
theorem Od{kt:Nat}{sh:ET}(hs:H5 T kt=some sh)(w:World){x:Value}(hx:VN sh x=true)(es:List MapEntry)(he:∀e∈es,VN sh e.key=true) :
  ∃r,(Instr.findKey kt x es).run P w=.ok r w∧Ng x es 0 r:=by
 have nq:∀d,P.underlying kt=some d→Instr.findNow d x es 0=none→∃r,(Instr.findKey kt x es).run P w=.ok r w∧Ng x es 0 r:=by
  intro d hd hn;obtain⟨r,r1,r2⟩:=Nm hT hs w hx es 0 he;exact⟨r,by simp[Instr.findKey,run_underlying hd,hn,r1],r2⟩
 have now:∀d,P.underlying kt=some d→(∀e∈es,∃b,Instr.sameNow d x e.key=some b∧(b=true↔x=e.key))→∃r,(Instr.findKey kt x es).run P w=.ok r w∧Ng x es 0 r:=by
  intro d hd hn;obtain⟨r,r1,r2⟩:=Tc es 0 hn;exact⟨r,by simp[Instr.findKey,run_underlying hd,r1],r2⟩
 have Xl:=hs;unfold H5 at Xl;split at Xl
 ·rename_i fs hk;obtain⟨fa,u1,_⟩:=hT.struct hk;cases es with
  |nil=>exact⟨none,by simp[Instr.findKey,run_underlying u1,Instr.findNow],.inl ⟨rfl,fun _ h=>by cases h⟩⟩
  |cons e es =>
   refine nq _ u1 ?_;split at Xl
   ·cases Xl
    cases x<;>simp only[VN]at hx<;>try (cases hx;done)
    simp[Instr.findNow,Instr.sameNow]
   ·cases Xl
 ·rename_i RL;split at Xl
  ·rename_i l hl;cases Xl;have cv:∀y,VN ⟨false,l⟩ y=true→Jj l [y]=true:=fun y hy=>by cases y<;>exact hy
   have LN:=cv x hx;have wQ : ∀e∈es,Jj l [e.key]=true:=fun e h=>cv _ (he e h)
   clear hx he cv
   have single:∀k y,l=[k]→Jj l [y]=true→Nt k y=true:=by
    rintro k y rfl h
    unfold Jj at h;split at h
    ·assumption
    ·cases h
   unfold HL at hl;split at hl
   ·rename_i k hk;split at hl
    ·cases hl
     refine now _ (hT.int hk) (fun e h=>?_);have h1:=single _ _ rfl LN;have h2:=single _ _ rfl (wQ e h);generalize e.key=y at h2;cases x<;>simp[Nt]at h1
     cases y<;>simp[Nt]at h2
     obtain rfl:=Kj h1;obtain rfl:=Kj h2;exact⟨_,by simp[Instr.sameNow];rfl,by simp⟩
    ·cases hl
   ·rename_i hk;split at hl
    ·cases hl
     refine now _ (hT.string hk) (fun e h=>?_);have h1:=single _ _ rfl LN;have h2:=single _ _ rfl (wQ e h);generalize e.key=y at h2;cases x<;>simp[Nt]at h1
     cases y<;>simp[Nt]at h2
     exact⟨_,by simp[Instr.sameNow];rfl,by rw[beq_toListBytes,JK];simp⟩
    ·cases hl
   ·rename_i hk;split at hl
    ·cases hl
     refine now _ (hT.bool hk) (fun e h=>?_);have h1:=single _ _ rfl LN;have h2:=single _ _ rfl (wQ e h);generalize e.key=y at h2;cases x<;>simp[Nt]at h1
     cases y<;>simp[Nt]at h2
     exact⟨_,by simp[Instr.sameNow];rfl,by simp⟩
    ·cases hl
   ·rename_i fs hk;exact absurd hk (RL fs)
   ·cases hl
  ·cases Xl
end
theorem RA{P:Program}(w:World){sh:ET}{x:Value}(hx:VN sh x=true):(Instr.keyThatStays x x).run P w=.ok x w:=by
 have scalar:∀(k:KS) (y:Value) (n:Nat),Nt k y=true→Instr.sameBits n y y=true:=by
  intro k y n h;cases k<;>cases y<;>simp[Nt]at h<;>cases n<;>simp[Instr.sameBits,beq_toListBytes]
 have lst:∀(l:List KS) (ys:List Value) (n:Nat),Jj l ys=true→((ys.zip ys).all fun(a,b)=>Instr.sameBits n a b)=true:=by
  intro l ys n
  induction ys generalizing l with
  |nil=>intro _;rfl
  |cons y ys ih =>
   intro h;cases l with
   |nil=>simp[Jj]at h
   |cons k l =>
    unfold Jj at h;split at h
    ·rename_i hk;simp only[List.zip_cons_cons,List.all_cons,scalar k y n hk,EL];exact ih l h
    ·cases h
 have h1:∀n,Instr.sameBits (n+1) x x=true:=by
  intro n;obtain⟨ag,l⟩:=sh;cases ag with
  |true =>
   cases x<;>simp only[VN]at hx<;>try (cases hx;done)
   have:=lst l _ n hx
   simp only[Instr.sameBits,beq_self_eq_true,EL];exact this
  |false =>
   have LN : Jj l [x]=true:=by cases x<;>exact hx
   cases l with
   |nil=>simp[Jj]at LN
   |cons k l =>
    unfold Jj at LN;split at LN
    ·rename_i hk;exact scalar k x (n+1) hk
    ·cases LN
 have:=h1 9999
 simp only[Instr.keyThatStays];rw[Ap this]
 rfl
theorem VZ:∀{cs:List AV} {l:List Value},Xb cs=some l→cs=l.map .v
 | [],l,h=>by cases h;rfl
 |a::r,l,h=>by
  cases a<;>simp only[Xb]at h<;>try (cases h;done)
  split at h
  ·rename_i l' hl;cases h;rw[VZ hl];rfl
  ·cases h
theorem kZ{g:Gh}{w:World}{U:Nat→Prop}{a:AV}{x y:Value}(h:BH g w U a x)(hk:oR a=some y):x=y:=by
 unfold oR at hk;split at hk
 ·cases hk;exact h.v_eq
 ·split at hk
  ·rename_i l hl;cases hk;obtain rfl:=VZ hl;exact h.agg_vals
  ·cases hk
 ·cases hk
theorem MQ{T:GK}{g:Gh}{w:World}{U:Nat→Prop}{ty:Nat}{sh:ET}{a:AV}{x:Value}{K:Value→Prop}(h:BH g w U a x)(hk:Kk T ty sh a K) :
  ∃kt e,(T ty).d=.map kt e∧H5 T kt=some sh∧VN sh x=true∧K x:=by
 unfold Kk at hk;split at hk
 ·rename_i kt e ht;split at hk
  ·rename_i uC hs;split at hk
   ·rename_i heq;obtain rfl:=l6 heq;split at hk
    ·rename_i kx PL;obtain rfl:=kZ h PL;split at hk
     ·rename_i hb;exact⟨kt,e,ht,hs,hb,hk⟩
     ·exact hk.elim
    ·exact hk.elim
   ·exact hk.elim
  ·exact hk.elim
 ·exact hk.elim
theorem Hk.shape{sh:ET}{es:Array MapEntry}{ck:Nat}{B2:List (Value×AV)}(h:Hk sh es ck B2):∀e∈es.toList,VN sh e.key=true:=by
 intro e he;obtain⟨h1,h2,h3,_⟩:=h;obtain⟨i,hi⟩:=B9.1 he;have DB:i<B2.length:=by rw[←h1];have:=(As.1 hi).1;simpa using this
 rw[h2 i B2[i] e (Ax DB) (by simpa using hi)];exact h3 _ (At DB)
theorem Hk.none{sh:ET}{es:Array MapEntry}{ck:Nat}{B2:List (Value×AV)}(h:Hk sh es ck B2){x:Value}(hn:∀e∈es.toList,e.key≠x)(a:AV):(x,a)∉B2:=by
 intro hm;obtain⟨h1,h2,_⟩:=h;obtain⟨i,hi⟩:=B9.1 hm;have DB:i<es.size:=by rw[h1];exact(As.1 hi).1
 exact hn es[i] (by simp) (h2 i _ es[i] hi (by simp[DB]))
theorem Hk.some{sh:ET}{es:Array MapEntry}{ck:Nat}{B2:List (Value×AV)}(h:Hk sh es ck B2){x:Value}{j:Nat}{e:MapEntry}(he:es.toList[j]?=some e)(hk:e.key=x) :
  ∃a,B2[j]?=some (x,a)∧(x,a)∈B2:=by
 obtain⟨h1,h2,_⟩:=h;have DB:j<B2.length:=by rw[←h1];have:=(As.1 he).1;simpa using this
 have hg:B2[j]?=Option.some B2[j]:=Ax DB
 have:=h2 j B2[j] e hg (by simpa using he)
 have e2:B2[j]=(x,B2[j].2):=by rw[←hk,this]
 exact⟨B2[j].2,by rw[hg];exact Ac _ e2,by rw[←e2];exact At DB⟩
section
variable {P:Program}{T:GK}(hT:Cz P T){h:Nat→HO}{g:Gh}{w:World}{K:AV→Prop}
section
include hT
theorem Wb{t:Nat}(hk:Kq T t K):BK P h g w (zeroValue t) K:=by
 unfold Kq at hk;split at hk
 ·exact hk.elim
 ·rename_i hd;obtain⟨z,z1,z2,z3⟩:=PJ hT (w:=w) hd;rw[z3]at hk;split at hk
  ·rename_i cs;split at hk
   ·rename_i ha;have hr:=CI.vals (g:=g) (w:=w) (U:=AT h) ha;exact⟨_,_,z1,hk,.agg _ _ _ (by simp) (fun i x hx=>hr.2.1 x (Av (by simpa using hx))) (fun i av x h1 h2=>hr.2.2 i av x h1 (by simpa using h2))⟩
   ·exact hk.elim
  ·exact⟨_,_,z1,hk,.v _ _⟩
theorem J6{ty b:Nat}{kt e:Nat}{sh:ET}{es:Array MapEntry}{ck:Nat}{B2:List (Value×AV)}{x:Value}{ok:Bool}(ht:(T ty).d=.map kt e)(hs:H5 T kt=some sh)(hx:VN sh x=true)
  (hb:w.heap[b]?=some (.map es ck)) (hm:Hk sh es ck B2) (hv:∀(i:Nat) (kv:Value×AV) (e:MapEntry),B2[i]?=some kv→es[i]?=some e→BH g w (AT h) kv.2 e.val)
  (hk:L8 T ty ok B2 x K):BK P h g w (Instr.lookup ty (.map (some b)) x ok) K:=by
 have hu:=hT.map ht;have Ft:=run_getObj_map (P:=P) w b es ck hb;have Mb:=fun bb=>Mx hT hs w bb hx;obtain⟨r,r1,r2⟩:=Od hT hs w hx es.toList hm.shape;unfold L8 at hk;rw[ht]at hk;dsimp only at hk;rcases r2 with ⟨rfl,hn⟩ | ⟨j,en,rfl,hj,hkey⟩
 ·have X9:=fun a=>hm.none hn a;cases ok with
  |true =>
   obtain⟨y,av,y1,y2,y3⟩:=Wb hT (K:=fun z=>K (.tup [z,.v (.bool false)])) (P:=P) (h:=h) (g:=g) (w:=w) (hk.2 X9);refine⟨.tuple #[y,.bool false],_,?_,y2,.tup _ _ _ rfl (fun i a x h1 h2=>?_)⟩
   ·simp[Instr.lookup,run_underlying hu,Ft,Mb,r1,y1]
   ·match i,h1,h2 with
    |0,h1,h2=>simp at h1 h2;subst h1;subst h2;exact y3
    |1,h1,h2=>simp at h1 h2;subst h1;subst h2;exact .v _ _
  |false =>
   obtain⟨y,av,y1,y2,y3⟩:=Wb hT (K:=K) (P:=P) (h:=h) (g:=g) (w:=w) (hk.2 X9);exact⟨y,av,by simp[Instr.lookup,run_underlying hu,Ft,Mb,r1,y1],y2,y3⟩
 ·obtain⟨a,a1,a2⟩:=hm.some hj hkey;have hr:=hv j (x,a) en a1 (by simpa using hj);cases ok with
  |true =>
   refine⟨.tuple #[en.val,.bool true],_,?_,hk.1 a a2,.tup _ _ _ rfl (fun i av y h1 h2=>?_)⟩
   ·simp[Instr.lookup,run_underlying hu,Ft,Mb,r1]
   ·match i,h1,h2 with
    |0,h1,h2=>simp at h1 h2;subst h1;subst h2;exact hr
    |1,h1,h2=>simp at h1 h2;subst h1;subst h2;exact .v _ _
  |false=>exact⟨en.val,a,by simp[Instr.lookup,run_underlying hu,Ft,Mb,r1],hk.1 a a2,hr⟩
theorem ZR(ho:∀r,Ej g w (AT h) r (h r)){ty:Nat}{m k:AV}{vm vk:Value}{ok:Bool}(hm:BH g w (AT h) m vm)(hx:BH g w (AT h) k vk)(hk:MT T h ty m k ok K) :
  BK P h g w (Instr.lookup ty vm vk ok) K:=by
 unfold MT at hk;split at hk
 ·obtain⟨kt,e,k1,k2,k3,k4⟩:=MQ hx hk;cases hm with
  |cmap _ _ _ b es ck hS hb kN hv=>exact J6 hT k1 k2 k3 hb kN (fun i kv e p q=>(hv i kv e p q).up _) k4
 ·rename_i r;have hr:=ho r;cases hm with
  |mref _ _ b hu ht hp =>
   split at hk
   ·rename_i sh B2 e;rw[e]at hr;obtain⟨_,b',es,ck,a1,a2,a3,a4,a5,a6⟩:=hr;rw[a2]at hp;cases hp;obtain⟨kt,e,k1,k2,k3,k4⟩:=MQ hx hk;exact J6 hT k1 k2 k3 a3 a4 (fun i kv e p q=>(a5 i kv e p q).up _) k4
   ·rename_i sh B2 e;rw[e]at hr;obtain⟨_,b',es,ck,a1,a2,a3,a4,a5,a6⟩:=hr;rw[a2]at hp;cases hp;obtain⟨kt,e,k1,k2,k3,k4⟩:=MQ hx hk;exact J6 hT k1 k2 k3 a3 a4 a5 k4
   ·rename_i sh B2 e;rw[e]at hr;obtain⟨_,b',a1,a2⟩:=hr;rw[a1]at hp;cases hp;obtain⟨kt,e,k1,k2,k3,k4⟩:=MQ hx hk;cases a2 with
    |cmap _ _ _ _ es ck hS hb kN hv=>exact J6 hT k1 k2 k3 hb kN (fun i kv e p q=>(hv i kv e p q).up _) k4
   ·exact hk.elim
 ·exact hk.elim
omit hT in
theorem OW{ty:Nat}{ok:Bool}{B2:List (Value×AV)}{kx:Value}(hk:L7 T ty ok B2 kx K):L8 T ty ok B2 kx K:=by
 unfold L7 at hk;unfold L8;split at hk
 ·rename_i e;split at hk
  ·rcases hk with ⟨a,⟨h1,h2⟩,h3⟩ | ⟨h1,h2⟩
   ·exact⟨fun b hb=>by rw[h2 b hb];exact h3,fun hn=>absurd h1 (hn a)⟩
   ·exact⟨fun b hb=>absurd hb (h1 b),fun _=>h2⟩
  ·rcases hk with ⟨a,⟨h1,h2⟩,h3⟩ | ⟨h1,h2⟩
   ·exact⟨fun b hb=>by rw[h2 b hb];exact h3,fun hn=>absurd h1 (hn a)⟩
   ·exact⟨fun b hb=>absurd hb (h1 b),fun _=>h2⟩
 ·exact hk.elim
omit hT in
theorem MP{ty:Nat}{sh:ET}{k:AV}{A B:Value→Prop}(hk:Kk T ty sh k A)(jI:∀x,A x→B x):Kk T ty sh k B:=by
 unfold Kk at *
 repeat' split at hk
 all_goals first | exact hk.elim | skip
 simp_all
omit hT in
theorem cX{ty:Nat}{m k:AV}{ok:Bool}(hk:MS T h ty m k ok K):MT T h ty m k ok K:=by
 unfold MS at hk;unfold MT;split at hk
 ·exact MP hk fun _=>OW
 ·split at hk
  ·exact MP hk fun _=>OW
  ·exact MP hk fun _=>OW
  ·exact MP hk fun _=>OW
  ·exact hk.elim
 ·exact hk.elim
theorem ie(ho:∀r,Ej g w (AT h) r (h r)){t ty:Nat}{x:AV}{vx:Value}(hx:BH g w (AT h) x vx)(hk:Ro T t h x K):BK P h g w (Builtin.len_ #[t] ty #[vx]) K:=by
 unfold Ro at hk;split at hk
 ·rename_i e ht;have hu:=hT.slice ht;have run:∀a n c,(Builtin.len_ #[t] ty #[.slice a n c]).run P w=.ok (.int .i64 n) w:=fun a n c=>by simp[Builtin.len_,run_underlying hu,goInt]
  split at hk
  ·have hs:=hx.slice_none;cases hs with
   |snil _ a cap=>exact⟨_,_,run a 0 cap,hk,.v _ _⟩
   |slice _ _ b off sz cap val hc=>exact⟨_,_,run _ _ _,hk,.v _ _⟩
  ·cases hx with
   |msl=>exact⟨_,_,run _ _ _,hk,.v _ _⟩
  ·obtain rfl:=hx.v_eq;exact⟨_,_,run _ _ _,hk,.v _ _⟩
  ·exact hk.elim
 ·rename_i ht;split at hk
  ·obtain rfl:=hx.v_eq;exact⟨_,_,by simp[Builtin.len_,run_underlying (hT.string ht),goInt],hk,.v _ _⟩
  ·exact hk.elim
 ·rename_i k e ht;have hu:=hT.map ht;have run:∀b es ck,w.heap[b]?=some (.map es ck)→(Builtin.len_ #[t] ty #[.map (some b)]).run P w=.ok (.int .i64 es.size) w:=fun b es ck hb=>by
   simp[Builtin.len_,run_underlying hu,goInt,run_getObj_map (P:=P) w b es ck hb]
  split at hk
  ·cases hx with
   |cmap _ _ _ b es ck hS hb kN hv=>exact⟨_,_,run b es ck hb,by rw[kN.1];exact hk,.v _ _⟩
  ·rename_i r;have hr:=ho r;cases hx with
   |mref _ _ b gP ht' hp =>
    split at hk
    ·rename_i sh B2 e;rw[e]at hr;obtain⟨_,b',es,ck,a1,a2,a3,a4,a5,a6⟩:=hr;rw[a2]at hp;cases hp;exact⟨_,_,run _ es ck a3,by rw[a4.1];exact hk,.v _ _⟩
    ·rename_i sh B2 e;rw[e]at hr;obtain⟨_,b',es,ck,a1,a2,a3,a4,a5,a6⟩:=hr;rw[a2]at hp;cases hp;exact⟨_,_,run _ es ck a3,by rw[a4.1];exact hk,.v _ _⟩
    ·rename_i sh B2 e;rw[e]at hr;obtain⟨_,b',a1,a2⟩:=hr;rw[a1]at hp;cases hp;cases a2 with
     |cmap _ _ _ _ es ck hS hb kN hv=>exact⟨_,_,run _ es ck hb,by rw[kN.1];exact hk,.v _ _⟩
    ·exact hk.elim
  ·exact hk.elim
 ·exact hk.elim
end
theorem WW(ho:∀r,Ej g w (AT h) r (h r)){t:Nat→AV}{ρ:Operand→Value}(ht:∀x:Operand,BH g w (AT h) (ev t x) (ρ x)){fn:Fn}{first cap:Array Operand}(hk:KK t h fn first.toList cap.toList K) :
  BK P h g w (Instr.makeFunc fn (first.map ρ) (cap.map ρ)) K:=by
 unfold KK at hk;split at hk
 ·rename_i f e;have hf:first=#[]:=by
   apply Ol;simpa using e
  subst hf;refine⟨_,_,rfl,hk,?_⟩;have e0:Array.map ρ (#[]:Array Operand)=#[]:=by simp
  rw[e0];refine .clo _ f (cap.toList.map fun x=>rsv h (ev t x)) (cap.map ρ) (by simp) (fun i av x h1 h2=>?_);rw[AI,AU]at h1;obtain⟨y,y1,rfl⟩:=h1;rw[Om,AU]at h2;obtain⟨z,z1,rfl⟩:=h2
  have:y=z:=by
   have:=y1
   rw[AR,z1]at this;exact(Ca this).symm
  subst this;exact(ht y).rsv ho
 ·exact hk.elim
theorem WY{x:AV}{vx:Value}(hx:BH g w (AT h) x vx)(hk:KO x K){pos:String}{after:Array Edge}{gd:Option (Nat×Bool)}{dst:Option Tmp}{ty:Nat}{ρ:Operand→Value}{X:Operand}(hX:ρ X=vx) :
  (execOp ρ ⟨dst,.nilCheck X,ty,pos,after,gd⟩).run P w=.ok (.value vx) w∧K x:=by
 subst hX;unfold KO at hk;split at hk
 all_goals first
  |exact hk.elim
  |(refine⟨?_,hk⟩;generalize hq:ρ X=q at hx;cases hx;simp[execOp,hq];done)
theorem cn(ho:∀r,Ej g w (AT h) r (h r)){x:AV}{vx:Value}(hx:BH g w (AT h) x vx)(hk:Zt h x K):BK P h g w (Instr.entry vx) K:=by
 unfold Zt at hk;split at hk
 ·rename_i r;have hr:=ho r;split at hk
  ·rename_i all rem kv e;rw[e]at hr;cases hx with
   |ref _ _ _ b hu ht hp =>
    obtain⟨_,b',mb,Kb,seen,st,es,ck,a1,a2,a3,a4,a5,⟨sh,a6⟩,a7,a8,a9,Xq,az,a12,ne⟩:=hr;rw[a2]at hp;cases hp;obtain⟨i,en,c1,c2,c3⟩:=a12;have rH:es.find? (fun e=>e.born == en.born)=some en:=by
     rw[Array.find?_eq_some_iff_getElem];obtain⟨DB,he⟩:=Bw.1 c2;refine⟨by simp,i,DB,he,fun j hj=>?_⟩;have gG : j<es.size:=by omega
     simp only[CT,beq_eq_false_iff_ne,VC];intro e'
     have:=a6.2.2.2.2.2 j i es[j] en (by simp[gG]) c2 e'
     omega
    have hkey:=a6.2.1 i kv en c1 c2;refine⟨.tuple #[en.key,en.val],_,?_,hk,.tup _ _ _ rfl (fun k av y h1 h2=>?_)⟩
    ·have RY:(getObj b).run P w=.ok (.mapIter (some mb) Kb seen st) w:=by simp[getObj,Sem.run,a3]
     have gE:=run_getObj_map (P:=P) w mb es ck a5;simp[Instr.entry,RY,c3,gE,a8,rH]
    ·match k,h1,h2 with
     |0,h1,h2=>simp at h1 h2;subst h1;subst h2;rw[hkey];exact .v _ _
     |1,h1,h2=>simp at h1 h2;subst h1;subst h2;exact(a9 i kv en c1 c2).up _
  ·exact hk.elim
 ·exact hk.elim
end
end Go.Eng
