/- Lemmas for the claims of this seat, without a condition: part 6 (EngH, EngI, EngJ, EngK, EngL, EngM). -/
import Derived.Test.YtmcbkdbfaneofaaGreatDoorEA05
import Derived.Laws.IdiomStrings
import Derived.Lib.BufferRead
namespace Go.Eng
section
variable {P:Program}{T:Gm}(hT:Cz P T){h:Nat→HO}{g:Gh}{w:World}{K:AV→Prop}
section
include hT
theorem Up{t:Nat}{x ix:AV}{vx vi:Value}(hx:BH g w (AR h) x vx)(hi:BH g w (AR h) ix vi)(hk:Jj T t x ix K):BQ P h g w (Instr.indexAt t vx vi) K:=by
 unfold Jj at hk;split at hk
 ·rename_i e i ht;obtain rfl:=hi.v_eq;have hu:=hT.slice ht;split at hk
  ·exact hk.elim
  ·rename_i m hm;have CO:∀b off (len cap:Nat),0≤i→i<(len:Int)→(Instr.indexAt t (.slice (some ⟨b,off,none⟩) len cap) (.int .i64 i)).run P w=.ok (.pointer (some ⟨b,off+i.toNat*(T e).size,none⟩)) w:=fun b off len cap h0 h1=>by
    simp[Instr.indexAt,asIntOf,run_underlying hu,h0,h1,hT.size1 w hm,Addr.add_lit,hm]
   split at hk
   ·rename_i tk es;obtain⟨cs,⟨h0,h1⟩,h2,hk⟩:=hk;have hs:=hx.slice_none;have DI:=(At.1 h1).1;cases hs with
    |snil=>simp at h1
    |slice _ _ b off sz cap val hc hl DE D4 =>
     have EF:sz=(T e).size:=by rw[←h2];exact(hl _ _ h1).symm
     subst EF;refine⟨_,_,CO b off es.length cap h0 (by omega),hk,.cptr _ cs b _ (val i.toNat) (fun j av hj=>?_) (fun j av hj=>D4 _ _ _ _ h1 hj)⟩;exact DE _ _ _ _ h1 hj
   ·rename_i r n;obtain⟨⟨h0,h1⟩,hk⟩:=hk;cases hx with
    |msl _ _ _ a cap fX ht' hn ha LG =>
     rcases ha with rfl | ⟨b,rfl⟩
     ·omega
     ·refine⟨_,_,CO b 0 n cap h0 h1,hk,?_⟩;rw[Bi];exact .eref _ r n _ _ 0 b cap fX ht' ⟨by omega,hn⟩ (fun e=>(LG e).symm)
   ·exact hk.elim
 ·rename_i n e i ht;obtain rfl:=hi.v_eq;have hu:=hT.array ht;split at hk
  ·exact hk.elim
  ·rename_i m hm;have CO:∀b off,0≤i→i<(n:Int)→(Instr.indexAt t (.pointer (some ⟨b,off,none⟩)) (.int .i64 i)).run P w=.ok (.pointer (some ⟨b,off+i.toNat*(T e).size,none⟩)) w:=fun b off h0 h1=>by
    simp[Instr.indexAt,asIntOf,run_underlying hu,h0,h1,hT.size1 w hm,Addr.add_lit,hm,Instr.sureAddr]
   split at hk
   ·cases hx with
    |cptr _ _ b off val DE D4=>exact⟨_,_,CO b off hk.1.1 hk.1.2,hk.2,(BH.cptr _ _ b off val DE D4).cptr_drop _⟩
   ·rename_i r off;cases hx with
    |ref _ _ _ b hu ht hp=>exact⟨_,_,CO b off hk.1.1 hk.1.2,hk.2,.ref _ r _ b hu ht hp⟩
   ·exact hk.elim
 ·exact hk.elim
theorem cz{t:Nat}{x ix:AV}{vx vi:Value}(hx:BH g w (AR h) x vx)(hi:BH g w (AR h) ix vi)(hk:S8 T t x ix K):BQ P h g w (Instr.index t vx vi) K:=by
 unfold S8 at hk;split at hk
 ·rename_i s i ht;obtain rfl:=hx.v_eq;obtain rfl:=hi.v_eq;obtain⟨b,⟨h0,h1⟩,hk⟩:=hk;refine BQ.val (x:=.int .u8 b.toNat) ?_ hk;have h2:s[i.toNat]?=some b:=by
   have:=(Bx.1 h1)
   obtain⟨l1,l2⟩:=this;have sM : i.toNat<s.size:=l1;rw[getElem?_pos s i.toNat sM];exact Ac some l2
  simp[Instr.index,asIntOf,run_underlying (hT.string ht),h0,h2]
 ·rename_i n e cs i ht;obtain rfl:=hi.v_eq;obtain⟨⟨h0,h1⟩,hk⟩:=hk;cases hx with
  |agg _ _ xs a1 a2 a3 =>
   have hd:(T e).d≠.other:=by
    intro e';unfold Yg Lz at hk;rw[e']at hk;exact hk.elim
   obtain⟨y,av,p1,p2,p3⟩:=Yh hT (WT.of_agg (.agg _ _ xs a1 a2 a3) _) hk;refine⟨y,av,?_,p2,p3⟩;simp[Instr.index,asIntOf,run_underlying (hT.array ht),h0,h1,hT.size w hd,p1]
 ·exact hk.elim
theorem eY{s t:Nat}{x:AV}{vx:Value}(hx:BH g w (AR h) x vx)(hk:Xe T s t x K):BQ P h g w (convert s t vx) K:=by
 unfold Xe at hk;split at hk
 ·rename_i k n h1 h2;obtain rfl:=hx.v_eq;refine BQ.val (x:=.int .i64 n) ?_ hk.2;have hw:=MY hk.1;simp[convert,run_underlying (hT.int h1),run_underlying (hT.int h2),Conv.intToInt,hw]
 ·rename_i k k' m n DC h1 h2;obtain rfl:=hx.v_eq;refine BQ.val (x:=.int k' (k'.wrap n)) ?_ hk;simp[convert,run_underlying (hT.int h1),run_underlying (hT.int h2),Conv.intToInt]
 ·rename_i s' h1 h2;obtain rfl:=hx.v_eq;refine BQ.val (x:=.string s') ?_ hk;simp[convert,run_underlying (hT.string h1),run_underlying (hT.string h2)]
 ·rename_i e tk es h1 h2;split at hk
  ·rename_i h3;obtain⟨l,rfl,hk⟩:=hk;have hr:=hx.slice_none;refine BQ.val (x:=.string ⟨l.toArray⟩) ?_ hk;generalize hes:l.map (fun b=>[AV.v (.int .u8 b.toNat)])=es at hr;cases hr with
   |snil _ a cap =>
    have hl:l=[]:=by cases l with | nil=>rfl | cons b l=>cases hes
    subst hl;cases a with
    |none=>exact Lib.run_convert_nil_bytes w s t e cap (hT.slice h1) (hT.int h3) (hT.string h2)
    |some a=>exact run_convert_bytes_back w s t e a cap [] (hT.slice h1) (hT.int h3) (hT.string h2) (fun j hj=>by simp at hj)
   |slice _ _ b off sz cap val hc hl DE D4 =>
    have CI:l.length=es.length:=by rw[←hes];simp
    have:=run_convert_bytes_back (P:=P) w s t e ⟨b,off,none⟩ cap l (hT.slice h1) (hT.int h3) (hT.string h2) (fun j hj=>by
     have hg:es[j]?=some [AV.v (.int .u8 l[j].toNat)]:=by rw[←hes,AG,Az hj];rfl
     have Rm:sz=1:=(hl j _ hg).symm;have h4:=DE j _ 0 _ hg rfl;have h5:=D4 j _ 0 _ hg rfl;rw[Addr.add_lit];rw[Rm,Nat.mul_one,DA]at h4;rw[h4.2.1,h5.v_eq])
    rw[CI]at this;exact this
  ·exact hk.elim
 ·exact hk.elim
end
theorem iX{op:UnOp}{x:AV}{vx:Value}(hx:BH g w (AR h) x vx)(hk:Yu op x K):BQ P h g w (Op.unary op vx) K:=by
 unfold Yu at hk;split at hk
 ·unfold cS at hk;split at hk
  ·obtain rfl:=hx.v_eq;exact BQ.val (x:=.bool false) (by simp[Op.unary]) hk
  ·obtain rfl:=hx.v_eq;exact BQ.val (x:=.bool true) (by simp[Op.unary]) hk
  ·exact hk.elim
 ·rename_i a;obtain rfl:=hx.v_eq;refine BQ.val (x:=.int .i64 (-a)) ?_ hk.2
  have:=MY hk.1
  simp[Op.unary,Op.intArith,this]
 ·exact hk.elim
theorem X8:∀{l:List AV} {j:Nat} {a:AV},kM l j=some a→l[j]?=some a
 | [],j,a,h=>by cases h
 |b::r,0,a,h=>by simpa[kM]using h
 |b::r,j+1,a,h=>by simpa using X8 (l:=r) (j:=j) h
theorem Xr{i:Nat}{x:AV}{vx:Value}(hx:BH g w (AR h) x vx)(hk:L1 x i K):BQ P h g w (Instr.extract vx i) K:=by
 unfold L1 at hk;split at hk
 ·rename_i cs;cases hx with
  |tup _ _ vs hs hh =>
   split at hk
   ·rename_i a ha;have hc:=X8 ha;have hi:i<vs.size:=by rw[hs];exact(At.1 hc).1
    exact⟨vs[i],_,by simp[Instr.extract,hi],hk,hh _ _ _ hc (by simp[hi])⟩
   ·exact hk.elim
 ·exact hk.elim
theorem gX{c a b:AV}{vc va vb:Value}(hc:BH g w (AR h) c vc)(ha:BH g w (AR h) a va)(hb:BH g w (AR h) b vb)(hk:Yj c a b K) :
  BQ P h g w (do pure (if ←asBool vc then va else vb)) K:=by
 unfold Yj at hk;split at hk
 ·obtain rfl:=hc.v_eq;exact⟨va,a,by simp[asBool],hk,ha⟩
 ·obtain rfl:=hc.v_eq;exact⟨vb,b,by simp[asBool],hk,hb⟩
 ·exact hk.elim
theorem kB{t:Nat}{GG:Array TypeId}{x y:AV}{vx vy:Value}(hx:BH g w (AR h) x vx)(hy:BH g w (AR h) y vy)(hk:kF max x y K):BQ P h g w (Builtin.max_ GG t #[vx,vy]) K:=by
 unfold kF at hk;split at hk
 ·rename_i k a k' b;split at hk
  ·obtain rfl:=hx.v_eq;obtain rfl:=hy.v_eq;refine BQ.val (x:=.int k (max a b)) ?_ hk;simp[Builtin.max_,Builtin.max2];omega
  ·exact hk.elim
 ·exact hk.elim
theorem kE{t:Nat}{GG:Array TypeId}{x y:AV}{vx vy:Value}(hx:BH g w (AR h) x vx)(hy:BH g w (AR h) y vy)(hk:kF min x y K):BQ P h g w (Builtin.min_ GG t #[vx,vy]) K:=by
 unfold kF at hk;split at hk
 ·rename_i k a k' b;split at hk
  ·obtain rfl:=hx.v_eq;obtain rfl:=hy.v_eq;refine BQ.val (x:=.int k (min a b)) ?_ hk;simp[Builtin.min_,Builtin.min2];omega
  ·exact hk.elim
 ·exact hk.elim
end
theorem CG.at{g:Gh}{w:World}{U:Nat→Prop}{cs:List AV}{vs:List Value}(h:CG g w U cs vs){i:Nat}{av:AV}(hi:cs[i]?=some av):∃x,vs[i]?=some x∧x.oneCell'=true∧BH g w U av x:=by
 have DI:i<vs.length:=by rw[h.1];exact(At.1 hi).1
 exact⟨vs[i],Az DI,h.2.1 _ (Ap DI),h.2.2 i av _ hi (Az DI)⟩
theorem E9{α:Type}{n:Nat}:∀{es:List (List α)},(∀c∈es,c.length=n)→∀{i j:Nat} {c:List α},es[i]?=some c→j<n→es.flatten[i*n+j]?=c[j]?
 | [],_,i,j,c,h,_=>by simp at h
 |d::es,hl,0,j,c,h,hj=>by
  simp at h;subst h
  have:=hl d (Aa ..)
  rw[By,AY (by omega)]
  congr 1;omega
 |d::es,hl,i+1,j,c,h,hj=>by
  have hd:=hl d (Aa ..);rw[By,A5 (by rw[hd,DZ];omega)];rw[show(i+1)*n+j-d.length=i*n+j by rw[hd,DZ];omega];exact E9 (fun c hc=>hl c (Ae _ hc)) (by simpa using h) hj
theorem Df{α:Type}{n:Nat}:∀{es:List (List α)},(∀c∈es,c.length=n)→es.flatten.length=es.length*n
 | [],_=>by simp
 |d::es,hl=>by
  rw[By,Ad,hl d (Aa ..),Df (fun c hc=>hl c (Ae _ hc)),Au,DZ,Nat.add_comm]
section
variable {P:Program}{T:Gm}(hT:Cz P T){h:Nat→HO}{g:Gh}{w:World}{K:AV→Prop}(ho:∀r,Eg g w (AR h) r (h r))
include ho
theorem Vg(hT:Cz P T){t:Nat}{p:AV}{vp:Value}(hp:BH g w (AR h) p vp)(hk:H3 T h t p K):BQ P h g w (Instr.loadAt t vp) K:=by
 have T1:∀b off,BQ P h g w (loadVar t ⟨b,off,none⟩) K→BQ P h g w (Instr.loadAt t (.pointer (some ⟨b,off,none⟩))) K:=by
  rintro b off ⟨x,av,h1,h2,h3⟩
  exact⟨x,av,by simp[Instr.loadAt,Instr.sureAddr,h1],h2,h3⟩
 unfold H3 at hk;split at hk
 ·cases hp with
  |cptr _ _ b off val DE D4=>exact T1 b off (Mg hT (Hj.of_cptr (.cptr Fp _ b off val DE D4) _) hk)
 ·rename_i r off;have hr:=ho r;cases hp with
  |ref _ _ _ b hu ht hx =>
   split at hk
   ·rename_i cs e;rw[e]at hr;obtain⟨_,b',E,vs,a1,a2,a3,a4,a5⟩:=hr;rw[a2]at hx;cases hx
    have:=(Hj.of_row a3 a4).drop off
    rw[Bi]at this;exact T1 b off (Mg hT this hk)
   ·rename_i cs e;rw[e]at hr;obtain⟨_,b',a1,a2⟩:=hr;rw[a1]at hx;cases hx
    have:=(Hj.of_cptr a2 (AR h)).drop off
    rw[Bi]at this;exact T1 b off (Mg hT this hk)
   ·exact hk.elim
 ·rename_i r n sz i off;have hr:=ho r;cases hp with
  |eref _ _ _ _ _ _ b cap hu ht hn hx =>
   split at hk
   ·rename_i Gj es e;rw[e]at hr;split at hk
    ·rename_i hz;obtain rfl:=AL hz;obtain⟨CI,cs,h1,hk⟩:=hk;obtain⟨t1,l1,al,a1⟩:=hr;have DI:=(At.1 h1).1;rcases a1 with ⟨rfl,_⟩ | ⟨b',LF,E,vs,e1,e2,e3,e4,e5,e6,e7⟩
     ·simp at h1
     ·have:=hx (CI.trans l1.symm)
      rw[e1]at this;simp only[Value.slice.injEq,Bm,Addr.mk.injEq]at this;obtain⟨⟨rfl,_,_⟩,_,_⟩:=this;refine T1 _ _ (Mg hT (cs:=cs.drop off) (fun j av hj=>?_) hk);rw[BR]at hj;have hcl:=al cs (Av h1);have qy:off+j<sz:=by rw[←hcl];exact(At.1 hj).1
      have hf:=E9 al h1 qy;rw[hj]at hf;obtain⟨x,x1,x2,x3⟩:=e6.at hf;refine⟨x,?_,x2,x3.up _⟩;rw[FB e4];have nA:i*sz+(off+j)<es.length*sz:=by
       have:=Bh sz (show i+1≤es.length from DI)
       rw[DZ]at this;omega
      rw[BG nA]at x1;rw[←Gl]at x1;simpa using x1
    ·exact hk.elim
   ·rename_i Gj es i' c av e;rw[e]at hr;split at hk
    ·rename_i hz;obtain rfl:=AL hz;obtain⟨⟨CI,rfl,rfl⟩,hk⟩:=hk;obtain⟨t1,l1,al,b',LF,E,vs,e1,e2,e3,e4,e5,e6,e7,e8,x,e9,pU⟩:=hr
     have:=hx (CI.trans l1.symm)
     rw[e1]at this;simp only[Value.slice.injEq,Bm,Addr.mk.injEq]at this;obtain⟨⟨rfl,_,_⟩,_,_⟩:=this;refine T1 _ _ (Mg hT (cs:=[av]) (fun j a' hj=>?_) hk);cases j with
     |succ j=>simp at hj
     |zero =>
      simp only[A8,Bm]at hj;subst hj;refine⟨x,by rw[FB e4];simpa using e9,?_,pU⟩;have hm:x∈vs.toList.take (es.length*sz):=by
       have h9:vs.toList[i*sz+off]?=some x:=by simpa using e9
       exact Av (by rw[BG e8];exact h9)
      exact e6.2.1 x hm
    ·exact hk.elim
   ·exact hk.elim
 ·exact hk.elim
end
theorem FF{α:Type}:∀(cs:List α) (o:Nat) (vs:List α),(over cs o vs).length=cs.length
 | [],_,_=>rfl
 |c::cs,o+1,vs=>by simp[over,FF cs o vs]
 |c::cs,0,[]=>rfl
 |c::cs,0,v::vs=>by simp[over,FF cs 0 vs]
theorem FE{α:Type}:∀(cs:List α) (o:Nat) (vs:List α) (i:Nat),o+vs.length≤cs.length→(over cs o vs)[i]?=if o≤i∧i<o+vs.length then vs[i-o]? else cs[i]?
 | [],o,vs,i,h=>by
  simp at h;obtain⟨rfl,rfl⟩:=h;simp[over]
 |c::cs,o+1,vs,0,h=>by simp[over]
 |c::cs,o+1,vs,i+1,h=>by
  have:=FE cs o vs i (by simp at h;omega)
  simp only[over,GH,this]
  by_cases hc:o≤i∧i<o+vs.length
  ·rw[Aw hc,Aw (by omega)];congr 1;omega
  ·rw[Ah hc,Ah (by omega)]
 |c::cs,0,[],i,h=>by
  have:¬(0≤i∧i<0+([]:List α).length):=by simp
  rw[Ah this];rfl
 |c::cs,0,v::vs,0,h=>by simp[over]
 |c::cs,0,v::vs,i+1,h=>by
  have:=FE cs 0 vs i (by simp at h;omega)
  simp only[over,GH,this]
  by_cases hc:0≤i∧i<0+vs.length
  ·rw[Aw hc,Aw (by simp;omega)];simp
  ·rw[Ah hc,Ah (by simp at hc⊢;omega)]
theorem CG.over{g:Gh}{w:World}{U:Nat→Prop}{cs Ud:List AV}{xs vs:List Value}(h:CG g w U cs xs)(k:CG g w U Ud vs)(o:Nat)(Hi:o+Ud.length≤cs.length) :
  CG g w U (Eng.over cs o Ud) (Eng.over xs o vs):=by
 have qC : o+vs.length≤xs.length:=by rw[k.1,h.1];exact Hi
 refine⟨by rw[FF,FF,h.1],fun x hx=>?_,fun i av x h1 h2=>?_⟩
 ·obtain⟨i,hi⟩:=B9.1 hx;rw[FE _ _ _ _ qC]at hi;split at hi
  ·exact k.2.1 _ (Av hi)
  ·exact h.2.1 _ (Av hi)
 ·rw[FE _ _ _ _ Hi]at h1;rw[FE _ _ _ _ qC,k.1]at h2;split at h1
  ·rename_i hc;rw[Aw hc]at h2;exact k.2.2 _ _ _ h1 h2
  ·rename_i hc;rw[Ah hc]at h2;exact h.2.2 _ _ _ h1 h2
theorem oa{g:Gh}{w:World}{U:Nat→Prop}{a:AV}{x:Value}(h:BH g w U a x)(h1:one a=true):x.oneCell'=true:=by
 cases h with
 |v=>exact h1
 |tok _ r sz es _ h=>cases h with
  |snil=>rfl
  |slice=>rfl
 |ver _ r sz v es _ h=>cases h with
  |snil=>rfl
  |slice=>rfl
 |full _ sz es _ h=>cases h with
  |snil=>rfl
  |slice=>rfl
 |_=>first |rfl |(cases h1;done)
theorem cY{x:Value}(h:x.oneCell'=true):x.cells=#[x]:=by
 cases x<;>first | rfl | (simp[Value.oneCell']at h)
theorem ME{g:Gh}{w:World}{U:Nat→Prop}{n:Nat}{a:AV}{K:List AV→Prop}{x:Value}(h:BH g w U a x)(hk:GW n a K) :
  ∃cs,K cs∧cs.length=n∧CG g w U cs x.cells.toList:=by
 have single:one a=true→n=1→K [a]→∃cs,K cs∧cs.length=n∧CG g w U cs x.cells.toList:=by
  intro h1 hn hk;have hx:=oa h h1;rw[cY hx];refine⟨[a],hk,hn.symm,rfl,by simpa using hx,fun i av y e1 e2=>?_⟩;cases i with
  |zero=>simp at e1 e2;subst e1;subst e2;exact h
  |succ i=>simp at e1
 unfold GW at hk;split at hk
 ·rename_i cs;split at hk
  ·rename_i hl;cases h with
   |agg _ _ vs hs h1 hr =>
    refine⟨cs,hk,AL hl,by simpa[Value.cells]using hs,fun y hy=>?_,fun i av y e1 e2=>?_⟩
    ·obtain⟨i,hi⟩:=B9.1 hy;exact h1 i y (by simpa[Value.cells]using hi)
    ·exact hr i av y e1 (by simpa[Value.cells]using e2)
  ·exact hk.elim
 ·split at hk
  ·rename_i h1;split at hk
   ·exact single h1 rfl hk
   ·exact hk.elim
  ·exact hk.elim
theorem NH:∀(vs:List Value) (k o:Nat) (cs:Array Value),o+k+vs.length≤cs.size →
  ((vs.zipIdx k).foldl (fun(cs:Array Value) (p:Value×Nat)=>cs.setIfInBounds (o+p.2) p.1) cs).toList=over cs.toList (o+k) vs
 | [],k,o,cs,_=>by
  have:∀(l:List Value) (o:Nat),over l o []=l:=by
   intro l
   induction l with
   |nil=>intro o;rfl
   |cons c l ih=>intro o;cases o with
    |zero=>rfl
    |succ o=>simp[over,ih]
  simp[this]
 |v::vs,k,o,cs,h=>by
  simp at h;rw[List.zipIdx_cons,Fu,NH vs (k+1) o _ (by simp;omega)];simp only[Array.toList_setIfInBounds];apply CC;intro i;rw[FE _ _ _ _ (by simp;omega),FE _ _ _ _ (by simp;omega)];simp only[Au,Qy]
  by_cases h1:i=o+k
  ·subst h1;rw[Ah (by omega),Aw (by omega)];have DI:o+k<cs.size:=by omega
   simp[DI]
  ·by_cases h2:o+k≤i∧i<o+k+(vs.length+1)
   ·rw[Aw (by omega),Aw h2,show i-(o+k)=(i-(o+(k+1)))+1 by omega];simp
   ·rw[Ah (by omega),Ah (by omega),Ah h2]
theorem Sy{g:Gh}{w:World}{U:Nat→Prop}{t:Nat→AV}{ρ:Operand→Value}(ht:∀x:Operand,BH g w U (ev t x) (ρ x)){pl pl' : Nat→Option (Nat×Nat)}(uY:∀i p,pl i=some p→pl' i=some p) :
  ∀{ps:List (Nat×Operand)} {cs:List AV} {xs:Array Value} {K:List AV→Prop},CG g w U cs xs.toList→Ku pl cs t ps K →
   ∃YZ VD,K YZ∧CG g w U YZ VD.toList∧Instr.fill pl' xs (ps.map fun(i,x)=>(i,ρ x))=some VD
 | [],cs,xs,K,h,hk=>⟨cs,xs,hk,h,rfl⟩
 |(i,x)::ps,cs,xs,K,h,hk=>by
  unfold Ku at hk;split at hk
  ·exact hk.elim
  ·rename_i o n hp;obtain⟨Ud,hk,hn,hr⟩:=ME (ht x) hk;split at hk
   ·rename_i Hi;have Hi:=HN Hi;have EF:(ρ x).cells.size=n:=by rw[←hn];simpa using hr.1
    have jl:cs.length=xs.size:=by simpa using h.1.symm
    have EN:=h.over hr o (by rw[hn];exact Hi);have e:=NH (ρ x).cells.toList 0 o xs (by simp[EF];omega);simp only[DA]at e;rw[←e]at EN;obtain⟨YZ,VD,k1,k2,k3⟩:=Sy ht uY EN hk;refine⟨YZ,VD,k1,k2,?_⟩;simp only[AN,Instr.fill,uY _ _ hp];have e2:(ρ x).cells.zipIdx.foldl (fun cs (c,j)=>cs.setIfInBounds (o+j) c) xs=((ρ x).cells.toList.zipIdx 0).foldl (fun(cs:Array Value) (p:Value×Nat)=>cs.setIfInBounds (o+p.2) p.1) xs:=by
     rw[←Array.foldl_toList];simp
    rw[Ah (by simp[EF];omega),e2];exact k3
   ·exact hk.elim
theorem Mz:∀{l:List AV},GV l=true→∀a∈l,one a=true
 | [],_,a,h=>by cases h
 |b::r,h,a,ha=>by
  unfold GV at h;split at h
  ·rename_i hb;rcases Aq.1 ha with rfl | ha
   ·exact hb
   ·exact Mz h a ha
  ·cases h
theorem CG.vals{g:Gh}{w:World}{U:Nat→Prop}{vs:List Value}(h:GV (vs.map .v)=true):CG g w U (vs.map .v) vs:=by
 refine⟨by simp,fun x hx=>?_,fun i av x h1 h2=>?_⟩
 ·have:=Mz h (.v x) (Ak.2 ⟨x,hx,rfl⟩)
  simpa[one]using this
 ·rw[AG,h2]at h1;simp at h1;subst h1;exact .v _ _
section
variable {P:Program}{T:Gm}(hT:Cz P T){h:Nat→HO}{g:Gh}{w:World}{K:AV→Prop}
theorem XZ{α β:Type}(P:Program)(w:World)(f:α→Sem β)(f' : α→β):∀(l:List α),(∀a∈l,(f a).run P w=.ok (f' a) w)→(l.mapM f).run P w=.ok (l.map f') w
 | [],_=>rfl
 |a::l,h=>by
  have h1:=h a (Aa ..);have h2:=XZ P w f f' l (fun b hb=>h b (Ae _ hb));simp[List.mapM_cons,Sem.run_bind,h1,h2]
theorem QC:∀{fs:List (Nat×Nat)},Oc T fs=true→∀p∈fs,∃n,(T p.1).size=n+1
 | [],_,p,h=>by cases h
 |(t,o)::r,h,p,hp=>by
  unfold Oc at h;split at h
  ·cases h
  ·rename_i n hn;rcases Aq.1 hp with rfl | hp
   ·exact⟨n,hn⟩
   ·exact QC h p hp
include hT
theorem Pq{t:Nat}(hd:(T t).d≠.other):∃z,(zeroValue t).run P w=.ok z w∧(T t).zc=z.cells.toList∧(T t).zero=z:=by
 obtain⟨d,i,z,h1,h2,h3,h4,h5,h6,h7,h8⟩:=hT.get hd;exact⟨z,by simp[zeroValue,typeInfo,h3,h4],by rw[TI.zc_cells,h7],h7⟩
theorem VF{t n:Nat}(h:(T t).size=n+1):∃z,(zeroValue t).run P w=.ok z w∧(T t).zc=z.cells.toList:=by
 rcases hT t with e | e
 ·rw[e]at h;cases h
 unfold dF at e;split at e
 ·split at e
  ·rename_i d i h1 h2 _ z h3;exact⟨z,by simp[zeroValue,typeInfo,h2,h3],by rw[TI.zc_cells,e]⟩
  ·rw[e]at h;cases h
 ·rw[e]at h;cases h
theorem bK{ty:Nat}{t:Nat→AV}{ρ:Operand→Value}(ht:∀x:Operand,BH g w (AR h) (ev t x) (ρ x)){ps:Array (Nat×Operand)}(hk:PE T ty t ps.toList K) :
  BQ P h g w (Instr.build ty (ps.map fun(i,x)=>(i,ρ x))) K:=by
 unfold PE at hk;split at hk
 ·exact hk.elim
 ·rename_i Rm;have fin:∀(YZ : List AV) (VD : Array Value),CG g w (AR h) YZ VD.toList→BH g w (AR h) (.agg YZ) (.agg VD):=fun YZ VD hr =>
   .agg _ _ _ (by simpa using hr.1) (fun i x hx=>hr.2.1 x (Av (by simpa using hx))) (fun i av x h1 h2=>hr.2.2 i av x h1 (by simpa using h2))
  split at hk
  ·rename_i fs hs;have hd:(T ty).d≠.other:=by rw[hs];simp
   obtain⟨z,z1,z2,_⟩:=Pq hT (w:=w) hd;split at hk
   ·exact hk.elim
   ·rename_i EF;obtain⟨fa,u1,u2,u3⟩:=hT.struct hs;have kf:(fa.mapM fun(f:Field)=>(do pure (f.offset,←sizeOf f.type):Sem (Nat×Nat))).run P w=.ok (fa.map fun f=>(f.offset,(T f.type).size)) w:=by
     rw[Array.mapM_eq_mapM_toList]
     have:=XZ P w (fun f:Field=>(do pure (f.offset,←sizeOf f.type):Sem (Nat×Nat))) (fun f=>(f.offset,(T f.type).size)) fa.toList (fun f hf=>by
      obtain⟨n,hn⟩:=QC EF (f.type,f.offset) (by rw[u2];exact Ak.2 ⟨f,hf,rfl⟩);simp[hT.size1 w hn,hn])
     simp only[Sem.run_map,this,Result.andThen_ok]
     congr 1
     apply N3;simp
    rw[z2]at hk Rm;obtain⟨YZ,VD,k1,k2,k3⟩:=Sy ht (pl':=fun i=>(fa.map fun f=>(f.offset,(T f.type).size))[i]?) (fun i p hp=>by
     split at hp
     ·rename_i t' o hf;cases hp;obtain⟨fa',fd,v1,v2,rfl,rfl⟩:=SC hT hs hf;rw[u1]at v1;cases v1;simp[v2]
     ·cases hp) (CG.vals (vs:=z.cells.toList) Rm) hk
    refine⟨_,_,?_,k1,fin YZ VD k2⟩;simp only[Instr.build,Sem.run_bind,z1,Result.andThen_ok,run_underlying u1,kf];have e3:(Array.map (fun x:Nat×Operand=>match x with | (i,x)=>(i,ρ x)) ps).toList=ps.toList.map fun(i,x)=>(i,ρ x):=by simp
    rw[e3];rw[k3]
    rfl
  ·rename_i n e hs;have hd:(T ty).d≠.other:=by rw[hs];simp
   obtain⟨z,z1,z2,_⟩:=Pq hT (w:=w) hd;split at hk
   ·exact hk.elim
   ·rename_i m hm;rw[z2]at hk Rm;obtain⟨YZ,VD,k1,k2,k3⟩:=Sy ht (pl':=fun i=>some (i*(T e).size,(T e).size)) (fun i p hp=>hp) (CG.vals (vs:=z.cells.toList) Rm) hk;refine⟨_,_,?_,k1,fin YZ VD k2⟩;simp only[Instr.build,Sem.run_bind,z1,Result.andThen_ok,run_underlying (hT.array hs),hT.size1 w hm];have e3:(Array.map (fun x:Nat×Operand=>match x with | (i,x)=>(i,ρ x)) ps).toList=ps.toList.map fun(i,x)=>(i,ρ x):=by simp
    rw[e3];simp only[hm]at k3;rw[k3]
    rfl
  ·exact hk.elim
end
theorem ku{a b:KS}(h:ks a b=true):a=b:=by
 cases a<;>cases b<;>first | rfl | (simp[ks]at h;done) | (simp only[ks]at h;obtain rfl:=J4 h;rfl)
theorem XT:∀{a b:List KS},Ti a b=true→a=b
 | [],[],_=>rfl
 |x::a,y::b,h=>by
  unfold Ti at h;split at h
  ·rename_i e;obtain rfl:=ku e;obtain rfl:=XT h;rfl
  ·cases h
 | [],_::_,h=>by simp[Ti]at h
 |_::_,[],h=>by simp[Ti]at h
theorem lm{a b:EE}(h:oy a b=true):a=b:=by
 obtain⟨a1,a2⟩:=a;obtain⟨b1,b2⟩:=b;cases a1<;>cases b1<;>simp only[oy]at h<;>first | (obtain rfl:=XT h;rfl) | cases h
section
variable {P:Program}{T:Gm}(hT:Cz P T)
include hT
def Kd(P:Program)(w:World)(b:Bool)(d t:Nat)(xs:Array Value)(o:Nat):Prop :=
 (do let a ←part t xs o;Instr.checkKey b d t a).run P w=.ok () w
theorem Si(w:World)(b:Bool):∀(n t:Nat) (l:List KS),Hs T n t=some l→∀d,n≤d→∀(xs:Array Value) (o:Nat),I4 l (HS xs.toList o l.length)=true→Kd P w b d t xs o
 |0,t,l,h=>by simp[Hs]at h
 |n+1,t,l,h=>by
  intro d hd xs o hx;obtain⟨d,rfl⟩:∃d',d=d'+1:=⟨d-1,by omega⟩;have scalar:∀k,(T t).d≠.other→Jz (T t).d=false→l=[k]→(∀x,Nl k x=true→(Instr.checkKey b (d+1) t x).run P w=.ok () w)→Kd P w b (d+1) t xs o:=by
   rintro k Zf hs rfl hk
   obtain⟨x,x1,x2,x3⟩:=Lo hx;unfold Kd;simp[Sem.run_bind,DT hT w Zf hs xs o _ x1,hk x x2]
  unfold Hs at h;split at h
  ·rename_i k hk;split at h
   ·cases h
    refine scalar _ (by rw[hk];simp) (by rw[hk];rfl) rfl (fun x hx=>?_);cases x<;>simp[Nl]at hx
    simp[Instr.checkKey,run_underlying (hT.int hk)]
   ·cases h
  ·rename_i hk;split at h
   ·cases h
    refine scalar _ (by rw[hk];simp) (by rw[hk];rfl) rfl (fun x hx=>?_);cases x<;>simp[Nl]at hx
    simp[Instr.checkKey,run_underlying (hT.string hk)]
   ·cases h
  ·rename_i hk;split at h
   ·cases h
    refine scalar _ (by rw[hk];simp) (by rw[hk];rfl) rfl (fun x hx=>?_);cases x<;>simp[Nl]at hx
    simp[Instr.checkKey,run_underlying (hT.bool hk)]
   ·cases h
  ·rename_i fs hk;split at h
   ·split at h
    ·rename_i l' JZ;split at h
     ·rename_i CI;cases h;have CI:=AL CI;have Zf:(T t).d≠.other:=by rw[hk];simp
      have hs:Jz (T t).d=true:=by rw[hk];rfl
      obtain⟨fa,u1,u2,u3⟩:=hT.struct hk;rw[u2]at JZ;have ex:(xs.extract o (o+(T t).size)).toList=HS xs.toList o l.length:=by
       rw[←CI];simp[HS]
      have s0:HS (HS xs.toList o l.length) 0 l.length=HS xs.toList o l.length:=by
       rw[bc _ _ _ _ _ (by omega)];rfl
      unfold Kd;simp only[Sem.run_bind,Gx hT w Zf hs,Result.andThen_ok];have ih:=Si w b n;have hq:I4 l (HS (xs.extract o (o+(T t).size)).toList 0 l.length)=true:=by rw[ex,s0];exact hx
      generalize xs.extract o (o+(T t).size)=ys at hq;simp only[Instr.checkKey,Sem.run_bind,run_underlying u1,Result.andThen_ok];rw[←Array.forIn_toList]
      clear u2 hk
      have key : ∀ (fl : List Field) (m : Nat) (l : List KS), NG (Hs T n) m (fl.map fun f => (f.type, f.offset)) = some l → (∀ f ∈ fl, f.name ≠ "_") → I4 l (HS ys.toList m l.length) = true →
        (forIn fl PUnit.unit (fun (f : Field) (_ : PUnit) => ((if f.name ≠ "_" then (do
         let x ←part f.type ys f.offset
         Instr.checkKey b d f.type x
         pure (ForInStep.yield PUnit.unit))else pure (ForInStep.yield PUnit.unit)):Sem (ForInStep PUnit)))).run P w=.ok PUnit.unit w:=by
       intro fl
       induction fl with
       |nil=>intro m l _ _ _;rfl
       |cons f fl ihf =>
        intro m l hg hn hy;obtain⟨ho,a,c,ha,hc,rfl⟩:=Nh hg;rw[Ad]at hy;obtain⟨y1,y2⟩:=Ry hy;rw[Ph _ _ _ _ (by omega)]at y1;rw[Pg,GK]at y2;have h1:=ih f.type a ha d (by omega) ys m y1;unfold Kd at h1;rw[List.forIn_cons];simp only[Sem.run_bind,Aw (hn f (Aa ..))];simp only[Sem.run_bind]at h1;rw[ho];generalize (part f.type ys m).run P w=r1 at h1⊢;cases r1 with
        |halt x w1=>cases h1
        |ok u w1 =>
         simp only[Result.andThen_ok]at h1⊢;rw[h1];simp only[Result.andThen_ok,Sem.run_pure];exact ihf (m+a.length) c hc (fun f hf=>hn f (Ae _ hf)) y2
      rw[key fa.toList 0 l JZ u3 hq]
      rfl
     ·cases h
    ·cases h
   ·cases h
  ·cases h
theorem iC{kt:Nat}{sh:EE}(hs:HJ T kt=some sh)(w:World){x y:Value}(hx:Vs sh x=true)(hy:Vs sh y=true) :
  ∃b:Bool,(Op.equal kt x y).run P w=.ok b w∧(b=true↔x=y):=by
 unfold HJ at hs;split at hs
 ·rename_i fs hk;split at hs
  ·rename_i l hl;cases hs;cases x<;>simp only[Vs]at hx<;>try (cases hx;done)
   cases y<;>simp only[Vs]at hy<;>try (cases hy;done)
   rename_i xs ys;have hd:(T kt).d≠.other:=by rw[hk];simp
   have ha:Jz (T kt).d=true:=by rw[hk];rfl
   have CI:l.length=(T kt).size:=by
    unfold Hs at hl;rw[hk]at hl;dsimp only at hl;split at hl
    ·split at hl
     ·split at hl
      ·rename_i e;cases hl;exact AL e
      ·cases hl
     ·cases hl
    ·cases hl
   have s0:∀zs:Array Value,I4 l zs.toList=true→HS zs.toList 0 l.length=zs.toList:=fun zs hz=>by
    have:=Lb hz
    simp only[HS,List.drop_zero];rw[AT (by omega)]
   have ex:∀zs:Array Value,I4 l zs.toList=true→zs.extract 0 (0+(T kt).size)=zs:=fun zs hz=>by
    have:=Lb hz
    rw[←CI,←this];simp
   obtain⟨b,b1,b2⟩:=V2 hT w 8 kt l hl 10000 (by omega) xs ys 0 (by rw[s0 _ hx];exact hx) (by rw[s0 _ hy];exact hy);simp only[Sem.run_bind,Gx hT w hd ha,Result.andThen_ok,ex _ hx,ex _ hy]at b1;rw[s0 _ hx,s0 _ hy]at b2;refine⟨b,b1,b2.trans ⟨fun e=>by rw[N3 e],fun e=>by cases e;rfl⟩⟩
  ·cases hs
 ·rename_i OL;split at hs
  ·rename_i l hl;cases hs;have LG : I4 l [x]=true:=by cases x<;>exact hx
   have vu : I4 l [y]=true:=by cases y<;>exact hy
   have single:∀k,l=[k]→Nl k x=true∧Nl k y=true:=by
    rintro k rfl
    unfold I4 at LG vu;split at LG
    ·split at vu
     ·exact⟨‹_›,‹_›⟩
     ·cases vu
    ·cases LG
   have e9:Op.equal kt x y=Op.equalIn (9999+1) kt x y:=rfl;rw[e9];unfold Hs at hl;split at hl
   ·rename_i k hk;split at hl
    ·cases hl
     obtain⟨h1,h2⟩:=single _ rfl;cases x<;>simp[Nl]at h1
     cases y<;>simp[Nl]at h2
     obtain rfl:=J4 h1;obtain rfl:=J4 h2;exact⟨_,run_equalIn_int w 9999 kt _ _ _ _ (hT.int hk),by simp⟩
    ·cases hl
   ·rename_i hk;split at hl
    ·cases hl
     obtain⟨h1,h2⟩:=single _ rfl;cases x<;>simp[Nl]at h1
     cases y<;>simp[Nl]at h2
     exact⟨_,run_equalIn_string w 9999 kt _ _ (hT.string hk),by rw[Jv];simp⟩
    ·cases hl
   ·rename_i hk;split at hl
    ·cases hl
     obtain⟨h1,h2⟩:=single _ rfl;cases x<;>simp[Nl]at h1
     cases y<;>simp[Nl]at h2
     exact⟨_,run_equalIn_bool' w 9999 kt _ _ (hT.bool hk),by simp⟩
    ·cases hl
   ·rename_i fs hk;exact absurd hk (OL fs)
   ·cases hl
  ·cases hs
theorem Ms{kt:Nat}{sh:EE}(hs:HJ T kt=some sh)(w:World)(b:Bool){x:Value}(hx:Vs sh x=true):(Instr.checkKey b 10000 kt x).run P w=.ok () w:=by
 unfold HJ at hs;split at hs
 ·rename_i fs hk;split at hs
  ·rename_i l hl;cases hs;cases x<;>simp only[Vs]at hx<;>try (cases hx;done)
   rename_i xs;have hd:(T kt).d≠.other:=by rw[hk];simp
   have ha:Jz (T kt).d=true:=by rw[hk];rfl
   have CI:l.length=(T kt).size:=by
    unfold Hs at hl;rw[hk]at hl;dsimp only at hl;split at hl
    ·split at hl
     ·split at hl
      ·rename_i e;cases hl;exact AL e
      ·cases hl
     ·cases hl
    ·cases hl
   have:=Lb hx
   have h0:HS xs.toList 0 l.length=xs.toList:=by
    simp only[HS,List.drop_zero];rw[AT (by omega)]
   have h1:=Si hT w b 8 kt l hl 10000 (by omega) xs 0 (by rw[h0];exact hx);unfold Kd at h1;simp only[Sem.run_bind,Gx hT w hd ha,Result.andThen_ok]at h1;have ex:xs.extract 0 (0+(T kt).size)=xs:=by rw[←CI,←this];simp
   rw[ex]at h1;exact h1
  ·cases hs
 ·rename_i OL;split at hs
  ·rename_i l hl;cases hs;have key:∀d,(Instr.checkKey b (d+1) kt x).run P w=.ok () w:=by
    intro d;unfold Hs at hl;split at hl
    ·rename_i k hk;simp[Instr.checkKey,run_underlying (hT.int hk)]
    ·rename_i hk;simp[Instr.checkKey,run_underlying (hT.string hk)]
    ·rename_i hk;simp[Instr.checkKey,run_underlying (hT.bool hk)]
    ·rename_i fs hk;exact absurd hk (OL fs)
    ·cases hl
   exact key 9999
  ·cases hs
end
def M3(x:Value)(es:List MapEntry)(i:Nat)(r:Option (Nat×Value)):Prop :=
 (r=none∧∀e∈es,e.key≠x)∨∃(j:Nat) (e:MapEntry),r=some (i+j,e.val)∧es[j]?=some e∧e.key=x
theorem M3.here{x:Value}{es:List MapEntry}{i:Nat}{e:MapEntry}(h:e.key=x):M3 x (e::es) i (some (i,e.val)) :=
 .inr ⟨0,e,rfl,rfl,h⟩
theorem M3.there{x:Value}{es:List MapEntry}{i:Nat}{e:MapEntry}{r:Option (Nat×Value)}(h:e.key≠x)(k:M3 x es (i+1) r):M3 x (e::es) i r:=by
 rcases k with ⟨h1,h2⟩ | ⟨j,e',h1,h2,h3⟩
 ·exact .inl ⟨h1,fun d hd=>(Aq.1 hd).elim (fun e'=>e'▸h) (h2 d)⟩
 ·exact .inr ⟨j+1,e',by rw[h1,Gl,Nat.add_comm 1 j],h2,h3⟩
theorem Sz{kind:TypeDesc}{x:Value}:∀(es:List MapEntry) (i:Nat),(∀e∈es,∃b,Instr.sameNow kind x e.key=some b∧(b=true↔x=e.key))→∃r,Instr.findNow kind x es i=some r∧M3 x es i r
 | [],i,_=>⟨none,rfl,.inl ⟨rfl,fun _ h=>by cases h⟩⟩
 |e::es,i,h=>by
  obtain⟨b,b1,b2⟩:=h e (Aa ..);cases b with
  |true=>exact⟨_,by simp[Instr.findNow,b1],.here (b2.1 rfl).symm⟩
  |false =>
   obtain⟨r,r1,r2⟩:=Sz es (i+1) (fun d hd=>h d (Ae _ hd));exact⟨r,by simp[Instr.findNow,b1,r1],.there (fun e'=>by have:=b2.2 e'.symm;cases this) r2⟩
section
variable {P:Program}{T:Gm}(hT:Cz P T)
include hT
theorem Nc{kt:Nat}{sh:EE}(hs:HJ T kt=some sh)(w:World){x:Value}(hx:Vs sh x=true) :
  ∀(es:List MapEntry) (i:Nat),(∀e∈es,Vs sh e.key=true)→∃r,(Instr.findAsking kt x es i).run P w=.ok r w∧M3 x es i r
 | [],i,_=>⟨none,rfl,.inl ⟨rfl,fun _ h=>by cases h⟩⟩
 |e::es,i,h=>by
  obtain⟨b,b1,b2⟩:=iC hT hs w hx (h e (Aa ..));cases b with
  |true=>exact⟨_,by simp[Instr.findAsking,b1],.here (b2.1 rfl).symm⟩
  |false =>
   obtain⟨r,r1,r2⟩:=Nc hs w hx es (i+1) (fun d hd=>h d (Ae _ hd));exact⟨r,by simp[Instr.findAsking,b1,r1],.there (fun e'=>by have:=b2.2 e'.symm;cases this) r2⟩
theorem N0{kt:Nat}{sh:EE}(hs:HJ T kt=some sh)(w:World){x:Value}(hx:Vs sh x=true)(es:List MapEntry)(he:∀e∈es,Vs sh e.key=true) :
  ∃r,(Instr.findKey kt x es).run P w=.ok r w∧M3 x es 0 r:=by
 have mG:∀d,P.underlying kt=some d→Instr.findNow d x es 0=none→∃r,(Instr.findKey kt x es).run P w=.ok r w∧M3 x es 0 r:=by
  intro d hd hn;obtain⟨r,r1,r2⟩:=Nc hT hs w hx es 0 he;exact⟨r,by simp[Instr.findKey,run_underlying hd,hn,r1],r2⟩
 have now:∀d,P.underlying kt=some d→(∀e∈es,∃b,Instr.sameNow d x e.key=some b∧(b=true↔x=e.key))→∃r,(Instr.findKey kt x es).run P w=.ok r w∧M3 x es 0 r:=by
  intro d hd hn;obtain⟨r,r1,r2⟩:=Sz es 0 hn;exact⟨r,by simp[Instr.findKey,run_underlying hd,r1],r2⟩
 have U6:=hs;unfold HJ at U6;split at U6
 ·rename_i fs hk;obtain⟨fa,u1,_⟩:=hT.struct hk;cases es with
  |nil=>exact⟨none,by simp[Instr.findKey,run_underlying u1,Instr.findNow],.inl ⟨rfl,fun _ h=>by cases h⟩⟩
  |cons e es =>
   refine mG _ u1 ?_;split at U6
   ·cases U6
    cases x<;>simp only[Vs]at hx<;>try (cases hx;done)
    simp[Instr.findNow,Instr.sameNow]
   ·cases U6
 ·rename_i OL;split at U6
  ·rename_i l hl;cases U6;have cv:∀y,Vs ⟨false,l⟩ y=true→I4 l [y]=true:=fun y hy=>by cases y<;>exact hy
   have LG:=cv x hx;have uD : ∀e∈es,I4 l [e.key]=true:=fun e h=>cv _ (he e h)
   clear hx he cv
   have single:∀k y,l=[k]→I4 l [y]=true→Nl k y=true:=by
    rintro k y rfl h
    unfold I4 at h;split at h
    ·assumption
    ·cases h
   unfold Hs at hl;split at hl
   ·rename_i k hk;split at hl
    ·cases hl
     refine now _ (hT.int hk) (fun e h=>?_);have h1:=single _ _ rfl LG;have h2:=single _ _ rfl (uD e h);generalize e.key=y at h2;cases x<;>simp[Nl]at h1
     cases y<;>simp[Nl]at h2
     obtain rfl:=J4 h1;obtain rfl:=J4 h2;exact⟨_,by simp[Instr.sameNow];rfl,by simp⟩
    ·cases hl
   ·rename_i hk;split at hl
    ·cases hl
     refine now _ (hT.string hk) (fun e h=>?_);have h1:=single _ _ rfl LG;have h2:=single _ _ rfl (uD e h);generalize e.key=y at h2;cases x<;>simp[Nl]at h1
     cases y<;>simp[Nl]at h2
     exact⟨_,by simp[Instr.sameNow];rfl,by rw[beq_toListBytes,Jv];simp⟩
    ·cases hl
   ·rename_i hk;split at hl
    ·cases hl
     refine now _ (hT.bool hk) (fun e h=>?_);have h1:=single _ _ rfl LG;have h2:=single _ _ rfl (uD e h);generalize e.key=y at h2;cases x<;>simp[Nl]at h1
     cases y<;>simp[Nl]at h2
     exact⟨_,by simp[Instr.sameNow];rfl,by simp⟩
    ·cases hl
   ·rename_i fs hk;exact absurd hk (OL fs)
   ·cases hl
  ·cases U6
end
theorem Rb{P:Program}(w:World){sh:EE}{x:Value}(hx:Vs sh x=true):(Instr.keyThatStays x x).run P w=.ok x w:=by
 have scalar:∀(k:KS) (y:Value) (n:Nat),Nl k y=true→Instr.sameBits n y y=true:=by
  intro k y n h;cases k<;>cases y<;>simp[Nl]at h<;>cases n<;>simp[Instr.sameBits,beq_toListBytes]
 have lst:∀(l:List KS) (ys:List Value) (n:Nat),I4 l ys=true→((ys.zip ys).all fun(a,b)=>Instr.sameBits n a b)=true:=by
  intro l ys n
  induction ys generalizing l with
  |nil=>intro _;rfl
  |cons y ys ih =>
   intro h;cases l with
   |nil=>simp[I4]at h
   |cons k l =>
    unfold I4 at h;split at h
    ·rename_i hk;simp only[List.zip_cons_cons,List.all_cons,scalar k y n hk,EA];exact ih l h
    ·cases h
 have h1:∀n,Instr.sameBits (n+1) x x=true:=by
  intro n;obtain⟨ag,l⟩:=sh;cases ag with
  |true =>
   cases x<;>simp only[Vs]at hx<;>try (cases hx;done)
   have:=lst l _ n hx
   simp only[Instr.sameBits,beq_self_eq_true,EA];exact this
  |false =>
   have LG : I4 l [x]=true:=by cases x<;>exact hx
   cases l with
   |nil=>simp[I4]at LG
   |cons k l =>
    unfold I4 at LG;split at LG
    ·rename_i hk;exact scalar k x (n+1) hk
    ·cases LG
 have:=h1 9999
 simp only[Instr.keyThatStays];rw[Aw this]
 rfl
theorem VA:∀{cs:List AV} {l:List Value},WG cs=some l→cs=l.map .v
 | [],l,h=>by cases h;rfl
 |a::r,l,h=>by
  cases a<;>simp only[WG]at h<;>try (cases h;done)
  split at h
  ·rename_i l' hl;cases h;rw[VA hl];rfl
  ·cases h
theorem kp{g:Gh}{w:World}{U:Nat→Prop}{a:AV}{x y:Value}(h:BH g w U a x)(hk:nQ a=some y):x=y:=by
 unfold nQ at hk;split at hk
 ·cases hk;exact h.v_eq
 ·split at hk
  ·rename_i l hl;cases hk;obtain rfl:=VA hl;exact h.agg_vals
  ·cases hk
 ·cases hk
theorem MK{T:Gm}{g:Gh}{w:World}{U:Nat→Prop}{ty:Nat}{sh:EE}{a:AV}{x:Value}{K:Value→Prop}(h:BH g w U a x)(hk:J5 T ty sh a K) :
  ∃kt e,(T ty).d=.map kt e∧HJ T kt=some sh∧Vs sh x=true∧K x:=by
 unfold J5 at hk;split at hk
 ·rename_i kt e ht;split at hk
  ·rename_i sZ hs;split at hk
   ·rename_i zI;obtain rfl:=lm zI;split at hk
    ·rename_i kx Pt;obtain rfl:=kp h Pt;split at hk
     ·rename_i hb;exact⟨kt,e,ht,hs,hb,hk⟩
     ·exact hk.elim
    ·exact hk.elim
   ·exact hk.elim
  ·exact hk.elim
 ·exact hk.elim
theorem G3.shape{sh:EE}{es:Array MapEntry}{ck:Nat}{B3:List (Value×AV)}(h:G3 sh es ck B3):∀e∈es.toList,Vs sh e.key=true:=by
 intro e he;obtain⟨h1,h2,h3,_⟩:=h;obtain⟨i,hi⟩:=B9.1 he;have DI:i<B3.length:=by rw[←h1];have:=(At.1 hi).1;simpa using this
 rw[h2 i B3[i] e (Az DI) (by simpa using hi)];exact h3 _ (Ap DI)
theorem G3.none{sh:EE}{es:Array MapEntry}{ck:Nat}{B3:List (Value×AV)}(h:G3 sh es ck B3){x:Value}(hn:∀e∈es.toList,e.key≠x)(a:AV):(x,a)∉B3:=by
 intro hm;obtain⟨h1,h2,_⟩:=h;obtain⟨i,hi⟩:=B9.1 hm;have DI:i<es.size:=by rw[h1];exact(At.1 hi).1
 exact hn es[i] (by simp) (h2 i _ es[i] hi (by simp[DI]))
theorem G3.some{sh:EE}{es:Array MapEntry}{ck:Nat}{B3:List (Value×AV)}(h:G3 sh es ck B3){x:Value}{j:Nat}{e:MapEntry}(he:es.toList[j]?=some e)(hk:e.key=x) :
  ∃a,B3[j]?=some (x,a)∧(x,a)∈B3:=by
 obtain⟨h1,h2,_⟩:=h;have DI:j<B3.length:=by rw[←h1];have:=(At.1 he).1;simpa using this
 have hg:B3[j]?=Option.some B3[j]:=Az DI
 have:=h2 j B3[j] e hg (by simpa using he)
 have e2:B3[j]=(x,B3[j].2):=by rw[←hk,this]
 exact⟨B3[j].2,by rw[hg];exact Ac _ e2,by rw[←e2];exact Ap DI⟩
section
variable {P:Program}{T:Gm}(hT:Cz P T){h:Nat→HO}{g:Gh}{w:World}{K:AV→Prop}
section
include hT
theorem VE{t:Nat}(hk:Kc T t K):BQ P h g w (zeroValue t) K:=by
 unfold Kc at hk;split at hk
 ·exact hk.elim
 ·rename_i hd;obtain⟨z,z1,z2,z3⟩:=Pq hT (w:=w) hd;rw[z3]at hk;split at hk
  ·rename_i cs;split at hk
   ·rename_i ha;have hr:=CG.vals (g:=g) (w:=w) (U:=AR h) ha;exact⟨_,_,z1,hk,.agg _ _ _ (by simp) (fun i x hx=>hr.2.1 x (Av (by simpa using hx))) (fun i av x h1 h2=>hr.2.2 i av x h1 (by simpa using h2))⟩
   ·exact hk.elim
  ·exact⟨_,_,z1,hk,.v _ _⟩
theorem JN{ty b:Nat}{kt e:Nat}{sh:EE}{es:Array MapEntry}{ck:Nat}{B3:List (Value×AV)}{x:Value}{ok:Bool}(ht:(T ty).d=.map kt e)(hs:HJ T kt=some sh)(hx:Vs sh x=true)
  (hb:w.heap[b]?=some (.map es ck)) (hm:G3 sh es ck B3) (hv:∀(i:Nat) (kv:Value×AV) (e:MapEntry),B3[i]?=some kv→es[i]?=some e→BH g w (AR h) kv.2 e.val)
  (hk:L7 T ty ok B3 x K):BQ P h g w (Instr.lookup ty (.map (some b)) x ok) K:=by
 have hu:=hT.map ht;have Fb:=run_getObj_map (P:=P) w b es ck hb;have T3:=fun bb=>Ms hT hs w bb hx;obtain⟨r,r1,r2⟩:=N0 hT hs w hx es.toList hm.shape;unfold L7 at hk;rw[ht]at hk;dsimp only at hk;rcases r2 with ⟨rfl,hn⟩ | ⟨j,en,rfl,hj,hkey⟩
 ·have XJ:=fun a=>hm.none hn a;cases ok with
  |true =>
   obtain⟨y,av,y1,y2,y3⟩:=VE hT (K:=fun z=>K (.tup [z,.v (.bool false)])) (P:=P) (h:=h) (g:=g) (w:=w) (hk.2 XJ);refine⟨.tuple #[y,.bool false],_,?_,y2,.tup _ _ _ rfl (fun i a x h1 h2=>?_)⟩
   ·simp[Instr.lookup,run_underlying hu,Fb,T3,r1,y1]
   ·match i,h1,h2 with
    |0,h1,h2=>simp at h1 h2;subst h1;subst h2;exact y3
    |1,h1,h2=>simp at h1 h2;subst h1;subst h2;exact .v _ _
  |false =>
   obtain⟨y,av,y1,y2,y3⟩:=VE hT (K:=K) (P:=P) (h:=h) (g:=g) (w:=w) (hk.2 XJ);exact⟨y,av,by simp[Instr.lookup,run_underlying hu,Fb,T3,r1,y1],y2,y3⟩
 ·obtain⟨a,a1,a2⟩:=hm.some hj hkey;have hr:=hv j (x,a) en a1 (by simpa using hj);cases ok with
  |true =>
   refine⟨.tuple #[en.val,.bool true],_,?_,hk.1 a a2,.tup _ _ _ rfl (fun i av y h1 h2=>?_)⟩
   ·simp[Instr.lookup,run_underlying hu,Fb,T3,r1]
   ·match i,h1,h2 with
    |0,h1,h2=>simp at h1 h2;subst h1;subst h2;exact hr
    |1,h1,h2=>simp at h1 h2;subst h1;subst h2;exact .v _ _
  |false=>exact⟨en.val,a,by simp[Instr.lookup,run_underlying hu,Fb,T3,r1],hk.1 a a2,hr⟩
theorem Zs(ho:∀r,Eg g w (AR h) r (h r)){ty:Nat}{m k:AV}{vm vk:Value}{ok:Bool}(hm:BH g w (AR h) m vm)(hx:BH g w (AR h) k vk)(hk:MN T h ty m k ok K) :
  BQ P h g w (Instr.lookup ty vm vk ok) K:=by
 unfold MN at hk;split at hk
 ·obtain⟨kt,e,k1,k2,k3,k4⟩:=MK hx hk;cases hm with
  |cmap _ _ _ b es ck hS hb hmm hv=>exact JN hT k1 k2 k3 hb hmm (fun i kv e p q=>(hv i kv e p q).up _) k4
 ·rename_i r;have hr:=ho r;cases hm with
  |mref _ _ b hu ht hp =>
   split at hk
   ·rename_i sh B3 e;rw[e]at hr;obtain⟨_,b',es,ck,a1,a2,a3,a4,a5,a6⟩:=hr;rw[a2]at hp;cases hp;obtain⟨kt,e,k1,k2,k3,k4⟩:=MK hx hk;exact JN hT k1 k2 k3 a3 a4 (fun i kv e p q=>(a5 i kv e p q).up _) k4
   ·rename_i sh B3 e;rw[e]at hr;obtain⟨_,b',es,ck,a1,a2,a3,a4,a5,a6⟩:=hr;rw[a2]at hp;cases hp;obtain⟨kt,e,k1,k2,k3,k4⟩:=MK hx hk;exact JN hT k1 k2 k3 a3 a4 a5 k4
   ·rename_i sh B3 e;rw[e]at hr;obtain⟨_,b',a1,a2⟩:=hr;rw[a1]at hp;cases hp;obtain⟨kt,e,k1,k2,k3,k4⟩:=MK hx hk;cases a2 with
    |cmap _ _ _ _ es ck hS hb hmm hv=>exact JN hT k1 k2 k3 hb hmm (fun i kv e p q=>(hv i kv e p q).up _) k4
   ·exact hk.elim
 ·exact hk.elim
omit hT in
theorem OG{ty:Nat}{ok:Bool}{B3:List (Value×AV)}{kx:Value}(hk:L6 T ty ok B3 kx K):L7 T ty ok B3 kx K:=by
 unfold L6 at hk;unfold L7;split at hk
 ·rename_i e;split at hk
  ·rcases hk with ⟨a,⟨h1,h2⟩,h3⟩ | ⟨h1,h2⟩
   ·exact⟨fun b hb=>by rw[h2 b hb];exact h3,fun hn=>absurd h1 (hn a)⟩
   ·exact⟨fun b hb=>absurd hb (h1 b),fun _=>h2⟩
  ·rcases hk with ⟨a,⟨h1,h2⟩,h3⟩ | ⟨h1,h2⟩
   ·exact⟨fun b hb=>by rw[h2 b hb];exact h3,fun hn=>absurd h1 (hn a)⟩
   ·exact⟨fun b hb=>absurd hb (h1 b),fun _=>h2⟩
 ·exact hk.elim
omit hT in
theorem MJ{ty:Nat}{sh:EE}{k:AV}{A B:Value→Prop}(hk:J5 T ty sh k A)(je:∀x,A x→B x):J5 T ty sh k B:=by
 unfold J5 at *
 repeat' split at hk
 all_goals first | exact hk.elim | skip
 simp_all
omit hT in
theorem cI{ty:Nat}{m k:AV}{ok:Bool}(hk:MM T h ty m k ok K):MN T h ty m k ok K:=by
 unfold MM at hk;unfold MN;split at hk
 ·exact MJ hk fun _=>OG
 ·split at hk
  ·exact MJ hk fun _=>OG
  ·exact MJ hk fun _=>OG
  ·exact MJ hk fun _=>OG
  ·exact hk.elim
 ·exact hk.elim
theorem gu(ho:∀r,Eg g w (AR h) r (h r)){t ty:Nat}{x:AV}{vx:Value}(hx:BH g w (AR h) x vx)(hk:QR T t h x K):BQ P h g w (Builtin.len_ #[t] ty #[vx]) K:=by
 unfold QR at hk;split at hk
 ·rename_i e ht;have hu:=hT.slice ht;have run:∀a n c,(Builtin.len_ #[t] ty #[.slice a n c]).run P w=.ok (.int .i64 n) w:=fun a n c=>by simp[Builtin.len_,run_underlying hu,goInt]
  split at hk
  ·have hs:=hx.slice_none;cases hs with
   |snil _ a cap=>exact⟨_,_,run a 0 cap,hk,.v _ _⟩
   |slice _ _ b off sz cap val hc=>exact⟨_,_,run _ _ _,hk,.v _ _⟩
  ·cases hx with
   |msl=>exact⟨_,_,run _ _ _,hk,.v _ _⟩
  ·obtain rfl:=hx.v_eq;exact⟨_,_,run _ _ _,hk,.v _ _⟩
  ·exact hk.elim
 ·rename_i ht;split at hk
  ·obtain rfl:=hx.v_eq;exact⟨_,_,by simp[Builtin.len_,run_underlying (hT.string ht),goInt],hk,.v _ _⟩
  ·exact hk.elim
 ·rename_i k e ht;have hu:=hT.map ht;have run:∀b es ck,w.heap[b]?=some (.map es ck)→(Builtin.len_ #[t] ty #[.map (some b)]).run P w=.ok (.int .i64 es.size) w:=fun b es ck hb=>by
   simp[Builtin.len_,run_underlying hu,goInt,run_getObj_map (P:=P) w b es ck hb]
  split at hk
  ·cases hx with
   |cmap _ _ _ b es ck hS hb hmm hv=>exact⟨_,_,run b es ck hb,by rw[hmm.1];exact hk,.v _ _⟩
  ·rename_i r;have hr:=ho r;cases hx with
   |mref _ _ b fX ht' hp =>
    split at hk
    ·rename_i sh B3 e;rw[e]at hr;obtain⟨_,b',es,ck,a1,a2,a3,a4,a5,a6⟩:=hr;rw[a2]at hp;cases hp;exact⟨_,_,run _ es ck a3,by rw[a4.1];exact hk,.v _ _⟩
    ·rename_i sh B3 e;rw[e]at hr;obtain⟨_,b',es,ck,a1,a2,a3,a4,a5,a6⟩:=hr;rw[a2]at hp;cases hp;exact⟨_,_,run _ es ck a3,by rw[a4.1];exact hk,.v _ _⟩
    ·rename_i sh B3 e;rw[e]at hr;obtain⟨_,b',a1,a2⟩:=hr;rw[a1]at hp;cases hp;cases a2 with
     |cmap _ _ _ _ es ck hS hb hmm hv=>exact⟨_,_,run _ es ck hb,by rw[hmm.1];exact hk,.v _ _⟩
    ·exact hk.elim
  ·exact hk.elim
 ·exact hk.elim
end
theorem Wo(ho:∀r,Eg g w (AR h) r (h r)){t:Nat→AV}{ρ:Operand→Value}(ht:∀x:Operand,BH g w (AR h) (ev t x) (ρ x)){fn:Fn}{first cap:Array Operand}(hk:Kz t h fn first.toList cap.toList K) :
  BQ P h g w (Instr.makeFunc fn (first.map ρ) (cap.map ρ)) K:=by
 unfold Kz at hk;split at hk
 ·rename_i f e;have hf:first=#[]:=by
   apply N3;simpa using e
  subst hf;refine⟨_,_,rfl,hk,?_⟩;have e0:Array.map ρ (#[]:Array Operand)=#[]:=by simp
  rw[e0];refine .clo _ f (cap.toList.map fun x=>rsv h (ev t x)) (cap.map ρ) (by simp) (fun i av x h1 h2=>?_);rw[AG,A1]at h1;obtain⟨y,y1,rfl⟩:=h1;rw[N4,A1]at h2;obtain⟨z,z1,rfl⟩:=h2
  have:y=z:=by
   have:=y1
   rw[A3,z1]at this;exact(BM this).symm
  subst this;exact(ht y).rsv ho
 ·exact hk.elim
theorem Wr{x:AV}{vx:Value}(hx:BH g w (AR h) x vx)(hk:KD x K){pos:String}{after:Array Edge}{gd:Option (Nat×Bool)}{dst:Option Tmp}{ty:Nat}{ρ:Operand→Value}{X:Operand}(hX:ρ X=vx) :
  (execOp ρ ⟨dst,.nilCheck X,ty,pos,after,gd⟩).run P w=.ok (.value vx) w∧K x:=by
 subst hX;unfold KD at hk;split at hk
 all_goals first
  |exact hk.elim
  |(refine⟨?_,hk⟩;generalize hq:ρ X=q at hx;cases hx;simp[execOp,hq];done)
theorem bW(ho:∀r,Eg g w (AR h) r (h r)){x:AV}{vx:Value}(hx:BH g w (AR h) x vx)(hk:Y3 h x K):BQ P h g w (Instr.entry vx) K:=by
 unfold Y3 at hk;split at hk
 ·rename_i r;have hr:=ho r;split at hk
  ·rename_i all rem kv e;rw[e]at hr;cases hx with
   |ref _ _ _ b hu ht hp =>
    obtain⟨_,b',mb,JR,seen,st,es,ck,a1,a2,a3,a4,a5,⟨sh,a6⟩,a7,a8,a9,WV,ZY,a12,my⟩:=hr;rw[a2]at hp;cases hp;obtain⟨i,en,c1,c2,c3⟩:=a12;have qr:es.find? (fun e=>e.born == en.born)=some en:=by
     rw[Array.find?_eq_some_iff_getElem];obtain⟨DI,he⟩:=Bx.1 c2;refine⟨by simp,i,DI,he,fun j hj=>?_⟩;have fQ : j<es.size:=by omega
     simp only[CT,beq_eq_false_iff_ne,Vj];intro e'
     have:=a6.2.2.2.2.2 j i es[j] en (by simp[fQ]) c2 e'
     omega
    have hkey:=a6.2.1 i kv en c1 c2;refine⟨.tuple #[en.key,en.val],_,?_,hk,.tup _ _ _ rfl (fun k av y h1 h2=>?_)⟩
    ·have SP:(getObj b).run P w=.ok (.mapIter (some mb) JR seen st) w:=by simp[getObj,Sem.run,a3]
     have fM:=run_getObj_map (P:=P) w mb es ck a5;simp[Instr.entry,SP,c3,fM,a8,qr]
    ·match k,h1,h2 with
     |0,h1,h2=>simp at h1 h2;subst h1;subst h2;rw[hkey];exact .v _ _
     |1,h1,h2=>simp at h1 h2;subst h1;subst h2;exact(a9 i kv en c1 c2).up _
  ·exact hk.elim
 ·exact hk.elim
end
end Go.Eng
