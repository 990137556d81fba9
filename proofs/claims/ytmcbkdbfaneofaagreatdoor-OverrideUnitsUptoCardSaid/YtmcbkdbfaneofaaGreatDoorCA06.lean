/- Lemmas for the claims of this seat, without a condition: part 6 (EngH, EngI, EngJ, EngK, EngL, EngM). -/
import Derived.Test.YtmcbkdbfaneofaaGreatDoorCA05
import Derived.Laws.IdiomStrings
import Derived.Lib.BufferRead
namespace Go.Eng
section
variable {P:Program}{T:Gj}(hT:Cw P T){h:Nat→HO}{g:Gh}{w:World}{K:AV→Prop}
section
include hT
theorem Ua{t:Nat}{x ix:AV}{vx vi:Value}(hx:BG g w (AR h) x vx)(hi:BG g w (AR h) ix vi)(hk:Jc T t x ix K):BO P h g w (Instr.indexAt t vx vi) K:=by
 unfold Jc at hk;split at hk
 ·rename_i e i ht;obtain rfl:=hi.v_eq;have hu:=hT.slice ht;split at hk
  ·exact hk.elim
  ·rename_i m hm;have CM:∀b off (len cap:Nat),0≤i→i<(len:Int)→(Instr.indexAt t (.slice (some ⟨b,off,none⟩) len cap) (.int .i64 i)).run P w=.ok (.pointer (some ⟨b,off+i.toNat*(T e).size,none⟩)) w:=fun b off len cap h0 h1=>by
    simp[Instr.indexAt,asIntOf,run_underlying hu,h0,h1,hT.size1 w hm,Addr.add_lit,hm]
   split at hk
   ·rename_i tk es;obtain⟨cs,⟨h0,h1⟩,h2,hk⟩:=hk;have hs:=hx.slice_none;have DF:=(As.1 h1).1;cases hs with
    |snil=>simp at h1
    |slice _ _ b off sz cap val hc hl DB Ea =>
     have EB:sz=(T e).size:=by rw[←h2];exact(hl _ _ h1).symm
     subst EB;refine⟨_,_,CM b off es.length cap h0 (by omega),hk,.cptr _ cs b _ (val i.toNat) (fun j av hj=>?_) (fun j av hj=>Ea _ _ _ _ h1 hj)⟩;exact DB _ _ _ _ h1 hj
   ·rename_i r n;obtain⟨⟨h0,h1⟩,hk⟩:=hk;cases hx with
    |msl _ _ _ a cap fD ht' hn ha Ls =>
     rcases ha with rfl | ⟨b,rfl⟩
     ·omega
     ·refine⟨_,_,CM b 0 n cap h0 h1,hk,?_⟩;rw[Bi];exact .eref _ r n _ _ 0 b cap fD ht' ⟨by omega,hn⟩ (fun e=>(Ls e).symm)
   ·exact hk.elim
 ·rename_i n e i ht;obtain rfl:=hi.v_eq;have hu:=hT.array ht;split at hk
  ·exact hk.elim
  ·rename_i m hm;have CM:∀b off,0≤i→i<(n:Int)→(Instr.indexAt t (.pointer (some ⟨b,off,none⟩)) (.int .i64 i)).run P w=.ok (.pointer (some ⟨b,off+i.toNat*(T e).size,none⟩)) w:=fun b off h0 h1=>by
    simp[Instr.indexAt,asIntOf,run_underlying hu,h0,h1,hT.size1 w hm,Addr.add_lit,hm,Instr.sureAddr]
   split at hk
   ·cases hx with
    |cptr _ _ b off val DB Ea=>exact⟨_,_,CM b off hk.1.1 hk.1.2,hk.2,(BG.cptr _ _ b off val DB Ea).cptr_drop _⟩
   ·rename_i r off;cases hx with
    |ref _ _ _ b hu ht hp=>exact⟨_,_,CM b off hk.1.1 hk.1.2,hk.2,.ref _ r _ b hu ht hp⟩
   ·exact hk.elim
 ·exact hk.elim
theorem bV{t:Nat}{x ix:AV}{vx vi:Value}(hx:BG g w (AR h) x vx)(hi:BG g w (AR h) ix vi)(hk:SL T t x ix K):BO P h g w (Instr.index t vx vi) K:=by
 unfold SL at hk;split at hk
 ·rename_i s i ht;obtain rfl:=hx.v_eq;obtain rfl:=hi.v_eq;obtain⟨b,⟨h0,h1⟩,hk⟩:=hk;refine BO.val (x:=.int .u8 b.toNat) ?_ hk;have h2:s[i.toNat]?=some b:=by
   have:=(Bw.1 h1)
   obtain⟨l1,l2⟩:=this;have rZ : i.toNat<s.size:=l1;rw[getElem?_pos s i.toNat rZ];exact Ac some l2
  simp[Instr.index,asIntOf,run_underlying (hT.string ht),h0,h2]
 ·rename_i n e cs i ht;obtain rfl:=hi.v_eq;obtain⟨⟨h0,h1⟩,hk⟩:=hk;cases hx with
  |agg _ _ xs a1 a2 a3 =>
   have hd:(T e).d≠.other:=by
    intro e';unfold X2 Ll at hk;rw[e']at hk;exact hk.elim
   obtain⟨y,av,p1,p2,p3⟩:=X3 hT (WF.of_agg (.agg _ _ xs a1 a2 a3) _) hk;refine⟨y,av,?_,p2,p3⟩;simp[Instr.index,asIntOf,run_underlying (hT.array ht),h0,h1,hT.size w hd,p1]
 ·exact hk.elim
theorem dZ{s t:Nat}{x:AV}{vx:Value}(hx:BG g w (AR h) x vx)(hk:WY T s t x K):BO P h g w (convert s t vx) K:=by
 unfold WY at hk;split at hk
 ·rename_i k n h1 h2;obtain rfl:=hx.v_eq;refine BO.val (x:=.int .i64 n) ?_ hk.2;have hw:=MJ hk.1;simp[convert,run_underlying (hT.int h1),run_underlying (hT.int h2),Conv.intToInt,hw]
 ·rename_i k k' m n Dz h1 h2;obtain rfl:=hx.v_eq;refine BO.val (x:=.int k' (k'.wrap n)) ?_ hk;simp[convert,run_underlying (hT.int h1),run_underlying (hT.int h2),Conv.intToInt]
 ·rename_i s' h1 h2;obtain rfl:=hx.v_eq;refine BO.val (x:=.string s') ?_ hk;simp[convert,run_underlying (hT.string h1),run_underlying (hT.string h2)]
 ·rename_i e tk es h1 h2;split at hk
  ·rename_i h3;obtain⟨l,rfl,hk⟩:=hk;have hr:=hx.slice_none;refine BO.val (x:=.string ⟨l.toArray⟩) ?_ hk;generalize hes:l.map (fun b=>[AV.v (.int .u8 b.toNat)])=es at hr;cases hr with
   |snil _ a cap =>
    have hl:l=[]:=by cases l with | nil=>rfl | cons b l=>cases hes
    subst hl;cases a with
    |none=>exact Lib.run_convert_nil_bytes w s t e cap (hT.slice h1) (hT.int h3) (hT.string h2)
    |some a=>exact run_convert_bytes_back w s t e a cap [] (hT.slice h1) (hT.int h3) (hT.string h2) (fun j hj=>by simp at hj)
   |slice _ _ b off sz cap val hc hl DB Ea =>
    have CE:l.length=es.length:=by rw[←hes];simp
    have:=run_convert_bytes_back (P:=P) w s t e ⟨b,off,none⟩ cap l (hT.slice h1) (hT.int h3) (hT.string h2) (fun j hj=>by
     have hg:es[j]?=some [AV.v (.int .u8 l[j].toNat)]:=by rw[←hes,AG,Ay hj];rfl
     have Rb:sz=1:=(hl j _ hg).symm;have h4:=DB j _ 0 _ hg rfl;have h5:=Ea j _ 0 _ hg rfl;rw[Addr.add_lit];rw[Rb,Nat.mul_one,Dx]at h4;rw[h4.2.1,h5.v_eq])
    rw[CE]at this;exact this
  ·exact hk.elim
 ·exact hk.elim
end
theorem ir{op:UnOp}{x:AV}{vx:Value}(hx:BG g w (AR h) x vx)(hk:Yf op x K):BO P h g w (Op.unary op vx) K:=by
 unfold Yf at hk;split at hk
 ·unfold cu at hk;split at hk
  ·obtain rfl:=hx.v_eq;exact BO.val (x:=.bool false) (by simp[Op.unary]) hk
  ·obtain rfl:=hx.v_eq;exact BO.val (x:=.bool true) (by simp[Op.unary]) hk
  ·exact hk.elim
 ·rename_i a;obtain rfl:=hx.v_eq;refine BO.val (x:=.int .i64 (-a)) ?_ hk.2
  have:=MJ hk.1
  simp[Op.unary,Op.intArith,this]
 ·exact hk.elim
theorem XV:∀{l:List AV} {j:Nat} {a:AV},ka l j=some a→l[j]?=some a
 | [],j,a,h=>by cases h
 |b::r,0,a,h=>by simpa[ka]using h
 |b::r,j+1,a,h=>by simpa using XV (l:=r) (j:=j) h
theorem Xb{i:Nat}{x:AV}{vx:Value}(hx:BG g w (AR h) x vx)(hk:LI x i K):BO P h g w (Instr.extract vx i) K:=by
 unfold LI at hk;split at hk
 ·rename_i cs;cases hx with
  |tup _ _ vs hs hh =>
   split at hk
   ·rename_i a ha;have hc:=XV ha;have hi:i<vs.size:=by rw[hs];exact(As.1 hc).1
    exact⟨vs[i],_,by simp[Instr.extract,hi],hk,hh _ _ _ hc (by simp[hi])⟩
   ·exact hk.elim
 ·exact hk.elim
theorem gA{c a b:AV}{vc va vb:Value}(hc:BG g w (AR h) c vc)(ha:BG g w (AR h) a va)(hb:BG g w (AR h) b vb)(hk:X4 c a b K) :
  BO P h g w (do pure (if ←asBool vc then va else vb)) K:=by
 unfold X4 at hk;split at hk
 ·obtain rfl:=hc.v_eq;exact⟨va,a,by simp[asBool],hk,ha⟩
 ·obtain rfl:=hc.v_eq;exact⟨vb,b,by simp[asBool],hk,hb⟩
 ·exact hk.elim
theorem jU{t:Nat}{GC:Array TypeId}{x y:AV}{vx vy:Value}(hx:BG g w (AR h) x vx)(hy:BG g w (AR h) y vy)(hk:jX max x y K):BO P h g w (Builtin.max_ GC t #[vx,vy]) K:=by
 unfold jX at hk;split at hk
 ·rename_i k a k' b;split at hk
  ·obtain rfl:=hx.v_eq;obtain rfl:=hy.v_eq;refine BO.val (x:=.int k (max a b)) ?_ hk;simp[Builtin.max_,Builtin.max2];omega
  ·exact hk.elim
 ·exact hk.elim
theorem jW{t:Nat}{GC:Array TypeId}{x y:AV}{vx vy:Value}(hx:BG g w (AR h) x vx)(hy:BG g w (AR h) y vy)(hk:jX min x y K):BO P h g w (Builtin.min_ GC t #[vx,vy]) K:=by
 unfold jX at hk;split at hk
 ·rename_i k a k' b;split at hk
  ·obtain rfl:=hx.v_eq;obtain rfl:=hy.v_eq;refine BO.val (x:=.int k (min a b)) ?_ hk;simp[Builtin.min_,Builtin.min2];omega
  ·exact hk.elim
 ·exact hk.elim
end
theorem CC.at{g:Gh}{w:World}{U:Nat→Prop}{cs:List AV}{vs:List Value}(h:CC g w U cs vs){i:Nat}{av:AV}(hi:cs[i]?=some av):∃x,vs[i]?=some x∧x.oneCell'=true∧BG g w U av x:=by
 have DF:i<vs.length:=by rw[h.1];exact(As.1 hi).1
 exact⟨vs[i],Ay DF,h.2.1 _ (Aq DF),h.2.2 i av _ hi (Ay DF)⟩
theorem E4{α:Type}{n:Nat}:∀{es:List (List α)},(∀c∈es,c.length=n)→∀{i j:Nat} {c:List α},es[i]?=some c→j<n→es.flatten[i*n+j]?=c[j]?
 | [],_,i,j,c,h,_=>by simp at h
 |d::es,hl,0,j,c,h,hj=>by
  simp at h;subst h
  have:=hl d (Aa ..)
  rw[By,AW (by omega)]
  congr 1;omega
 |d::es,hl,i+1,j,c,h,hj=>by
  have hd:=hl d (Aa ..);rw[By,A2 (by rw[hd,DU];omega)];rw[show(i+1)*n+j-d.length=i*n+j by rw[hd,DU];omega];exact E4 (fun c hc=>hl c (Af _ hc)) (by simpa using h) hj
theorem Df{α:Type}{n:Nat}:∀{es:List (List α)},(∀c∈es,c.length=n)→es.flatten.length=es.length*n
 | [],_=>by simp
 |d::es,hl=>by
  rw[By,Ad,hl d (Aa ..),Df (fun c hc=>hl c (Af _ hc)),At,DU,Nat.add_comm]
section
variable {P:Program}{T:Gj}(hT:Cw P T){h:Nat→HO}{g:Gh}{w:World}{K:AV→Prop}(ho:∀r,D7 g w (AR h) r (h r))
include ho
theorem U3(hT:Cw P T){t:Nat}{p:AV}{vp:Value}(hp:BG g w (AR h) p vp)(hk:HX T h t p K):BO P h g w (Instr.loadAt t vp) K:=by
 have TJ:∀b off,BO P h g w (loadVar t ⟨b,off,none⟩) K→BO P h g w (Instr.loadAt t (.pointer (some ⟨b,off,none⟩))) K:=by
  rintro b off ⟨x,av,h1,h2,h3⟩
  exact⟨x,av,by simp[Instr.loadAt,Instr.sureAddr,h1],h2,h3⟩
 unfold HX at hk;split at hk
 ·cases hp with
  |cptr _ _ b off val DB Ea=>exact TJ b off (LX hT (He.of_cptr (.cptr Fi _ b off val DB Ea) _) hk)
 ·rename_i r off;have hr:=ho r;cases hp with
  |ref _ _ _ b hu ht hx =>
   split at hk
   ·rename_i cs e;rw[e]at hr;obtain⟨_,b',E,vs,a1,a2,a3,a4,a5⟩:=hr;rw[a2]at hx;cases hx
    have:=(He.of_row a3 a4).drop off
    rw[Bi]at this;exact TJ b off (LX hT this hk)
   ·rename_i cs e;rw[e]at hr;obtain⟨_,b',a1,a2⟩:=hr;rw[a1]at hx;cases hx
    have:=(He.of_cptr a2 (AR h)).drop off
    rw[Bi]at this;exact TJ b off (LX hT this hk)
   ·exact hk.elim
 ·rename_i r n sz i off;have hr:=ho r;cases hp with
  |eref _ _ _ _ _ _ b cap hu ht hn hx =>
   split at hk
   ·rename_i Gf es e;rw[e]at hr;split at hk
    ·rename_i hz;obtain rfl:=AL hz;obtain⟨CE,cs,h1,hk⟩:=hk;obtain⟨t1,l1,al,a1⟩:=hr;have DF:=(As.1 h1).1;rcases a1 with ⟨rfl,_⟩ | ⟨b',Lr,E,vs,e1,e2,e3,e4,e5,e6,e7⟩
     ·simp at h1
     ·have:=hx (CE.trans l1.symm)
      rw[e1]at this;simp only[Value.slice.injEq,Bm,Addr.mk.injEq]at this;obtain⟨⟨rfl,_,_⟩,_,_⟩:=this;refine TJ _ _ (LX hT (cs:=cs.drop off) (fun j av hj=>?_) hk);rw[BP]at hj;have hcl:=al cs (Av h1);have pZ:off+j<sz:=by rw[←hcl];exact(As.1 hj).1
      have hf:=E4 al h1 pZ;rw[hj]at hf;obtain⟨x,x1,x2,x3⟩:=e6.at hf;refine⟨x,?_,x2,x3.up _⟩;rw[Fv e4];have mR:i*sz+(off+j)<es.length*sz:=by
       have:=Bg sz (show i+1≤es.length from DF)
       rw[DU]at this;omega
      rw[BF mR]at x1;rw[←Gi]at x1;simpa using x1
    ·exact hk.elim
   ·rename_i Gf es i' c av e;rw[e]at hr;split at hk
    ·rename_i hz;obtain rfl:=AL hz;obtain⟨⟨CE,rfl,rfl⟩,hk⟩:=hk;obtain⟨t1,l1,al,b',Lr,E,vs,e1,e2,e3,e4,e5,e6,e7,e8,x,e9,pm⟩:=hr
     have:=hx (CE.trans l1.symm)
     rw[e1]at this;simp only[Value.slice.injEq,Bm,Addr.mk.injEq]at this;obtain⟨⟨rfl,_,_⟩,_,_⟩:=this;refine TJ _ _ (LX hT (cs:=[av]) (fun j a' hj=>?_) hk);cases j with
     |succ j=>simp at hj
     |zero =>
      simp only[A7,Bm]at hj;subst hj;refine⟨x,by rw[Fv e4];simpa using e9,?_,pm⟩;have hm:x∈vs.toList.take (es.length*sz):=by
       have h9:vs.toList[i*sz+off]?=some x:=by simpa using e9
       exact Av (by rw[BF e8];exact h9)
      exact e6.2.1 x hm
    ·exact hk.elim
   ·exact hk.elim
 ·exact hk.elim
end
theorem Fz{α:Type}:∀(cs:List α) (o:Nat) (vs:List α),(over cs o vs).length=cs.length
 | [],_,_=>rfl
 |c::cs,o+1,vs=>by simp[over,Fz cs o vs]
 |c::cs,0,[]=>rfl
 |c::cs,0,v::vs=>by simp[over,Fz cs 0 vs]
theorem Fy{α:Type}:∀(cs:List α) (o:Nat) (vs:List α) (i:Nat),o+vs.length≤cs.length→(over cs o vs)[i]?=if o≤i∧i<o+vs.length then vs[i-o]? else cs[i]?
 | [],o,vs,i,h=>by
  simp at h;obtain⟨rfl,rfl⟩:=h;simp[over]
 |c::cs,o+1,vs,0,h=>by simp[over]
 |c::cs,o+1,vs,i+1,h=>by
  have:=Fy cs o vs i (by simp at h;omega)
  simp only[over,GD,this]
  by_cases hc:o≤i∧i<o+vs.length
  ·rw[Aw hc,Aw (by omega)];congr 1;omega
  ·rw[Ak hc,Ak (by omega)]
 |c::cs,0,[],i,h=>by
  have:¬(0≤i∧i<0+([]:List α).length):=by simp
  rw[Ak this];rfl
 |c::cs,0,v::vs,0,h=>by simp[over]
 |c::cs,0,v::vs,i+1,h=>by
  have:=Fy cs 0 vs i (by simp at h;omega)
  simp only[over,GD,this]
  by_cases hc:0≤i∧i<0+vs.length
  ·rw[Aw hc,Aw (by simp;omega)];simp
  ·rw[Ak hc,Ak (by simp at hc⊢;omega)]
theorem CC.over{g:Gh}{w:World}{U:Nat→Prop}{cs TV:List AV}{xs vs:List Value}(h:CC g w U cs xs)(k:CC g w U TV vs)(o:Nat)(Hc:o+TV.length≤cs.length) :
  CC g w U (Eng.over cs o TV) (Eng.over xs o vs):=by
 have p9 : o+vs.length≤xs.length:=by rw[k.1,h.1];exact Hc
 refine⟨by rw[Fz,Fz,h.1],fun x hx=>?_,fun i av x h1 h2=>?_⟩
 ·obtain⟨i,hi⟩:=B8.1 hx;rw[Fy _ _ _ _ p9]at hi;split at hi
  ·exact k.2.1 _ (Av hi)
  ·exact h.2.1 _ (Av hi)
 ·rw[Fy _ _ _ _ Hc]at h1;rw[Fy _ _ _ _ p9,k.1]at h2;split at h1
  ·rename_i hc;rw[Aw hc]at h2;exact k.2.2 _ _ _ h1 h2
  ·rename_i hc;rw[Ak hc]at h2;exact h.2.2 _ _ _ h1 h2
theorem nu{g:Gh}{w:World}{U:Nat→Prop}{a:AV}{x:Value}(h:BG g w U a x)(h1:one a=true):x.oneCell'=true:=by
 cases h with
 |v=>exact h1
 |tok _ r sz es _ h=>cases h with
  |snil=>rfl
  |slice=>rfl
 |ver _ r sz v es _ h=>cases h with
  |snil=>rfl
  |slice=>rfl
 |full _ sz es _ h=>cases h with
  |snil=>rfl
  |slice=>rfl
 |_=>first |rfl |(cases h1;done)
theorem cB{x:Value}(h:x.oneCell'=true):x.cells=#[x]:=by
 cases x<;>first | rfl | (simp[Value.oneCell']at h)
theorem Mn{g:Gh}{w:World}{U:Nat→Prop}{n:Nat}{a:AV}{K:List AV→Prop}{x:Value}(h:BG g w U a x)(hk:GQ n a K) :
  ∃cs,K cs∧cs.length=n∧CC g w U cs x.cells.toList:=by
 have single:one a=true→n=1→K [a]→∃cs,K cs∧cs.length=n∧CC g w U cs x.cells.toList:=by
  intro h1 hn hk;have hx:=nu h h1;rw[cB hx];refine⟨[a],hk,hn.symm,rfl,by simpa using hx,fun i av y e1 e2=>?_⟩;cases i with
  |zero=>simp at e1 e2;subst e1;subst e2;exact h
  |succ i=>simp at e1
 unfold GQ at hk;split at hk
 ·rename_i cs;split at hk
  ·rename_i hl;cases h with
   |agg _ _ vs hs h1 hr =>
    refine⟨cs,hk,AL hl,by simpa[Value.cells]using hs,fun y hy=>?_,fun i av y e1 e2=>?_⟩
    ·obtain⟨i,hi⟩:=B8.1 hy;exact h1 i y (by simpa[Value.cells]using hi)
    ·exact hr i av y e1 (by simpa[Value.cells]using e2)
  ·exact hk.elim
 ·split at hk
  ·rename_i h1;split at hk
   ·exact single h1 rfl hk
   ·exact hk.elim
  ·exact hk.elim
theorem Nt:∀(vs:List Value) (k o:Nat) (cs:Array Value),o+k+vs.length≤cs.size →
  ((vs.zipIdx k).foldl (fun(cs:Array Value) (p:Value×Nat)=>cs.setIfInBounds (o+p.2) p.1) cs).toList=over cs.toList (o+k) vs
 | [],k,o,cs,_=>by
  have:∀(l:List Value) (o:Nat),over l o []=l:=by
   intro l
   induction l with
   |nil=>intro o;rfl
   |cons c l ih=>intro o;cases o with
    |zero=>rfl
    |succ o=>simp[over,ih]
  simp[this]
 |v::vs,k,o,cs,h=>by
  simp at h;rw[List.zipIdx_cons,Fo,Nt vs (k+1) o _ (by simp;omega)];simp only[Array.toList_setIfInBounds];apply Cz;intro i;rw[Fy _ _ _ _ (by simp;omega),Fy _ _ _ _ (by simp;omega)];simp only[At,Ql]
  by_cases h1:i=o+k
  ·subst h1;rw[Ak (by omega),Aw (by omega)];have DF:o+k<cs.size:=by omega
   simp[DF]
  ·by_cases h2:o+k≤i∧i<o+k+(vs.length+1)
   ·rw[Aw (by omega),Aw h2,show i-(o+k)=(i-(o+(k+1)))+1 by omega];simp
   ·rw[Ak (by omega),Ak (by omega),Ak h2]
theorem Sh{g:Gh}{w:World}{U:Nat→Prop}{t:Nat→AV}{ρ:Operand→Value}(ht:∀x:Operand,BG g w U (ev t x) (ρ x)){pl pl' : Nat→Option (Nat×Nat)}(ul:∀i p,pl i=some p→pl' i=some p) :
  ∀{ps:List (Nat×Operand)} {cs:List AV} {xs:Array Value} {K:List AV→Prop},CC g w U cs xs.toList→Kk pl cs t ps K →
   ∃YI Vs,K YI∧CC g w U YI Vs.toList∧Instr.fill pl' xs (ps.map fun(i,x)=>(i,ρ x))=some Vs
 | [],cs,xs,K,h,hk=>⟨cs,xs,hk,h,rfl⟩
 |(i,x)::ps,cs,xs,K,h,hk=>by
  unfold Kk at hk;split at hk
  ·exact hk.elim
  ·rename_i o n hp;obtain⟨TV,hk,hn,hr⟩:=Mn (ht x) hk;split at hk
   ·rename_i Hc;have Hc:=HF Hc;have EB:(ρ x).cells.size=n:=by rw[←hn];simpa using hr.1
    have iH:cs.length=xs.size:=by simpa using h.1.symm
    have EJ:=h.over hr o (by rw[hn];exact Hc);have e:=Nt (ρ x).cells.toList 0 o xs (by simp[EB];omega);simp only[Dx]at e;rw[←e]at EJ;obtain⟨YI,Vs,k1,k2,k3⟩:=Sh ht ul EJ hk;refine⟨YI,Vs,k1,k2,?_⟩;simp only[AP,Instr.fill,ul _ _ hp];have e2:(ρ x).cells.zipIdx.foldl (fun cs (c,j)=>cs.setIfInBounds (o+j) c) xs=((ρ x).cells.toList.zipIdx 0).foldl (fun(cs:Array Value) (p:Value×Nat)=>cs.setIfInBounds (o+p.2) p.1) xs:=by
     rw[←Array.foldl_toList];simp
    rw[Ak (by simp[EB];omega),e2];exact k3
   ·exact hk.elim
theorem Mi:∀{l:List AV},GP l=true→∀a∈l,one a=true
 | [],_,a,h=>by cases h
 |b::r,h,a,ha=>by
  unfold GP at h;split at h
  ·rename_i hb;rcases Au.1 ha with rfl | ha
   ·exact hb
   ·exact Mi h a ha
  ·cases h
theorem CC.vals{g:Gh}{w:World}{U:Nat→Prop}{vs:List Value}(h:GP (vs.map .v)=true):CC g w U (vs.map .v) vs:=by
 refine⟨by simp,fun x hx=>?_,fun i av x h1 h2=>?_⟩
 ·have:=Mi h (.v x) (Am.2 ⟨x,hx,rfl⟩)
  simpa[one]using this
 ·rw[AG,h2]at h1;simp at h1;subst h1;exact .v _ _
section
variable {P:Program}{T:Gj}(hT:Cw P T){h:Nat→HO}{g:Gh}{w:World}{K:AV→Prop}
theorem XJ{α β:Type}(P:Program)(w:World)(f:α→Sem β)(f' : α→β):∀(l:List α),(∀a∈l,(f a).run P w=.ok (f' a) w)→(l.mapM f).run P w=.ok (l.map f') w
 | [],_=>rfl
 |a::l,h=>by
  have h1:=h a (Aa ..);have h2:=XJ P w f f' l (fun b hb=>h b (Af _ hb));simp[List.mapM_cons,Sem.run_bind,h1,h2]
theorem Qp:∀{fs:List (Nat×Nat)},N2 T fs=true→∀p∈fs,∃n,(T p.1).size=n+1
 | [],_,p,h=>by cases h
 |(t,o)::r,h,p,hp=>by
  unfold N2 at h;split at h
  ·cases h
  ·rename_i n hn;rcases Au.1 hp with rfl | hp
   ·exact⟨n,hn⟩
   ·exact Qp h p hp
include hT
theorem Pe{t:Nat}(hd:(T t).d≠.other):∃z,(zeroValue t).run P w=.ok z w∧(T t).zc=z.cells.toList∧(T t).zero=z:=by
 obtain⟨d,i,z,h1,h2,h3,h4,h5,h6,h7,h8⟩:=hT.get hd;exact⟨z,by simp[zeroValue,typeInfo,h3,h4],by rw[TI.zc_cells,h7],h7⟩
theorem Vu{t n:Nat}(h:(T t).size=n+1):∃z,(zeroValue t).run P w=.ok z w∧(T t).zc=z.cells.toList:=by
 rcases hT t with e | e
 ·rw[e]at h;cases h
 unfold db at e;split at e
 ·split at e
  ·rename_i d i h1 h2 _ z h3;exact⟨z,by simp[zeroValue,typeInfo,h2,h3],by rw[TI.zc_cells,e]⟩
  ·rw[e]at h;cases h
 ·rw[e]at h;cases h
theorem bo{ty:Nat}{t:Nat→AV}{ρ:Operand→Value}(ht:∀x:Operand,BG g w (AR h) (ev t x) (ρ x)){ps:Array (Nat×Operand)}(hk:Pr T ty t ps.toList K) :
  BO P h g w (Instr.build ty (ps.map fun(i,x)=>(i,ρ x))) K:=by
 unfold Pr at hk;split at hk
 ·exact hk.elim
 ·rename_i Rb;have fin:∀(YI : List AV) (Vs : Array Value),CC g w (AR h) YI Vs.toList→BG g w (AR h) (.agg YI) (.agg Vs):=fun YI Vs hr =>
   .agg _ _ _ (by simpa using hr.1) (fun i x hx=>hr.2.1 x (Av (by simpa using hx))) (fun i av x h1 h2=>hr.2.2 i av x h1 (by simpa using h2))
  split at hk
  ·rename_i fs hs;have hd:(T ty).d≠.other:=by rw[hs];simp
   obtain⟨z,z1,z2,_⟩:=Pe hT (w:=w) hd;split at hk
   ·exact hk.elim
   ·rename_i EB;obtain⟨fa,u1,u2,u3⟩:=hT.struct hs;have jE:(fa.mapM fun(f:Field)=>(do pure (f.offset,←sizeOf f.type):Sem (Nat×Nat))).run P w=.ok (fa.map fun f=>(f.offset,(T f.type).size)) w:=by
     rw[Array.mapM_eq_mapM_toList]
     have:=XJ P w (fun f:Field=>(do pure (f.offset,←sizeOf f.type):Sem (Nat×Nat))) (fun f=>(f.offset,(T f.type).size)) fa.toList (fun f hf=>by
      obtain⟨n,hn⟩:=Qp EB (f.type,f.offset) (by rw[u2];exact Am.2 ⟨f,hf,rfl⟩);simp[hT.size1 w hn,hn])
     simp only[Sem.run_map,this,Result.andThen_ok]
     congr 1
     apply NT;simp
    rw[z2]at hk Rb;obtain⟨YI,Vs,k1,k2,k3⟩:=Sh ht (pl':=fun i=>(fa.map fun f=>(f.offset,(T f.type).size))[i]?) (fun i p hp=>by
     split at hp
     ·rename_i t' o hf;cases hp;obtain⟨fa',fd,v1,v2,rfl,rfl⟩:=Sn hT hs hf;rw[u1]at v1;cases v1;simp[v2]
     ·cases hp) (CC.vals (vs:=z.cells.toList) Rb) hk
    refine⟨_,_,?_,k1,fin YI Vs k2⟩;simp only[Instr.build,Sem.run_bind,z1,Result.andThen_ok,run_underlying u1,jE];have e3:(Array.map (fun x:Nat×Operand=>match x with | (i,x)=>(i,ρ x)) ps).toList=ps.toList.map fun(i,x)=>(i,ρ x):=by simp
    rw[e3];rw[k3]
    rfl
  ·rename_i n e hs;have hd:(T ty).d≠.other:=by rw[hs];simp
   obtain⟨z,z1,z2,_⟩:=Pe hT (w:=w) hd;split at hk
   ·exact hk.elim
   ·rename_i m hm;rw[z2]at hk Rb;obtain⟨YI,Vs,k1,k2,k3⟩:=Sh ht (pl':=fun i=>some (i*(T e).size,(T e).size)) (fun i p hp=>hp) (CC.vals (vs:=z.cells.toList) Rb) hk;refine⟨_,_,?_,k1,fin YI Vs k2⟩;simp only[Instr.build,Sem.run_bind,z1,Result.andThen_ok,run_underlying (hT.array hs),hT.size1 w hm];have e3:(Array.map (fun x:Nat×Operand=>match x with | (i,x)=>(i,ρ x)) ps).toList=ps.toList.map fun(i,x)=>(i,ρ x):=by simp
    rw[e3];simp only[hm]at k3;rw[k3]
    rfl
  ·exact hk.elim
end
theorem jQ{a b:KS}(h:jP a b=true):a=b:=by
 cases a<;>cases b<;>first | rfl | (simp[jP]at h;done) | (simp only[jP]at h;obtain rfl:=JS h;rfl)
theorem XD:∀{a b:List KS},SU a b=true→a=b
 | [],[],_=>rfl
 |x::a,y::b,h=>by
  unfold SU at h;split at h
  ·rename_i e;obtain rfl:=jQ e;obtain rfl:=XD h;rfl
  ·cases h
 | [],_::_,h=>by simp[SU]at h
 |_::_,[],h=>by simp[SU]at h
theorem kG{a b:EA}(h:nI a b=true):a=b:=by
 obtain⟨a1,a2⟩:=a;obtain⟨b1,b2⟩:=b;cases a1<;>cases b1<;>simp only[nI]at h<;>first | (obtain rfl:=XD h;rfl) | cases h
section
variable {P:Program}{T:Gj}(hT:Cw P T)
include hT
def J0(P:Program)(w:World)(b:Bool)(d t:Nat)(xs:Array Value)(o:Nat):Prop :=
 (do let a ←part t xs o;Instr.checkKey b d t a).run P w=.ok () w
theorem RT(w:World)(b:Bool):∀(n t:Nat) (l:List KS),Hl T n t=some l→∀d,n≤d→∀(xs:Array Value) (o:Nat),IX l (HL xs.toList o l.length)=true→J0 P w b d t xs o
 |0,t,l,h=>by simp[Hl]at h
 |n+1,t,l,h=>by
  intro d hd xs o hx;obtain⟨d,rfl⟩:∃d',d=d'+1:=⟨d-1,by omega⟩;have scalar:∀k,(T t).d≠.other→Js (T t).d=false→l=[k]→(∀x,M3 k x=true→(Instr.checkKey b (d+1) t x).run P w=.ok () w)→J0 P w b (d+1) t xs o:=by
   rintro k YX hs rfl hk
   obtain⟨x,x1,x2,x3⟩:=K9 hx;unfold J0;simp[Sem.run_bind,DN hT w YX hs xs o _ x1,hk x x2]
  unfold Hl at h;split at h
  ·rename_i k hk;split at h
   ·cases h
    refine scalar _ (by rw[hk];simp) (by rw[hk];rfl) rfl (fun x hx=>?_);cases x<;>simp[M3]at hx
    simp[Instr.checkKey,run_underlying (hT.int hk)]
   ·cases h
  ·rename_i hk;split at h
   ·cases h
    refine scalar _ (by rw[hk];simp) (by rw[hk];rfl) rfl (fun x hx=>?_);cases x<;>simp[M3]at hx
    simp[Instr.checkKey,run_underlying (hT.string hk)]
   ·cases h
  ·rename_i hk;split at h
   ·cases h
    refine scalar _ (by rw[hk];simp) (by rw[hk];rfl) rfl (fun x hx=>?_);cases x<;>simp[M3]at hx
    simp[Instr.checkKey,run_underlying (hT.bool hk)]
   ·cases h
  ·rename_i fs hk;split at h
   ·split at h
    ·rename_i l' JQ;split at h
     ·rename_i CE;cases h;have CE:=AL CE;have YX:(T t).d≠.other:=by rw[hk];simp
      have hs:Js (T t).d=true:=by rw[hk];rfl
      obtain⟨fa,u1,u2,u3⟩:=hT.struct hk;rw[u2]at JQ;have ex:(xs.extract o (o+(T t).size)).toList=HL xs.toList o l.length:=by
       rw[←CE];simp[HL]
      have s0:HL (HL xs.toList o l.length) 0 l.length=HL xs.toList o l.length:=by
       rw[aI _ _ _ _ _ (by omega)];rfl
      unfold J0;simp only[Sem.run_bind,Gt hT w YX hs,Result.andThen_ok];have ih:=RT w b n;have hq:IX l (HL (xs.extract o (o+(T t).size)).toList 0 l.length)=true:=by rw[ex,s0];exact hx
      generalize xs.extract o (o+(T t).size)=ys at hq;simp only[Instr.checkKey,Sem.run_bind,run_underlying u1,Result.andThen_ok];rw[←Array.forIn_toList]
      clear u2 hk
      have key : ∀ (fl : List Field) (m : Nat) (l : List KS), Ns (Hl T n) m (fl.map fun f => (f.type, f.offset)) = some l → (∀ f ∈ fl, f.name ≠ "_") → IX l (HL ys.toList m l.length) = true →
        (forIn fl PUnit.unit (fun (f : Field) (_ : PUnit) => ((if f.name ≠ "_" then (do
         let x ←part f.type ys f.offset
         Instr.checkKey b d f.type x
         pure (ForInStep.yield PUnit.unit))else pure (ForInStep.yield PUnit.unit)):Sem (ForInStep PUnit)))).run P w=.ok PUnit.unit w:=by
       intro fl
       induction fl with
       |nil=>intro m l _ _ _;rfl
       |cons f fl ihf =>
        intro m l hg hn hy;obtain⟨ho,a,c,ha,hc,rfl⟩:=MZ hg;rw[Ad]at hy;obtain⟨y1,y2⟩:=Ro hy;rw[OY _ _ _ _ (by omega)]at y1;rw[OX,GF]at y2;have h1:=ih f.type a ha d (by omega) ys m y1;unfold J0 at h1;rw[List.forIn_cons];simp only[Sem.run_bind,Aw (hn f (Aa ..))];simp only[Sem.run_bind]at h1;rw[ho];generalize (part f.type ys m).run P w=r1 at h1⊢;cases r1 with
        |halt x w1=>cases h1
        |ok u w1 =>
         simp only[Result.andThen_ok]at h1⊢;rw[h1];simp only[Result.andThen_ok,Sem.run_pure];exact ihf (m+a.length) c hc (fun f hf=>hn f (Af _ hf)) y2
      rw[key fa.toList 0 l JQ u3 hq]
      rfl
     ·cases h
    ·cases h
   ·cases h
  ·cases h
theorem gX{kt:Nat}{sh:EA}(hs:HC T kt=some sh)(w:World){x y:Value}(hx:Vh sh x=true)(hy:Vh sh y=true) :
  ∃b:Bool,(Op.equal kt x y).run P w=.ok b w∧(b=true↔x=y):=by
 unfold HC at hs;split at hs
 ·rename_i fs hk;split at hs
  ·rename_i l hl;cases hs;cases x<;>simp only[Vh]at hx<;>try (cases hx;done)
   cases y<;>simp only[Vh]at hy<;>try (cases hy;done)
   rename_i xs ys;have hd:(T kt).d≠.other:=by rw[hk];simp
   have ha:Js (T kt).d=true:=by rw[hk];rfl
   have CE:l.length=(T kt).size:=by
    unfold Hl at hl;rw[hk]at hl;dsimp only at hl;split at hl
    ·split at hl
     ·split at hl
      ·rename_i e;cases hl;exact AL e
      ·cases hl
     ·cases hl
    ·cases hl
   have s0:∀zs:Array Value,IX l zs.toList=true→HL zs.toList 0 l.length=zs.toList:=fun zs hz=>by
    have:=KX hz
    simp only[HL,List.drop_zero];rw[AT (by omega)]
   have ex:∀zs:Array Value,IX l zs.toList=true→zs.extract 0 (0+(T kt).size)=zs:=fun zs hz=>by
    have:=KX hz
    rw[←CE,←this];simp
   obtain⟨b,b1,b2⟩:=VR hT w 8 kt l hl 10000 (by omega) xs ys 0 (by rw[s0 _ hx];exact hx) (by rw[s0 _ hy];exact hy);simp only[Sem.run_bind,Gt hT w hd ha,Result.andThen_ok,ex _ hx,ex _ hy]at b1;rw[s0 _ hx,s0 _ hy]at b2;refine⟨b,b1,b2.trans ⟨fun e=>by rw[NT e],fun e=>by cases e;rfl⟩⟩
  ·cases hs
 ·rename_i Ra;split at hs
  ·rename_i l hl;cases hs;have Ls : IX l [x]=true:=by cases x<;>exact hx
   have uD : IX l [y]=true:=by cases y<;>exact hy
   have single:∀k,l=[k]→M3 k x=true∧M3 k y=true:=by
    rintro k rfl
    unfold IX at Ls uD;split at Ls
    ·split at uD
     ·exact⟨‹_›,‹_›⟩
     ·cases uD
    ·cases Ls
   have e9:Op.equal kt x y=Op.equalIn (9999+1) kt x y:=rfl;rw[e9];unfold Hl at hl;split at hl
   ·rename_i k hk;split at hl
    ·cases hl
     obtain⟨h1,h2⟩:=single _ rfl;cases x<;>simp[M3]at h1
     cases y<;>simp[M3]at h2
     obtain rfl:=JS h1;obtain rfl:=JS h2;exact⟨_,run_equalIn_int w 9999 kt _ _ _ _ (hT.int hk),by simp⟩
    ·cases hl
   ·rename_i hk;split at hl
    ·cases hl
     obtain⟨h1,h2⟩:=single _ rfl;cases x<;>simp[M3]at h1
     cases y<;>simp[M3]at h2
     exact⟨_,run_equalIn_string w 9999 kt _ _ (hT.string hk),by rw[Jn];simp⟩
    ·cases hl
   ·rename_i hk;split at hl
    ·cases hl
     obtain⟨h1,h2⟩:=single _ rfl;cases x<;>simp[M3]at h1
     cases y<;>simp[M3]at h2
     exact⟨_,run_equalIn_bool' w 9999 kt _ _ (hT.bool hk),by simp⟩
    ·cases hl
   ·rename_i fs hk;exact absurd hk (Ra fs)
   ·cases hl
  ·cases hs
theorem Mc{kt:Nat}{sh:EA}(hs:HC T kt=some sh)(w:World)(b:Bool){x:Value}(hx:Vh sh x=true):(Instr.checkKey b 10000 kt x).run P w=.ok () w:=by
 unfold HC at hs;split at hs
 ·rename_i fs hk;split at hs
  ·rename_i l hl;cases hs;cases x<;>simp only[Vh]at hx<;>try (cases hx;done)
   rename_i xs;have hd:(T kt).d≠.other:=by rw[hk];simp
   have ha:Js (T kt).d=true:=by rw[hk];rfl
   have CE:l.length=(T kt).size:=by
    unfold Hl at hl;rw[hk]at hl;dsimp only at hl;split at hl
    ·split at hl
     ·split at hl
      ·rename_i e;cases hl;exact AL e
      ·cases hl
     ·cases hl
    ·cases hl
   have:=KX hx
   have h0:HL xs.toList 0 l.length=xs.toList:=by
    simp only[HL,List.drop_zero];rw[AT (by omega)]
   have h1:=RT hT w b 8 kt l hl 10000 (by omega) xs 0 (by rw[h0];exact hx);unfold J0 at h1;simp only[Sem.run_bind,Gt hT w hd ha,Result.andThen_ok]at h1;have ex:xs.extract 0 (0+(T kt).size)=xs:=by rw[←CE,←this];simp
   rw[ex]at h1;exact h1
  ·cases hs
 ·rename_i Ra;split at hs
  ·rename_i l hl;cases hs;have key:∀d,(Instr.checkKey b (d+1) kt x).run P w=.ok () w:=by
    intro d;unfold Hl at hl;split at hl
    ·rename_i k hk;simp[Instr.checkKey,run_underlying (hT.int hk)]
    ·rename_i hk;simp[Instr.checkKey,run_underlying (hT.string hk)]
    ·rename_i hk;simp[Instr.checkKey,run_underlying (hT.bool hk)]
    ·rename_i fs hk;exact absurd hk (Ra fs)
    ·cases hl
   exact key 9999
  ·cases hs
end
def MQ(x:Value)(es:List MapEntry)(i:Nat)(r:Option (Nat×Value)):Prop :=
 (r=none∧∀e∈es,e.key≠x)∨∃(j:Nat) (e:MapEntry),r=some (i+j,e.val)∧es[j]?=some e∧e.key=x
theorem MQ.here{x:Value}{es:List MapEntry}{i:Nat}{e:MapEntry}(h:e.key=x):MQ x (e::es) i (some (i,e.val)) :=
 .inr ⟨0,e,rfl,rfl,h⟩
theorem MQ.there{x:Value}{es:List MapEntry}{i:Nat}{e:MapEntry}{r:Option (Nat×Value)}(h:e.key≠x)(k:MQ x es (i+1) r):MQ x (e::es) i r:=by
 rcases k with ⟨h1,h2⟩ | ⟨j,e',h1,h2,h3⟩
 ·exact .inl ⟨h1,fun d hd=>(Au.1 hd).elim (fun e'=>e'▸h) (h2 d)⟩
 ·exact .inr ⟨j+1,e',by rw[h1,Gi,Nat.add_comm 1 j],h2,h3⟩
theorem Si{kind:TypeDesc}{x:Value}:∀(es:List MapEntry) (i:Nat),(∀e∈es,∃b,Instr.sameNow kind x e.key=some b∧(b=true↔x=e.key))→∃r,Instr.findNow kind x es i=some r∧MQ x es i r
 | [],i,_=>⟨none,rfl,.inl ⟨rfl,fun _ h=>by cases h⟩⟩
 |e::es,i,h=>by
  obtain⟨b,b1,b2⟩:=h e (Aa ..);cases b with
  |true=>exact⟨_,by simp[Instr.findNow,b1],.here (b2.1 rfl).symm⟩
  |false =>
   obtain⟨r,r1,r2⟩:=Si es (i+1) (fun d hd=>h d (Af _ hd));exact⟨r,by simp[Instr.findNow,b1,r1],.there (fun e'=>by have:=b2.2 e'.symm;cases this) r2⟩
section
variable {P:Program}{T:Gj}(hT:Cw P T)
include hT
theorem MX{kt:Nat}{sh:EA}(hs:HC T kt=some sh)(w:World){x:Value}(hx:Vh sh x=true) :
  ∀(es:List MapEntry) (i:Nat),(∀e∈es,Vh sh e.key=true)→∃r,(Instr.findAsking kt x es i).run P w=.ok r w∧MQ x es i r
 | [],i,_=>⟨none,rfl,.inl ⟨rfl,fun _ h=>by cases h⟩⟩
 |e::es,i,h=>by
  obtain⟨b,b1,b2⟩:=gX hT hs w hx (h e (Aa ..));cases b with
  |true=>exact⟨_,by simp[Instr.findAsking,b1],.here (b2.1 rfl).symm⟩
  |false =>
   obtain⟨r,r1,r2⟩:=MX hs w hx es (i+1) (fun d hd=>h d (Af _ hd));exact⟨r,by simp[Instr.findAsking,b1,r1],.there (fun e'=>by have:=b2.2 e'.symm;cases this) r2⟩
theorem NQ{kt:Nat}{sh:EA}(hs:HC T kt=some sh)(w:World){x:Value}(hx:Vh sh x=true)(es:List MapEntry)(he:∀e∈es,Vh sh e.key=true) :
  ∃r,(Instr.findKey kt x es).run P w=.ok r w∧MQ x es 0 r:=by
 have lZ:∀d,P.underlying kt=some d→Instr.findNow d x es 0=none→∃r,(Instr.findKey kt x es).run P w=.ok r w∧MQ x es 0 r:=by
  intro d hd hn;obtain⟨r,r1,r2⟩:=MX hT hs w hx es 0 he;exact⟨r,by simp[Instr.findKey,run_underlying hd,hn,r1],r2⟩
 have now:∀d,P.underlying kt=some d→(∀e∈es,∃b,Instr.sameNow d x e.key=some b∧(b=true↔x=e.key))→∃r,(Instr.findKey kt x es).run P w=.ok r w∧MQ x es 0 r:=by
  intro d hd hn;obtain⟨r,r1,r2⟩:=Si es 0 hn;exact⟨r,by simp[Instr.findKey,run_underlying hd,r1],r2⟩
 have WA:=hs;unfold HC at WA;split at WA
 ·rename_i fs hk;obtain⟨fa,u1,_⟩:=hT.struct hk;cases es with
  |nil=>exact⟨none,by simp[Instr.findKey,run_underlying u1,Instr.findNow],.inl ⟨rfl,fun _ h=>by cases h⟩⟩
  |cons e es =>
   refine lZ _ u1 ?_;split at WA
   ·cases WA
    cases x<;>simp only[Vh]at hx<;>try (cases hx;done)
    simp[Instr.findNow,Instr.sameNow]
   ·cases WA
 ·rename_i Ra;split at WA
  ·rename_i l hl;cases WA;have cv:∀y,Vh ⟨false,l⟩ y=true→IX l [y]=true:=fun y hy=>by cases y<;>exact hy
   have Ls:=cv x hx;have tT : ∀e∈es,IX l [e.key]=true:=fun e h=>cv _ (he e h)
   clear hx he cv
   have single:∀k y,l=[k]→IX l [y]=true→M3 k y=true:=by
    rintro k y rfl h
    unfold IX at h;split at h
    ·assumption
    ·cases h
   unfold Hl at hl;split at hl
   ·rename_i k hk;split at hl
    ·cases hl
     refine now _ (hT.int hk) (fun e h=>?_);have h1:=single _ _ rfl Ls;have h2:=single _ _ rfl (tT e h);generalize e.key=y at h2;cases x<;>simp[M3]at h1
     cases y<;>simp[M3]at h2
     obtain rfl:=JS h1;obtain rfl:=JS h2;exact⟨_,by simp[Instr.sameNow];rfl,by simp⟩
    ·cases hl
   ·rename_i hk;split at hl
    ·cases hl
     refine now _ (hT.string hk) (fun e h=>?_);have h1:=single _ _ rfl Ls;have h2:=single _ _ rfl (tT e h);generalize e.key=y at h2;cases x<;>simp[M3]at h1
     cases y<;>simp[M3]at h2
     exact⟨_,by simp[Instr.sameNow];rfl,by rw[beq_toListBytes,Jn];simp⟩
    ·cases hl
   ·rename_i hk;split at hl
    ·cases hl
     refine now _ (hT.bool hk) (fun e h=>?_);have h1:=single _ _ rfl Ls;have h2:=single _ _ rfl (tT e h);generalize e.key=y at h2;cases x<;>simp[M3]at h1
     cases y<;>simp[M3]at h2
     exact⟨_,by simp[Instr.sameNow];rfl,by simp⟩
    ·cases hl
   ·rename_i fs hk;exact absurd hk (Ra fs)
   ·cases hl
  ·cases WA
end
theorem QR{P:Program}(w:World){sh:EA}{x:Value}(hx:Vh sh x=true):(Instr.keyThatStays x x).run P w=.ok x w:=by
 have scalar:∀(k:KS) (y:Value) (n:Nat),M3 k y=true→Instr.sameBits n y y=true:=by
  intro k y n h;cases k<;>cases y<;>simp[M3]at h<;>cases n<;>simp[Instr.sameBits,beq_toListBytes]
 have zR:∀(l:List KS) (ys:List Value) (n:Nat),IX l ys=true→((ys.zip ys).all fun(a,b)=>Instr.sameBits n a b)=true:=by
  intro l ys n
  induction ys generalizing l with
  |nil=>intro _;rfl
  |cons y ys ih =>
   intro h;cases l with
   |nil=>simp[IX]at h
   |cons k l =>
    unfold IX at h;split at h
    ·rename_i hk;simp only[List.zip_cons_cons,List.all_cons,scalar k y n hk,Ev];exact ih l h
    ·cases h
 have h1:∀n,Instr.sameBits (n+1) x x=true:=by
  intro n;obtain⟨ag,l⟩:=sh;cases ag with
  |true =>
   cases x<;>simp only[Vh]at hx<;>try (cases hx;done)
   have:=zR l _ n hx
   simp only[Instr.sameBits,beq_self_eq_true,Ev];exact this
  |false =>
   have Ls : IX l [x]=true:=by cases x<;>exact hx
   cases l with
   |nil=>simp[IX]at Ls
   |cons k l =>
    unfold IX at Ls;split at Ls
    ·rename_i hk;exact scalar k x (n+1) hk
    ·cases Ls
 have:=h1 9999
 simp only[Instr.keyThatStays];rw[Aw this]
 rfl
theorem Vq:∀{cs:List AV} {l:List Value},Wt cs=some l→cs=l.map .v
 | [],l,h=>by cases h;rfl
 |a::r,l,h=>by
  cases a<;>simp only[Wt]at h<;>try (cases h;done)
  split at h
  ·rename_i l' hl;cases h;rw[Vq hl];rfl
  ·cases h
theorem jM{g:Gh}{w:World}{U:Nat→Prop}{a:AV}{x y:Value}(h:BG g w U a x)(hk:ne a=some y):x=y:=by
 unfold ne at hk;split at hk
 ·cases hk;exact h.v_eq
 ·split at hk
  ·rename_i l hl;cases hk;obtain rfl:=Vq hl;exact h.agg_vals
  ·cases hk
 ·cases hk
theorem Mu{T:Gj}{g:Gh}{w:World}{U:Nat→Prop}{ty:Nat}{sh:EA}{a:AV}{x:Value}{K:Value→Prop}(h:BG g w U a x)(hk:JT T ty sh a K) :
  ∃kt e,(T ty).d=.map kt e∧HC T kt=some sh∧Vh sh x=true∧K x:=by
 unfold JT at hk;split at hk
 ·rename_i kt e ht;split at hk
  ·rename_i sf hs;split at hk
   ·rename_i y7;obtain rfl:=kG y7;split at hk
    ·rename_i kx Ph;obtain rfl:=jM h Ph;split at hk
     ·rename_i hb;exact⟨kt,e,ht,hs,hb,hk⟩
     ·exact hk.elim
    ·exact hk.elim
   ·exact hk.elim
  ·exact hk.elim
 ·exact hk.elim
theorem GW.shape{sh:EA}{es:Array MapEntry}{ck:Nat}{B2:List (Value×AV)}(h:GW sh es ck B2):∀e∈es.toList,Vh sh e.key=true:=by
 intro e he;obtain⟨h1,h2,h3,_⟩:=h;obtain⟨i,hi⟩:=B8.1 he;have DF:i<B2.length:=by rw[←h1];have:=(As.1 hi).1;simpa using this
 rw[h2 i B2[i] e (Ay DF) (by simpa using hi)];exact h3 _ (Aq DF)
theorem GW.none{sh:EA}{es:Array MapEntry}{ck:Nat}{B2:List (Value×AV)}(h:GW sh es ck B2){x:Value}(hn:∀e∈es.toList,e.key≠x)(a:AV):(x,a)∉B2:=by
 intro hm;obtain⟨h1,h2,_⟩:=h;obtain⟨i,hi⟩:=B8.1 hm;have DF:i<es.size:=by rw[h1];exact(As.1 hi).1
 exact hn es[i] (by simp) (h2 i _ es[i] hi (by simp[DF]))
theorem GW.some{sh:EA}{es:Array MapEntry}{ck:Nat}{B2:List (Value×AV)}(h:GW sh es ck B2){x:Value}{j:Nat}{e:MapEntry}(he:es.toList[j]?=some e)(hk:e.key=x) :
  ∃a,B2[j]?=some (x,a)∧(x,a)∈B2:=by
 obtain⟨h1,h2,_⟩:=h;have DF:j<B2.length:=by rw[←h1];have:=(As.1 he).1;simpa using this
 have hg:B2[j]?=Option.some B2[j]:=Ay DF
 have:=h2 j B2[j] e hg (by simpa using he)
 have e2:B2[j]=(x,B2[j].2):=by rw[←hk,this]
 exact⟨B2[j].2,by rw[hg];exact Ac _ e2,by rw[←e2];exact Aq DF⟩
section
variable {P:Program}{T:Gj}(hT:Cw P T){h:Nat→HO}{g:Gh}{w:World}{K:AV→Prop}
section
include hT
theorem Vt{t:Nat}(hk:JZ T t K):BO P h g w (zeroValue t) K:=by
 unfold JZ at hk;split at hk
 ·exact hk.elim
 ·rename_i hd;obtain⟨z,z1,z2,z3⟩:=Pe hT (w:=w) hd;rw[z3]at hk;split at hk
  ·rename_i cs;split at hk
   ·rename_i ha;have hr:=CC.vals (g:=g) (w:=w) (U:=AR h) ha;exact⟨_,_,z1,hk,.agg _ _ _ (by simp) (fun i x hx=>hr.2.1 x (Av (by simpa using hx))) (fun i av x h1 h2=>hr.2.2 i av x h1 (by simpa using h2))⟩
   ·exact hk.elim
  ·exact⟨_,_,z1,hk,.v _ _⟩
theorem JF{ty b:Nat}{kt e:Nat}{sh:EA}{es:Array MapEntry}{ck:Nat}{B2:List (Value×AV)}{x:Value}{ok:Bool}(ht:(T ty).d=.map kt e)(hs:HC T kt=some sh)(hx:Vh sh x=true)
  (hb:w.heap[b]?=some (.map es ck)) (hm:GW sh es ck B2) (hv:∀(i:Nat) (kv:Value×AV) (e:MapEntry),B2[i]?=some kv→es[i]?=some e→BG g w (AR h) kv.2 e.val)
  (hk:LO T ty ok B2 x K):BO P h g w (Instr.lookup ty (.map (some b)) x ok) K:=by
 have hu:=hT.map ht;have E6:=run_getObj_map (P:=P) w b es ck hb;have TL:=fun bb=>Mc hT hs w bb hx;obtain⟨r,r1,r2⟩:=NQ hT hs w hx es.toList hm.shape;unfold LO at hk;rw[ht]at hk;dsimp only at hk;rcases r2 with ⟨rfl,hn⟩ | ⟨j,en,rfl,hj,hkey⟩
 ·have Xu:=fun a=>hm.none hn a;cases ok with
  |true =>
   obtain⟨y,av,y1,y2,y3⟩:=Vt hT (K:=fun z=>K (.tup [z,.v (.bool false)])) (P:=P) (h:=h) (g:=g) (w:=w) (hk.2 Xu);refine⟨.tuple #[y,.bool false],_,?_,y2,.tup _ _ _ rfl (fun i a x h1 h2=>?_)⟩
   ·simp[Instr.lookup,run_underlying hu,E6,TL,r1,y1]
   ·match i,h1,h2 with
    |0,h1,h2=>simp at h1 h2;subst h1;subst h2;exact y3
    |1,h1,h2=>simp at h1 h2;subst h1;subst h2;exact .v _ _
  |false =>
   obtain⟨y,av,y1,y2,y3⟩:=Vt hT (K:=K) (P:=P) (h:=h) (g:=g) (w:=w) (hk.2 Xu);exact⟨y,av,by simp[Instr.lookup,run_underlying hu,E6,TL,r1,y1],y2,y3⟩
 ·obtain⟨a,a1,a2⟩:=hm.some hj hkey;have hr:=hv j (x,a) en a1 (by simpa using hj);cases ok with
  |true =>
   refine⟨.tuple #[en.val,.bool true],_,?_,hk.1 a a2,.tup _ _ _ rfl (fun i av y h1 h2=>?_)⟩
   ·simp[Instr.lookup,run_underlying hu,E6,TL,r1]
   ·match i,h1,h2 with
    |0,h1,h2=>simp at h1 h2;subst h1;subst h2;exact hr
    |1,h1,h2=>simp at h1 h2;subst h1;subst h2;exact .v _ _
  |false=>exact⟨en.val,a,by simp[Instr.lookup,run_underlying hu,E6,TL,r1],hk.1 a a2,hr⟩
theorem Y7(ho:∀r,D7 g w (AR h) r (h r)){ty:Nat}{m k:AV}{vm vk:Value}{ok:Bool}(hm:BG g w (AR h) m vm)(hx:BG g w (AR h) k vk)(hk:My T h ty m k ok K) :
  BO P h g w (Instr.lookup ty vm vk ok) K:=by
 unfold My at hk;split at hk
 ·obtain⟨kt,e,k1,k2,k3,k4⟩:=Mu hx hk;cases hm with
  |cmap _ _ _ b es ck hS hb hmm hv=>exact JF hT k1 k2 k3 hb hmm (fun i kv e p q=>(hv i kv e p q).up _) k4
 ·rename_i r;have hr:=ho r;cases hm with
  |mref _ _ b hu ht hp =>
   split at hk
   ·rename_i sh B2 e;rw[e]at hr;obtain⟨_,b',es,ck,a1,a2,a3,a4,a5,a6⟩:=hr;rw[a2]at hp;cases hp;obtain⟨kt,e,k1,k2,k3,k4⟩:=Mu hx hk;exact JF hT k1 k2 k3 a3 a4 (fun i kv e p q=>(a5 i kv e p q).up _) k4
   ·rename_i sh B2 e;rw[e]at hr;obtain⟨_,b',es,ck,a1,a2,a3,a4,a5,a6⟩:=hr;rw[a2]at hp;cases hp;obtain⟨kt,e,k1,k2,k3,k4⟩:=Mu hx hk;exact JF hT k1 k2 k3 a3 a4 a5 k4
   ·rename_i sh B2 e;rw[e]at hr;obtain⟨_,b',a1,a2⟩:=hr;rw[a1]at hp;cases hp;obtain⟨kt,e,k1,k2,k3,k4⟩:=Mu hx hk;cases a2 with
    |cmap _ _ _ _ es ck hS hb hmm hv=>exact JF hT k1 k2 k3 hb hmm (fun i kv e p q=>(hv i kv e p q).up _) k4
   ·exact hk.elim
 ·exact hk.elim
omit hT in
theorem Ov{ty:Nat}{ok:Bool}{B2:List (Value×AV)}{kx:Value}(hk:LN T ty ok B2 kx K):LO T ty ok B2 kx K:=by
 unfold LN at hk;unfold LO;split at hk
 ·rename_i e;split at hk
  ·rcases hk with ⟨a,⟨h1,h2⟩,h3⟩ | ⟨h1,h2⟩
   ·exact⟨fun b hb=>by rw[h2 b hb];exact h3,fun hn=>absurd h1 (hn a)⟩
   ·exact⟨fun b hb=>absurd hb (h1 b),fun _=>h2⟩
  ·rcases hk with ⟨a,⟨h1,h2⟩,h3⟩ | ⟨h1,h2⟩
   ·exact⟨fun b hb=>by rw[h2 b hb];exact h3,fun hn=>absurd h1 (hn a)⟩
   ·exact⟨fun b hb=>absurd hb (h1 b),fun _=>h2⟩
 ·exact hk.elim
omit hT in
theorem Mt{ty:Nat}{sh:EA}{k:AV}{A B:Value→Prop}(hk:JT T ty sh k A)(kY:∀x,A x→B x):JT T ty sh k B:=by
 unfold JT at *
 repeat' split at hk
 all_goals first | exact hk.elim | skip
 simp_all
omit hT in
theorem cf{ty:Nat}{m k:AV}{ok:Bool}(hk:Mx T h ty m k ok K):My T h ty m k ok K:=by
 unfold Mx at hk;unfold My;split at hk
 ·exact Mt hk fun _=>Ov
 ·split at hk
  ·exact Mt hk fun _=>Ov
  ·exact Mt hk fun _=>Ov
  ·exact Mt hk fun _=>Ov
  ·exact hk.elim
 ·exact hk.elim
theorem fQ(ho:∀r,D7 g w (AR h) r (h r)){t ty:Nat}{x:AV}{vx:Value}(hx:BG g w (AR h) x vx)(hk:QF T t h x K):BO P h g w (Builtin.len_ #[t] ty #[vx]) K:=by
 unfold QF at hk;split at hk
 ·rename_i e ht;have hu:=hT.slice ht;have run:∀a n c,(Builtin.len_ #[t] ty #[.slice a n c]).run P w=.ok (.int .i64 n) w:=fun a n c=>by simp[Builtin.len_,run_underlying hu,goInt]
  split at hk
  ·have hs:=hx.slice_none;cases hs with
   |snil _ a cap=>exact⟨_,_,run a 0 cap,hk,.v _ _⟩
   |slice _ _ b off sz cap val hc=>exact⟨_,_,run _ _ _,hk,.v _ _⟩
  ·cases hx with
   |msl=>exact⟨_,_,run _ _ _,hk,.v _ _⟩
  ·obtain rfl:=hx.v_eq;exact⟨_,_,run _ _ _,hk,.v _ _⟩
  ·exact hk.elim
 ·rename_i ht;split at hk
  ·obtain rfl:=hx.v_eq;exact⟨_,_,by simp[Builtin.len_,run_underlying (hT.string ht),goInt],hk,.v _ _⟩
  ·exact hk.elim
 ·rename_i k e ht;have hu:=hT.map ht;have run:∀b es ck,w.heap[b]?=some (.map es ck)→(Builtin.len_ #[t] ty #[.map (some b)]).run P w=.ok (.int .i64 es.size) w:=fun b es ck hb=>by
   simp[Builtin.len_,run_underlying hu,goInt,run_getObj_map (P:=P) w b es ck hb]
  split at hk
  ·cases hx with
   |cmap _ _ _ b es ck hS hb hmm hv=>exact⟨_,_,run b es ck hb,by rw[hmm.1];exact hk,.v _ _⟩
  ·rename_i r;have hr:=ho r;cases hx with
   |mref _ _ b fD ht' hp =>
    split at hk
    ·rename_i sh B2 e;rw[e]at hr;obtain⟨_,b',es,ck,a1,a2,a3,a4,a5,a6⟩:=hr;rw[a2]at hp;cases hp;exact⟨_,_,run _ es ck a3,by rw[a4.1];exact hk,.v _ _⟩
    ·rename_i sh B2 e;rw[e]at hr;obtain⟨_,b',es,ck,a1,a2,a3,a4,a5,a6⟩:=hr;rw[a2]at hp;cases hp;exact⟨_,_,run _ es ck a3,by rw[a4.1];exact hk,.v _ _⟩
    ·rename_i sh B2 e;rw[e]at hr;obtain⟨_,b',a1,a2⟩:=hr;rw[a1]at hp;cases hp;cases a2 with
     |cmap _ _ _ _ es ck hS hb hmm hv=>exact⟨_,_,run _ es ck hb,by rw[hmm.1];exact hk,.v _ _⟩
    ·exact hk.elim
  ·exact hk.elim
 ·exact hk.elim
end
theorem Wc(ho:∀r,D7 g w (AR h) r (h r)){t:Nat→AV}{ρ:Operand→Value}(ht:∀x:Operand,BG g w (AR h) (ev t x) (ρ x)){fn:Fn}{first cap:Array Operand}(hk:Kp t h fn first.toList cap.toList K) :
  BO P h g w (Instr.makeFunc fn (first.map ρ) (cap.map ρ)) K:=by
 unfold Kp at hk;split at hk
 ·rename_i f e;have hf:first=#[]:=by
   apply NT;simpa using e
  subst hf;refine⟨_,_,rfl,hk,?_⟩;have e0:Array.map ρ (#[]:Array Operand)=#[]:=by simp
  rw[e0];refine .clo _ f (cap.toList.map fun x=>rsv h (ev t x)) (cap.map ρ) (by simp) (fun i av x h1 h2=>?_);rw[AG,AY]at h1;obtain⟨y,y1,rfl⟩:=h1;rw[NU,AY]at h2;obtain⟨z,z1,rfl⟩:=h2
  have:y=z:=by
   have:=y1
   rw[A1,z1]at this;exact(BL this).symm
  subst this;exact(ht y).rsv ho
 ·exact hk.elim
theorem Wf{x:AV}{vx:Value}(hx:BG g w (AR h) x vx)(hk:Kt x K){pos:String}{after:Array Edge}{gd:Option (Nat×Bool)}{dst:Option Tmp}{ty:Nat}{ρ:Operand→Value}{X:Operand}(hX:ρ X=vx) :
  (execOp ρ ⟨dst,.nilCheck X,ty,pos,after,gd⟩).run P w=.ok (.value vx) w∧K x:=by
 subst hX;unfold Kt at hk;split at hk
 all_goals first
  |exact hk.elim
  |(refine⟨?_,hk⟩;generalize hq:ρ X=q at hx;cases hx;simp[execOp,hq];done)
theorem bB(ho:∀r,D7 g w (AR h) r (h r)){x:AV}{vx:Value}(hx:BG g w (AR h) x vx)(hk:YL h x K):BO P h g w (Instr.entry vx) K:=by
 unfold YL at hk;split at hk
 ·rename_i r;have hr:=ho r;split at hk
  ·rename_i all rem kv e;rw[e]at hr;cases hx with
   |ref _ _ _ b hu ht hp =>
    obtain⟨_,b',mb,JJ,seen,st,es,ck,a1,a2,a3,a4,a5,⟨sh,a6⟩,a7,a8,a9,WH,ZF,a12,lR⟩:=hr;rw[a2]at hp;cases hp;obtain⟨i,en,c1,c2,c3⟩:=a12;have pS:es.find? (fun e=>e.born == en.born)=some en:=by
     rw[Array.find?_eq_some_iff_getElem];obtain⟨DF,he⟩:=Bw.1 c2;refine⟨by simp,i,DF,he,fun j hj=>?_⟩;have fo : j<es.size:=by omega
     simp only[CQ,beq_eq_false_iff_ne,U7];intro e'
     have:=a6.2.2.2.2.2 j i es[j] en (by simp[fo]) c2 e'
     omega
    have hkey:=a6.2.1 i kv en c1 c2;refine⟨.tuple #[en.key,en.val],_,?_,hk,.tup _ _ _ rfl (fun k av y h1 h2=>?_)⟩
    ·have T4:(getObj b).run P w=.ok (.mapIter (some mb) JJ seen st) w:=by simp[getObj,Sem.run,a3]
     have fh:=run_getObj_map (P:=P) w mb es ck a5;simp[Instr.entry,T4,c3,fh,a8,pS]
    ·match k,h1,h2 with
     |0,h1,h2=>simp at h1 h2;subst h1;subst h2;rw[hkey];exact .v _ _
     |1,h1,h2=>simp at h1 h2;subst h1;subst h2;exact(a9 i kv en c1 c2).up _
  ·exact hk.elim
 ·exact hk.elim
end
end Go.Eng
