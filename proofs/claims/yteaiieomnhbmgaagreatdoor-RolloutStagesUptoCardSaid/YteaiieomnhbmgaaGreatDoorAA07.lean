/- Lemmas 7. -/
import Derived.Test.YteaiieomnhbmgaaGreatDoorAA06
import Derived.Laws.IdiomStrings
import Derived.Lib.BufferRead
namespace Go.Eng
variable {x vx:Value}{U:Nat->Prop}{ρ:Operand->Value}{es:Array MapEntry}{w:World}{sh:Fg}{Cc:List (Value×AV)}{Hw:Array TypeId}{g:Gh}{ok:Bool}{vs:List Value}{e:MapEntry}{a:AV}{i kt:Nat}{vi vy y:Value}{ck:Nat}
section
variable {P:Program}{T:Ha}(hT:CI P T){h:Nat->HO}{g:Gh}{w:World}{K:AV->Prop}
section
include hT
theorem WI{t:Nat}{x ix:AV}(hx:BS g w (AQ h) x vx)(hi:BS g w (AQ h) ix vi)(hk:Kp T t x ix K):BU P h g w (Instr.indexAt t vx vi) K:=by
 unfold Kp at hk;split at hk
 .rename_i e i ht;obtain rfl:=hi.v_eq;have hu:=hT.slice ht;split at hk
  .exact hk.elim
  .rename_i m hm;have C3:∀b off (len cap:Nat),0<=i->i<(len:Int)->(Instr.indexAt t (.slice (some ⟨b,off,none⟩) len cap) (.int .i64 i)).run P w=.ok (.pointer (some ⟨b,off+i.toNat*(T e).size,none⟩)) w:=fun b off len cap h0 h1=>by
    simp[Instr.indexAt,asIntOf,run_underlying hu,h0,h1,hT.size1 w hm,Addr.add_lit,hm]
   split at hk
   .rename_i tk es;obtain⟨cs,⟨h0,h1⟩,h2,hk⟩:=hk;have hs:=hx.slice_none;have Du:=(Av.1 h1).1;cases hs with
    |snil=>simp at h1
    |slice _ _ b off sz cap val hc hl DY EE=>
     have EZ:sz=(T e).size:=by rw[<-h2];exact(hl _ _ h1).symm
     subst EZ;refine⟨_,_,C3 b off es.length cap h0 ch,hk,.cptr _ cs b _ (val i.toNat) (fun j av hj=>?_) (fun j av hj=>EE _ _ _ _ h1 hj)⟩;exact DY _ _ _ _ h1 hj
   .rename_i r n;obtain⟨⟨h0,h1⟩,hk⟩:=hk;cases hx with
    |msl _ _ _ a cap mO ht' hn ha MS=>
     rcases ha with rfl | ⟨b,rfl⟩
     .omega
     .refine⟨_,_,C3 b 0 n cap h0 h1,hk,?_⟩;rw[Bg];exact .eref _ r n _ _ 0 b cap mO ht' ⟨by omega,hn⟩ (fun e=>(MS e).symm)
   .exact hk.elim
 .rename_i n e i ht;obtain rfl:=hi.v_eq;have hu:=hT.array ht;split at hk
  .exact hk.elim
  .rename_i m hm;have C3:∀b off,0<=i->i<(n:Int)->(Instr.indexAt t (.pointer (some ⟨b,off,none⟩)) (.int .i64 i)).run P w=.ok (.pointer (some ⟨b,off+i.toNat*(T e).size,none⟩)) w:=fun b off h0 h1=>by
    simp[Instr.indexAt,asIntOf,run_underlying hu,h0,h1,hT.size1 w hm,Addr.add_lit,hm,Instr.sureAddr]
   split at hk
   .cases hx with
    |cptr _ _ b off val DY EE=>exact⟨_,_,C3 b off hk.1.1 hk.1.2,hk.2,(BS.cptr _ _ b off val DY EE).cptr_drop _⟩
   .rename_i r off;cases hx with
    |ref _ _ _ b hu ht hp=>exact⟨_,_,C3 b off hk.1.1 hk.1.2,hk.2,.ref _ r _ b hu ht hp⟩
   .exact hk.elim
 .exact hk.elim
theorem ji{t:Nat}{x ix:AV}(hx:BS g w (AQ h) x vx)(hi:BS g w (AQ h) ix vi)(hk:Va T t x ix K):BU P h g w (Instr.index t vx vi) K:=by
 unfold Va at hk;split at hk
 .rename_i s i ht;obtain rfl:=hx.v_eq;obtain rfl:=hi.v_eq;obtain⟨b,⟨h0,h1⟩,hk⟩:=hk;refine BU.val (x:=.int .u8 b.toNat) ?_ hk;have h2:s[i.toNat]?=some b:=by
   have:=(Bv.1 h1)
   obtain⟨l1,l2⟩:=this;have l1' : i.toNat<s.size:=l1;rw[getElem?_pos s i.toNat l1'];exact Aa some l2
  simp[Instr.index,asIntOf,run_underlying (hT.string ht),h0,h2]
 .rename_i n e cs i ht;obtain rfl:=hi.v_eq;obtain⟨⟨h0,h1⟩,hk⟩:=hk;cases hx with
  |agg _ _ xs a1 a2 a3=>
   have hd:(T e).d≠.other:=by
    intro e';unfold bL MN at hk;rw[e']at hk;exact hk.elim
   obtain⟨y,av,p1,p2,p3⟩:=bM hT (ZM.of_agg (.agg _ _ xs a1 a2 a3) _) hk;refine⟨y,av,?_,p2,p3⟩;simp[Instr.index,asIntOf,run_underlying (hT.array ht),h0,h1,hT.size w hd,p1]
 .exact hk.elim
theorem af{s t:Nat}{x:AV}(hx:BS g w (AQ h) x vx)(hk:Xq T s t x K):BU P h g w (convert s t vx) K:=by
 unfold Xq at hk;split at hk
 .rename_i k n h1 h2;obtain rfl:=hx.v_eq;refine BU.val (x:=.int .i64 n) ?_ hk.2;have hw:=N9 hk.1;simp[convert,run_underlying (hT.int h1),run_underlying (hT.int h2),Conv.intToInt,hw]
 .rename_i k k' m n DH h1 h2;obtain rfl:=hx.v_eq;refine BU.val (x:=.int k' (k'.wrap n)) ?_ hk;simp[convert,run_underlying (hT.int h1),run_underlying (hT.int h2),Conv.intToInt]
 .rename_i s' h1 h2;obtain rfl:=hx.v_eq;refine BU.val (x:=.string s') ?_ hk;simp[convert,run_underlying (hT.string h1),run_underlying (hT.string h2)]
 .rename_i e tk es h1 h2;split at hk
  .rename_i h3;obtain⟨l,rfl,hk⟩:=hk;have hr:=hx.slice_none;refine BU.val (x:=.string ⟨l.toArray⟩) ?_ hk;generalize hes:l.map (fun b=>[AV.v (.int .u8 b.toNat)])=es at hr;cases hr with
   |snil _ a cap=>
    have hl:l=[]:=by cases l with | nil=>rfl | cons b l=>cases hes
    subst hl;cases a with
    |none=>exact Lib.run_convert_nil_bytes w s t e cap (hT.slice h1) (hT.int h3) (hT.string h2)
    |some a=>exact run_convert_bytes_back w s t e a cap [] (hT.slice h1) (hT.int h3) (hT.string h2) (fun j hj=>by simp at hj)
   |slice _ _ b off sz cap val hc hl DY EE=>
    have CQ:l.length=es.length:=by rw[<-hes];simp
    have:=run_convert_bytes_back (P:=P) w s t e ⟨b,off,none⟩ cap l (hT.slice h1) (hT.int h3) (hT.string h2) (fun j hj=>by
     have hg:es[j]?=some [AV.v (.int .u8 l[j].toNat)]:=by rw[<-hes,AG,Az hj];rfl
     have Qt:sz=1:=(hl j _ hg).symm;have h4:=DY j _ 0 _ hg rfl;have h5:=EE j _ 0 _ hg rfl;rw[Addr.add_lit];rw[Qt,Nat.mul_one,Gi]at h4;rw[h4.2.1,h5.v_eq])
    rw[CQ]at this;exact this
  .exact hk.elim
 .exact hk.elim
end
theorem oO{op:UnOp}{x:AV}(hx:BS g w (AQ h) x vx)(hk:ce op x K):BU P h g w (Op.unary op vx) K:=by
 unfold ce at hk;split at hk
 .unfold jD at hk;split at hk
  .obtain rfl:=hx.v_eq;exact BU.val (x:=.bool false) (by simp[Op.unary]) hk
  .obtain rfl:=hx.v_eq;exact BU.val (x:=.bool true) (by simp[Op.unary]) hk
  .exact hk.elim
 .rename_i a;obtain rfl:=hx.v_eq;refine BU.val (x:=.int .i64 (-a)) ?_ hk.2
  have:=N9 hk.1
  simp[Op.unary,Op.intArith,this]
 .obtain rfl:=hx.v_eq;exact BU.val (by simp[Op.unary,Op.intBits,CW]) hk
 .exact hk.elim
theorem bD:∀{l:List AV} {j:Nat} {a:AV},rc l j=some a->l[j]?=some a
 | [],j,a,h=>by cases h
 |b::r,0,a,h=>by simpa[rc]using h
 |b::r,j+1,a,h=>by simpa using bD (l:=r) (j:=j) h
theorem aA{i:Nat}{x:AV}(hx:BS g w (AQ h) x vx)(hk:Na x i K):BU P h g w (Instr.extract vx i) K:=by
 unfold Na at hk;split at hk
 .rename_i cs;cases hx with
  |tup _ _ vs hs hh=>
   split at hk
   .rename_i a ha;have hc:=bD ha;have hi:i<vs.size:=by rw[hs];exact(Av.1 hc).1
    exact⟨vs[i],_,by simp[Instr.extract,hi],hk,hh _ _ _ hc (by simp[hi])⟩
   .exact hk.elim
 .exact hk.elim
theorem nS{c a b:AV}{vc va vb:Value}(hc:BS g w (AQ h) c vc)(ha:BS g w (AQ h) a va)(hb:BS g w (AQ h) b vb)(hk:bN c a b K) :
  BU P h g w (do pure (if <-asBool vc then va else vb)) K:=by
 unfold bN at hk;split at hk
 .obtain rfl:=hc.v_eq;exact⟨va,a,by simp[asBool],hk,ha⟩
 .obtain rfl:=hc.v_eq;exact⟨vb,b,by simp[asBool],hk,hb⟩
 .exact hk.elim
theorem qS{t:Nat}{x y:AV}(hx:BS g w (AQ h) x vx)(hy:BS g w (AQ h) y vy)(hk:qV max x y K):BU P h g w (Builtin.max_ Hw t #[vx,vy]) K:=by
 unfold qV at hk;split at hk
 .rename_i k a k' b;split at hk
  .obtain rfl:=hx.v_eq;obtain rfl:=hy.v_eq;refine BU.val (x:=.int k (max a b)) ?_ hk;simp[Builtin.max_,Builtin.max2];omega
  .exact hk.elim
 .exact hk.elim
theorem qU{t:Nat}{x y:AV}(hx:BS g w (AQ h) x vx)(hy:BS g w (AQ h) y vy)(hk:qV min x y K):BU P h g w (Builtin.min_ Hw t #[vx,vy]) K:=by
 unfold qV at hk;split at hk
 .rename_i k a k' b;split at hk
  .obtain rfl:=hx.v_eq;obtain rfl:=hy.v_eq;refine BU.val (x:=.int k (min a b)) ?_ hk;simp[Builtin.min_,Builtin.min2];omega
  .exact hk.elim
 .exact hk.elim
end
theorem CY.at{cs:List AV}(h:CY g w U cs vs){av:AV}(hi:cs[i]?=some av):∃x,vs[i]?=some x/\x.oneCell'=true/\BS g w U av x:=by
 have Du:i<vs.length:=by rw[h.1];exact(Av.1 hi).1
 exact⟨vs[i],Az Du,h.2.1 _ (Aq Du),h.2.2 i av _ hi (Az Du)⟩
theorem FL{α:Type}{n:Nat}:∀{es:List (List α)},(∀c∈es,c.length=n)->∀{i j:Nat} {c:List α},es[i]?=some c->j<n->es.flatten[i*n+j]?=c[j]?
 | [],_,i,j,c,h,_=>by simp at h
 |d::es,hl,0,j,c,h,hj=>by
  simp at h;subst h
  have:=hl d (Ab ..)
  rw[BD,AZ ch]
  congr 1;omega
 |d::es,hl,i+1,j,c,h,hj=>by
  have hd:=hl d (Ab ..);rw[BD,A0 (by rw[hd,Eg];omega)];rw[show(i+1)*n+j-d.length=i*n+j by rw[hd,Eg];omega];exact FL (fun c hc=>hl c (Ah _ hc)) (by simpa using h) hj
theorem DA{α:Type}{n:Nat}:∀{es:List (List α)},(∀c∈es,c.length=n)->es.flatten.length=es.length*n
 | [],_=>by simp
 |d::es,hl=>by
  rw[BD,Ac,hl d (Ab ..),DA (fun c hc=>hl c (Ah _ hc)),Ag,Eg,Nat.add_comm]
section
variable {P:Program}{T:Ha}(hT:CI P T){h:Nat->HO}{g:Gh}{w:World}{K:AV->Prop}(ho:∀r,EC g w (AQ h) r (h r))
include ho
theorem iq(hT:CI P T){t:Nat}{x:AV}(hx:BS g w (AQ h) x vx){hi mx:Option Operand}(hk:cM T h t x hi mx K):BU P h g w (Instr.sliceAt t vx none (hi.map ρ) (mx.map ρ)) K:=by
 unfold cM at hk;split at hk
 .rename_i n e r hd;split at hk
  .rename_i cs hs he;obtain⟨rfl,hk⟩:=hk;cases hx with
   |ref _ _ _ b hu ht hx=>
    have hr:=ho r;rw[he]at hr;obtain⟨_,b',a1,a2⟩:=hr;rw[a1]at hx;cases hx;cases a2 with
    |cptr _ _ _ off val DY EE=>
     have ha:=hT.array hd;refine⟨.slice (some ⟨b,0,none⟩) cs.length cs.length,_,?_,hk,?_⟩
     .simp[Instr.sliceAt,Instr.sureAddr,run_underlying ha,Instr.sliceBounds,hT.size1 w hs,Addr.add_lit]
     .have q:=BS.slice (g:=g) (w:=w) (AQ h) (cs.map fun c=>[c]) b 0 1 cs.length (fun i _=>val i) B0 B0 ?_ ?_
      .simpa using q
      .intro i c j av h1 h2;rw[AG,AS]at h1;obtain⟨a,h3,rfl⟩:=h1;obtain⟨rfl,rfl⟩:j=0/\av=a:=by cases j<;>simp_all
       have:=DY i av h3
       simpa using this
      .intro i c j av h1 h2;rw[AG,AS]at h1;obtain⟨a,h3,rfl⟩:=h1;obtain⟨rfl,rfl⟩:j=0/\av=a:=by cases j<;>simp_all
       exact EE i av h3
  .exact hk.elim
 .exact hk.elim
theorem XI(hT:CI P T){t:Nat}{p:AV}{vp:Value}(hp:BS g w (AQ h) p vp)(hk:IZ T h t p K):BU P h g w (Instr.loadAt t vp) K:=by
 have Wg:∀b off,BU P h g w (loadVar t ⟨b,off,none⟩) K->BU P h g w (Instr.loadAt t (.pointer (some ⟨b,off,none⟩))) K:=by
  rintro b off ⟨x,av,h1,h2,h3⟩
  exact⟨x,av,by simp[Instr.loadAt,Instr.sureAddr,h1],h2,h3⟩
 unfold IZ at hk;split at hk
 .cases hp with
  |cptr _ _ b off val DY EE=>exact Wg b off (Nr hT (Im.of_cptr (.cptr FK _ b off val DY EE) _) hk)
 .rename_i r off;have hr:=ho r;cases hp with
  |ref _ _ _ b hu ht hx=>
   split at hk
   .rename_i cs e;rw[e]at hr;obtain⟨_,b',E,vs,a1,a2,a3,a4,a5⟩:=hr;rw[a2]at hx;cases hx
    have:=(Im.of_row a3 a4).drop off
    rw[Bg]at this;exact Wg b off (Nr hT this hk)
   .rename_i cs e;rw[e]at hr;obtain⟨_,b',a1,a2⟩:=hr;rw[a1]at hx;cases hx
    have:=(Im.of_cptr a2 (AQ h)).drop off
    rw[Bg]at this;exact Wg b off (Nr hT this hk)
   .exact hk.elim
 .rename_i r n sz i off;have hr:=ho r;cases hp with
  |eref _ _ _ _ _ _ b cap hu ht hn hx=>
   split at hk
   .rename_i Hb es e;rw[e]at hr;split at hk
    .rename_i hz;obtain rfl:=AL hz;obtain⟨CQ,cs,h1,hk⟩:=hk;obtain⟨t1,l1,al,a1⟩:=hr;have Du:=(Av.1 h1).1;rcases a1 with ⟨rfl,_⟩ | ⟨b',Mb,E,vs,e1,e2,e3,e4,e5,e6,e7⟩
     .simp at h1
     .have:=hx (CQ.trans l1.symm)
      rw[e1]at this;simp only[Value.slice.injEq,BB,Addr.mk.injEq]at this;obtain⟨⟨rfl,_,_⟩,_,_⟩:=this;refine Wg _ _ (Nr hT (cs:=cs.drop off) (fun j av hj=>?_) hk);rw[D0]at hj;have hcl:=al cs (Aw h1);have yz:off+j<sz:=by rw[<-hcl];exact(Av.1 hj).1
      have hf:=FL al h1 yz;rw[hj]at hf;obtain⟨x,x1,x2,x3⟩:=e6.at hf;refine⟨x,?_,x2,x3.up _⟩;rw[F7 e4];have uF:i*sz+(off+j)<es.length*sz:=by
       have:=A9 sz (show i+1<=es.length from Du)
       rw[Eg]at this;omega
      rw[BW uF]at x1;rw[<-Hc]at x1;simpa using x1
    .exact hk.elim
   .rename_i Hb es i' c av e;rw[e]at hr;split at hk
    .rename_i hz;obtain rfl:=AL hz;obtain⟨⟨CQ,rfl,rfl⟩,hk⟩:=hk;obtain⟨t1,l1,al,b',Mb,E,vs,e1,e2,e3,e4,e5,e6,e7,e8,x,e9,xK⟩:=hr
     have:=hx (CQ.trans l1.symm)
     rw[e1]at this;simp only[Value.slice.injEq,BB,Addr.mk.injEq]at this;obtain⟨⟨rfl,_,_⟩,_,_⟩:=this;refine Wg _ _ (Nr hT (cs:=[av]) (fun j a' hj=>?_) hk);cases j with
     |succ j=>simp at hj
     |zero=>
      simp only[Bf,BB]at hj;subst hj;refine⟨x,by rw[F7 e4];simpa using e9,?_,xK⟩;have hm:x∈vs.toList.take (es.length*sz):=by
       have h9:vs.toList[i*sz+off]?=some x:=by simpa using e9
       exact Aw (by rw[BW e8];exact h9)
      exact e6.2.1 x hm
    .exact hk.elim
   .exact hk.elim
 .exact hk.elim
end
theorem Gc{α:Type}:∀(cs:List α) (o:Nat) (vs:List α),(over cs o vs).length=cs.length
 | [],_,_=>rfl
 |c::cs,o+1,vs=>by simp[over,Gc cs o vs]
 |c::cs,0,[]=>rfl
 |c::cs,0,v::vs=>by simp[over,Gc cs 0 vs]
theorem Gb{α:Type}:∀(cs:List α) (o:Nat) (vs:List α) (i:Nat),o+vs.length<=cs.length->(over cs o vs)[i]?=if o<=i/\i<o+vs.length then vs[i-o]? else cs[i]?
 | [],o,vs,i,h=>by
  simp at h;obtain⟨rfl,rfl⟩:=h;simp[over]
 |c::cs,o+1,vs,0,h=>by simp[over]
 |c::cs,o+1,vs,i+1,h=>by
  have:=Gb cs o vs i (by simp at h;omega)
  simp only[over,Hy,this]
  by_cases hc:o<=i/\i<o+vs.length
  .rw[Al hc,Al ch];congr 1;omega
  .rw[Aj hc,Aj ch]
 |c::cs,0,[],i,h=>by
  have:¬(0<=i/\i<0+([]:List α).length):=by simp
  rw[Aj this];rfl
 |c::cs,0,v::vs,0,h=>by simp[over]
 |c::cs,0,v::vs,i+1,h=>by
  have:=Gb cs 0 vs i (by simp at h;omega)
  simp only[over,Hy,this]
  by_cases hc:0<=i/\i<0+vs.length
  .rw[Al hc,Al (by simp;omega)];simp
  .rw[Aj hc,Aj (by simp at hc⊢;omega)]
theorem CY.over{g:Gh}{w:World}{U:Nat->Prop}{cs Wu:List AV}{xs vs:List Value}(h:CY g w U cs xs)(k:CY g w U Wu vs)(o:Nat)(Ij:o+Wu.length<=cs.length) :
  CY g w U (Eng.over cs o Wu) (Eng.over xs o vs):=by
 have yG : o+vs.length<=xs.length:=by rw[k.1,h.1];exact Ij
 refine⟨by rw[Gc,Gc,h.1],fun x hx=>?_,fun i av x h1 h2=>?_⟩
 .obtain⟨i,hi⟩:=Cp.1 hx;rw[Gb _ _ _ _ yG]at hi;split at hi
  .exact k.2.1 _ (Aw hi)
  .exact h.2.1 _ (Aw hi)
 .rw[Gb _ _ _ _ Ij]at h1;rw[Gb _ _ _ _ yG,k.1]at h2;split at h1
  .rename_i hc;rw[Al hc]at h2;exact k.2.2 _ _ _ h1 h2
  .rename_i hc;rw[Aj hc]at h2;exact h.2.2 _ _ _ h1 h2
theorem vr(h:BS g w U a x)(h1:one a=true):x.oneCell'=true:=by
 cases h with
 |v=>exact h1
 |tok _ r sz es _ h=>cases h with
  |snil=>rfl
  |slice=>rfl
 |ver _ r sz v es _ h=>cases h with
  |snil=>rfl
  |slice=>rfl
 |full _ sz es _ h=>cases h with
  |snil=>rfl
  |slice=>rfl
 |_=>first |rfl |(cases h1;done)
theorem jJ(h:x.oneCell'=true):x.cells=#[x]:=by
 cases x<;>first | rfl | (simp[Value.oneCell']at h)
theorem NO{n:Nat}{K:List AV->Prop}(h:BS g w U a x)(hk:HQ n a K) :
  ∃cs,K cs/\cs.length=n/\CY g w U cs x.cells.toList:=by
 have single:one a=true->n=1->K [a]->∃cs,K cs/\cs.length=n/\CY g w U cs x.cells.toList:=by
  intro h1 hn hk;have hx:=vr h h1;rw[jJ hx];refine⟨[a],hk,hn.symm,rfl,by simpa using hx,fun i av y e1 e2=>?_⟩;cases i with
  |zero=>simp at e1 e2;subst e1;subst e2;exact h
  |succ i=>simp at e1
 unfold HQ at hk;split at hk
 .rename_i cs;split at hk
  .rename_i hl;cases h with
   |agg _ _ vs hs h1 hr=>
    refine⟨cs,hk,AL hl,by simpa[Value.cells]using hs,fun y hy=>?_,fun i av y e1 e2=>?_⟩
    .obtain⟨i,hi⟩:=Cp.1 hy;exact h1 i y (by simpa[Value.cells]using hi)
    .exact hr i av y e1 (by simpa[Value.cells]using e2)
  .exact hk.elim
 .split at hk
  .rename_i h1;split at hk
   .exact single h1 rfl hk
   .exact hk.elim
  .exact hk.elim
theorem OZ:∀(vs:List Value) (k o:Nat) (cs:Array Value),o+k+vs.length<=cs.size ->
  ((vs.zipIdx k).foldl (fun(cs:Array Value) (p:Value×Nat)=>cs.setIfInBounds (o+p.2) p.1) cs).toList=over cs.toList (o+k) vs
 | [],k,o,cs,_=>by
  have:∀(l:List Value) (o:Nat),over l o []=l:=by
   intro l
   induction l with
   |nil=>intro o;rfl
   |cons c l ih=>intro o;cases o with
    |zero=>rfl
    |succ o=>simp[over,ih]
  simp[this]
 |v::vs,k,o,cs,h=>by
  simp at h;rw[List.zipIdx_cons,Fq,OZ vs (k+1) o _ (by simp;omega)];simp only[Array.toList_setIfInBounds];apply Dx;intro i;rw[Gb _ _ _ _ (by simp;omega),Gb _ _ _ _ (by simp;omega)];simp only[Ag,List.getElem?_set]
  by_cases h1:i=o+k
  .subst h1;rw[Aj ch,Al ch];have Du:o+k<cs.size:=by omega
   simp[Du]
  .by_cases h2:o+k<=i/\i<o+k+(vs.length+1)
   .rw[Al ch,Al h2,show i-(o+k)=(i-(o+(k+1)))+1 by omega];simp
   .rw[Aj ch,Aj ch,Aj h2]
theorem UK{g:Gh}{w:World}{U:Nat->Prop}{t:Nat->AV}{ρ:Operand->Value}(ht:∀x:Operand,BS g w U (ev t x) (ρ x)){pl pl' : Nat->Option (Nat×Nat)}(pA:∀i p,pl i=some p->pl' i=some p) :
  ∀{ps:List (Nat×Operand)} {cs:List AV} {xs:Array Value} {K:List AV->Prop},CY g w U cs xs.toList->LJ pl cs t ps K ->
   ∃db Ye,K db/\CY g w U db Ye.toList/\Instr.fill pl' xs (ps.map fun(i,x)=>(i,ρ x))=some Ye
 | [],cs,xs,K,h,hk=>⟨cs,xs,hk,h,rfl⟩
 |(i,x)::ps,cs,xs,K,h,hk=>by
  unfold LJ at hk;split at hk
  .exact hk.elim
  .rename_i o n hp;obtain⟨Wu,hk,hn,hr⟩:=NO (ht x) hk;split at hk
   .rename_i Ij;have Ij:=GG Ij;have EZ:(ρ x).cells.size=n:=by rw[<-hn];simpa using hr.1
    have pE:cs.length=xs.size:=by simpa using h.1.symm
    have EY:=h.over hr o (by rw[hn];exact Ij);have e:=OZ (ρ x).cells.toList 0 o xs (by simp[EZ];omega);simp only[Gi]at e;rw[<-e]at EY;obtain⟨db,Ye,k1,k2,k3⟩:=UK ht pA EY hk;refine⟨db,Ye,k1,k2,?_⟩;simp only[AK,Instr.fill,pA _ _ hp];have e2:(ρ x).cells.zipIdx.foldl (fun cs (c,j)=>cs.setIfInBounds (o+j) c) xs=((ρ x).cells.toList.zipIdx 0).foldl (fun(cs:Array Value) (p:Value×Nat)=>cs.setIfInBounds (o+p.2) p.1) xs:=by
     rw[<-Array.foldl_toList];simp
    rw[Aj (by simp[EZ];omega),e2];exact k3
   .exact hk.elim
theorem NI:∀{l:List AV},Hp l=true->∀a∈l,one a=true
 | [],_,a,h=>by cases h
 |b::r,h,a,ha=>by
  unfold Hp at h;split at h
  .rename_i hb;rcases AA.1 ha with rfl | ha
   .exact hb
   .exact NI h a ha
  .cases h
theorem CY.vals(h:Hp (vs.map .v)=true):CY g w U (vs.map .v) vs:=by
 refine⟨by simp,fun x hx=>?_,fun i av x h1 h2=>?_⟩
 .have:=NI h (.v x) (Ai.2 ⟨x,hx,rfl⟩)
  simpa[one]using this
 .rw[AG,h2]at h1;simp at h1;subst h1;exact .v _ _
section
variable {P:Program}{T:Ha}(hT:CI P T){h:Nat->HO}{g:Gh}{w:World}{K:AV->Prop}
theorem bp{α β:Type}(P:Program)(w:World)(f:α->Sem β)(f' : α->β):∀(l:List α),(∀a∈l,(f a).run P w=.ok (f' a) w)->(l.mapM f).run P w=.ok (l.map f') w
 | [],_=>rfl
 |a::l,h=>by
  have h1:=h a (Ab ..);have h2:=bp P w f f' l (fun b hb=>h b (Ah _ hb));simp[List.mapM_cons,Sem.run_bind,h1,h2]
theorem Sx:∀{fs:List (Nat×Nat)},PI T fs=true->∀p∈fs,∃n,(T p.1).size=n+1
 | [],_,p,h=>by cases h
 |(t,o)::r,h,p,hp=>by
  unfold PI at h;split at h
  .cases h
  .rename_i n hn;rcases AA.1 hp with rfl | hp
   .exact⟨n,hn⟩
   .exact Sx h p hp
include hT
theorem Rh{t:Nat}(hd:(T t).d≠.other):∃z,(zeroValue t).run P w=.ok z w/\(T t).zc=z.cells.toList/\(T t).zero=z:=by
 obtain⟨d,i,z,h1,h2,h3,h4,h5,h6,h7,h8⟩:=hT.get hd;exact⟨z,by simp[zeroValue,typeInfo,h3,h4],by rw[TI.zc_cells,h7],h7⟩
theorem Yg{t n:Nat}(h:(T t).size=n+1):∃z,(zeroValue t).run P w=.ok z w/\(T t).zc=z.cells.toList:=by
 rcases hT t with e | e
 .rw[e]at h;cases h
 unfold kw at e;split at e
 .split at e
  .rename_i d i h1 h2 _ z h3;exact⟨z,by simp[zeroValue,typeInfo,h2,h3],by rw[TI.zc_cells,e]⟩
  .rw[e]at h;cases h
 .rw[e]at h;cases h
theorem iy{ty:Nat}{t:Nat->AV}(ht:∀x:Operand,BS g w (AQ h) (ev t x) (ρ x)){ps:Array (Nat×Operand)}(hk:Rs T ty t ps.toList K) :
  BU P h g w (Instr.build ty (ps.map fun(i,x)=>(i,ρ x))) K:=by
 unfold Rs at hk;split at hk
 .exact hk.elim
 .rename_i Qt;have fin:∀(db : List AV) (Ye : Array Value),CY g w (AQ h) db Ye.toList->BS g w (AQ h) (.agg db) (.agg Ye):=fun db Ye hr=>
   .agg _ _ _ (by simpa using hr.1) (fun i x hx=>hr.2.1 x (Aw (by simpa using hx))) (fun i av x h1 h2=>hr.2.2 i av x h1 (by simpa using h2))
  split at hk
  .rename_i fs hs;have hd:(T ty).d≠.other:=by rw[hs];simp
   obtain⟨z,z1,z2,_⟩:=Rh hT (w:=w) hd;split at hk
   .exact hk.elim
   .rename_i EZ;obtain⟨fa,u1,u2,u3⟩:=hT.struct hs;have qD:(fa.mapM fun(f:Field)=>(do pure (f.offset,<-sizeOf f.type):Sem (Nat×Nat))).run P w=.ok (fa.map fun f=>(f.offset,(T f.type).size)) w:=by
     rw[Array.mapM_eq_mapM_toList]
     have:=bp P w (fun f:Field=>(do pure (f.offset,<-sizeOf f.type):Sem (Nat×Nat))) (fun f=>(f.offset,(T f.type).size)) fa.toList (fun f hf=>by
      obtain⟨n,hn⟩:=Sx EZ (f.type,f.offset) (by rw[u2];exact Ai.2 ⟨f,hf,rfl⟩);simp[hT.size1 w hn,hn])
     simp only[Sem.run_map,this,Result.andThen_ok]
     congr 1
     apply KE;simp
    rw[z2]at hk Qt;obtain⟨db,Ye,k1,k2,k3⟩:=UK ht (pl':=fun i=>(fa.map fun f=>(f.offset,(T f.type).size))[i]?) (fun i p hp=>by
     split at hp
     .rename_i t' o hf;cases hp;obtain⟨fa',fd,v1,v2,rfl,rfl⟩:=UO hT hs hf;rw[u1]at v1;cases v1;simp[v2]
     .cases hp) (CY.vals (vs:=z.cells.toList) Qt) hk
    refine⟨_,_,?_,k1,fin db Ye k2⟩;simp only[Instr.build,Sem.run_bind,z1,Result.andThen_ok,run_underlying u1,qD];have e3:(Array.map (fun x:Nat×Operand=>match x with | (i,x)=>(i,ρ x)) ps).toList=ps.toList.map fun(i,x)=>(i,ρ x):=by simp
    rw[e3];rw[k3]
    rfl
  .rename_i n e hs;have hd:(T ty).d≠.other:=by rw[hs];simp
   obtain⟨z,z1,z2,_⟩:=Rh hT (w:=w) hd;split at hk
   .exact hk.elim
   .rename_i m hm;rw[z2]at hk Qt;obtain⟨db,Ye,k1,k2,k3⟩:=UK ht (pl':=fun i=>some (i*(T e).size,(T e).size)) (fun i p hp=>hp) (CY.vals (vs:=z.cells.toList) Qt) hk;refine⟨_,_,?_,k1,fin db Ye k2⟩;simp only[Instr.build,Sem.run_bind,z1,Result.andThen_ok,run_underlying (hT.array hs),hT.size1 w hm];have e3:(Array.map (fun x:Nat×Operand=>match x with | (i,x)=>(i,ρ x)) ps).toList=ps.toList.map fun(i,x)=>(i,ρ x):=by simp
    rw[e3];simp only[hm]at k3;rw[k3]
    rfl
  .exact hk.elim
end
theorem qP{a b:KS}(h:qO a b=true):a=b:=by
 cases a<;>cases b<;>first | rfl | (simp[qO]at h;done) | (simp only[qO]at h;obtain rfl:=Li h;rfl)
theorem bj:∀{a b:List KS},Vh a b=true->a=b
 | [],[],_=>rfl
 |x::a,y::b,h=>by
  unfold Vh at h;split at h
  .rename_i e;obtain rfl:=qP e;obtain rfl:=bj h;rfl
  .cases h
 | [],_::_,h=>by simp[Vh]at h
 |_::_,[],h=>by simp[Vh]at h
theorem rM{a b:Fg}(h:vL a b=true):a=b:=by
 obtain⟨a1,a2⟩:=a;obtain⟨b1,b2⟩:=b;cases a1<;>cases b1<;>simp only[vL]at h<;>first | (obtain rfl:=bj h;rfl) | cases h
section
variable {P:Program}{T:Ha}(hT:CI P T)
include hT
def Lv(P:Program)(w:World)(b:Bool)(d t:Nat)(xs:Array Value)(o:Nat):Prop:=
 (do let a <-part t xs o;Instr.checkKey b d t a).run P w=.ok () w
theorem Uw(w:World)(b:Bool):∀(n t:Nat) (l:List KS),Iu T n t=some l->∀d,n<=d->∀(xs:Array Value) (o:Nat),J6 l (IS xs.toList o l.length)=true->Lv P w b d t xs o
 |0,t,l,h=>by simp[Iu]at h
 |n+1,t,l,h=>by
  intro d hd xs o hx;obtain⟨d,rfl⟩:∃d',d=d'+1:=⟨d-1,by omega⟩;have scalar:∀k,(T t).d≠.other->KI (T t).d=false->l=[k]->(∀x,Oy k x=true->(Instr.checkKey b (d+1) t x).run P w=.ok () w)->Lv P w b (d+1) t xs o:=by
   rintro k dA hs rfl hk
   obtain⟨x,x1,x2,x3⟩:=My hx;unfold Lv;simp[Sem.run_bind,Em hT w dA hs xs o _ x1,hk x x2]
  unfold Iu at h;split at h
  .rename_i k hk;split at h
   .cases h
    refine scalar _ (by rw[hk];simp) (by rw[hk];rfl) rfl (fun x hx=>?_);cases x<;>simp[Oy]at hx
    simp[Instr.checkKey,run_underlying (hT.int hk)]
   .cases h
  .rename_i hk;split at h
   .cases h
    refine scalar _ (by rw[hk];simp) (by rw[hk];rfl) rfl (fun x hx=>?_);cases x<;>simp[Oy]at hx
    simp[Instr.checkKey,run_underlying (hT.string hk)]
   .cases h
  .rename_i hk;split at h
   .cases h
    refine scalar _ (by rw[hk];simp) (by rw[hk];rfl) rfl (fun x hx=>?_);cases x<;>simp[Oy]at hx
    simp[Instr.checkKey,run_underlying (hT.bool hk)]
   .cases h
  .rename_i fs hk;split at h
   .split at h
    .rename_i l' Lh;split at h
     .rename_i CQ;cases h;have CQ:=AL CQ;have dA:(T t).d≠.other:=by rw[hk];simp
      have hs:KI (T t).d=true:=by rw[hk];rfl
      obtain⟨fa,u1,u2,u3⟩:=hT.struct hk;rw[u2]at Lh;have ex:(xs.extract o (o+(T t).size)).toList=IS xs.toList o l.length:=by
       rw[<-CQ];simp[IS]
      have s0:IS (IS xs.toList o l.length) 0 l.length=IS xs.toList o l.length:=by
       rw[gJ _ _ _ _ _ ch];rfl
      unfold Lv;simp only[Sem.run_bind,Hj hT w dA hs,Result.andThen_ok];have ih:=Uw w b n;have hq:J6 l (IS (xs.extract o (o+(T t).size)).toList 0 l.length)=true:=by rw[ex,s0];exact hx
      generalize xs.extract o (o+(T t).size)=ys at hq;simp only[Instr.checkKey,Sem.run_bind,run_underlying u1,Result.andThen_ok];rw[<-Array.forIn_toList]
      clear u2 hk
      have key : ∀ (fl : List Field) (m : Nat) (l : List KS), OY (Iu T n) m (fl.map fun f => (f.type, f.offset)) = some l -> (∀ f ∈ fl, f.name ≠ "_") -> J6 l (IS ys.toList m l.length) = true ->
        (forIn fl PUnit.unit (fun (f : Field) (_ : PUnit) => ((if f.name ≠ "_" then (do
         let x <-part f.type ys f.offset
         Instr.checkKey b d f.type x
         pure (ForInStep.yield PUnit.unit))else pure (ForInStep.yield PUnit.unit)):Sem (ForInStep PUnit)))).run P w=.ok PUnit.unit w:=by
       intro fl
       induction fl with
       |nil=>intro m l _ _ _;rfl
       |cons f fl ihf=>
        intro m l hg hn hy;obtain⟨ho,a,c,ha,hc,rfl⟩:=Ov hg;rw[Ac]at hy;obtain⟨y1,y2⟩:=TO hy;rw[QY _ _ _ _ ch]at y1;rw[QX,HA]at y2;have h1:=ih f.type a ha d ch ys m y1;unfold Lv at h1;rw[List.forIn_cons];simp only[Sem.run_bind,Al (hn f (Ab ..))];simp only[Sem.run_bind]at h1;rw[ho];generalize (part f.type ys m).run P w=r1 at h1⊢;cases r1 with
        |halt x w1=>cases h1
        |ok u w1=>
         simp only[Result.andThen_ok]at h1⊢;rw[h1];simp only[Result.andThen_ok,Sem.run_pure];exact ihf (m+a.length) c hc (fun f hf=>hn f (Ah _ hf)) y2
      rw[key fa.toList 0 l Lh u3 hq]
      rfl
     .cases h
    .cases h
   .cases h
  .cases h
theorem ot(hs:II T kt=some sh)(w:World)(hx:XX sh x=true)(hy:XX sh y=true) :
  ∃b:Bool,(Op.equal kt x y).run P w=.ok b w/\(b=true↔x=y):=by
 unfold II at hs;split at hs
 .rename_i fs hk;split at hs
  .rename_i l hl;cases hs;cases x<;>simp only[XX]at hx<;>try (cases hx;done)
   cases y<;>simp only[XX]at hy<;>try (cases hy;done)
   rename_i xs ys;have hd:(T kt).d≠.other:=by rw[hk];simp
   have ha:KI (T kt).d=true:=by rw[hk];rfl
   have CQ:l.length=(T kt).size:=by
    unfold Iu at hl;rw[hk]at hl;dsimp only at hl;split at hl
    .split at hl
     .split at hl
      .rename_i e;cases hl;exact AL e
      .cases hl
     .cases hl
    .cases hl
   have s0:∀zs:Array Value,J6 l zs.toList=true->IS zs.toList 0 l.length=zs.toList:=fun zs hz=>by
    have:=Mp hz
    simp only[IS,List.drop_zero];rw[At ch]
   have ex:∀zs:Array Value,J6 l zs.toList=true->zs.extract 0 (0+(T kt).size)=zs:=fun zs hz=>by
    have:=Mp hz
    rw[<-CQ,<-this];simp
   obtain⟨b,b1,b2⟩:=YL hT w 8 kt l hl 10000 ch xs ys 0 (by rw[s0 _ hx];exact hx) (by rw[s0 _ hy];exact hy);simp only[Sem.run_bind,Hj hT w hd ha,Result.andThen_ok,ex _ hx,ex _ hy]at b1;rw[s0 _ hx,s0 _ hy]at b2;refine⟨b,b1,b2.trans ⟨fun e=>by rw[KE e],fun e=>by cases e;rfl⟩⟩
  .cases hs
 .rename_i Od;split at hs
  .rename_i l hl;cases hs;have MS : J6 l [x]=true:=by cases x<;>exact hx
   have hy' : J6 l [y]=true:=by cases y<;>exact hy
   have single:∀k,l=[k]->Oy k x=true/\Oy k y=true:=by
    rintro k rfl
    unfold J6 at MS hy';split at MS
    .split at hy'
     .exact⟨‹_›,‹_›⟩
     .cases hy'
    .cases MS
   have e9:Op.equal kt x y=Op.equalIn (9999+1) kt x y:=rfl;rw[e9];unfold Iu at hl;split at hl
   .rename_i k hk;split at hl
    .cases hl
     obtain⟨h1,h2⟩:=single _ rfl;cases x<;>simp[Oy]at h1
     cases y<;>simp[Oy]at h2
     obtain rfl:=Li h1;obtain rfl:=Li h2;exact⟨_,run_equalIn_int w 9999 kt _ _ _ _ (hT.int hk),by simp⟩
    .cases hl
   .rename_i hk;split at hl
    .cases hl
     obtain⟨h1,h2⟩:=single _ rfl;cases x<;>simp[Oy]at h1
     cases y<;>simp[Oy]at h2
     exact⟨_,run_equalIn_string w 9999 kt _ _ (hT.string hk),by rw[KB];simp⟩
    .cases hl
   .rename_i hk;split at hl
    .cases hl
     obtain⟨h1,h2⟩:=single _ rfl;cases x<;>simp[Oy]at h1
     cases y<;>simp[Oy]at h2
     exact⟨_,run_equalIn_bool' w 9999 kt _ _ (hT.bool hk),by simp⟩
    .cases hl
   .rename_i fs hk;exact absurd hk (Od fs)
   .cases hl
  .cases hs
theorem NC(hs:II T kt=some sh)(w:World)(b:Bool)(hx:XX sh x=true):(Instr.checkKey b 10000 kt x).run P w=.ok () w:=by
 unfold II at hs;split at hs
 .rename_i fs hk;split at hs
  .rename_i l hl;cases hs;cases x<;>simp only[XX]at hx<;>try (cases hx;done)
   rename_i xs;have hd:(T kt).d≠.other:=by rw[hk];simp
   have ha:KI (T kt).d=true:=by rw[hk];rfl
   have CQ:l.length=(T kt).size:=by
    unfold Iu at hl;rw[hk]at hl;dsimp only at hl;split at hl
    .split at hl
     .split at hl
      .rename_i e;cases hl;exact AL e
      .cases hl
     .cases hl
    .cases hl
   have:=Mp hx
   have h0:IS xs.toList 0 l.length=xs.toList:=by
    simp only[IS,List.drop_zero];rw[At ch]
   have h1:=Uw hT w b 8 kt l hl 10000 ch xs 0 (by rw[h0];exact hx);unfold Lv at h1;simp only[Sem.run_bind,Hj hT w hd ha,Result.andThen_ok]at h1;have ex:xs.extract 0 (0+(T kt).size)=xs:=by rw[<-CQ,<-this];simp
   rw[ex]at h1;exact h1
  .cases hs
 .rename_i Od;split at hs
  .rename_i l hl;cases hs;have key:∀d,(Instr.checkKey b (d+1) kt x).run P w=.ok () w:=by
    intro d;unfold Iu at hl;split at hl
    .rename_i k hk;simp[Instr.checkKey,run_underlying (hT.int hk)]
    .rename_i hk;simp[Instr.checkKey,run_underlying (hT.string hk)]
    .rename_i hk;simp[Instr.checkKey,run_underlying (hT.bool hk)]
    .rename_i fs hk;exact absurd hk (Od fs)
    .cases hl
   exact key 9999
  .cases hs
end
def Oi(x:Value)(es:List MapEntry)(i:Nat)(r:Option (Nat×Value)):Prop:=
 (r=none/\∀e∈es,e.key≠x)\/∃(j:Nat) (e:MapEntry),r=some (i+j,e.val)/\es[j]?=some e/\e.key=x
theorem Oi.here{es:List MapEntry}(h:e.key=x):Oi x (e::es) i (some (i,e.val)):=
 .inr ⟨0,e,rfl,rfl,h⟩
theorem Oi.there{es:List MapEntry}{r:Option (Nat×Value)}(h:e.key≠x)(k:Oi x es (i+1) r):Oi x (e::es) i r:=by
 rcases k with ⟨h1,h2⟩ | ⟨j,e',h1,h2,h3⟩
 .exact .inl ⟨h1,fun d hd=>(AA.1 hd).elim (fun e'=>e'▸h) (h2 d)⟩
 .exact .inr ⟨j+1,e',by rw[h1,Hc,Nat.add_comm 1 j],h2,h3⟩
theorem UL{kind:TypeDesc}{x:Value}:∀(es:List MapEntry) (i:Nat),(∀e∈es,∃b,Instr.sameNow kind x e.key=some b/\(b=true↔x=e.key))->∃r,Instr.findNow kind x es i=some r/\Oi x es i r
 | [],i,_=>⟨none,rfl,.inl ⟨rfl,fun _ h=>by cases h⟩⟩
 |e::es,i,h=>by
  obtain⟨b,b1,b2⟩:=h e (Ab ..);cases b with
  |true=>exact⟨_,by simp[Instr.findNow,b1],.here (b2.1 rfl).symm⟩
  |false=>
   obtain⟨r,r1,r2⟩:=UL es (i+1) (fun d hd=>h d (Ah _ hd));exact⟨r,by simp[Instr.findNow,b1,r1],.there (fun e'=>by have:=b2.2 e'.symm;cases this) r2⟩
section
variable {P:Program}{T:Ha}(hT:CI P T)
include hT
theorem Ot{kt:Nat}{sh:Fg}(hs:II T kt=some sh)(w:World){x:Value}(hx:XX sh x=true) :
  ∀(es:List MapEntry) (i:Nat),(∀e∈es,XX sh e.key=true)->∃r,(Instr.findAsking kt x es i).run P w=.ok r w/\Oi x es i r
 | [],i,_=>⟨none,rfl,.inl ⟨rfl,fun _ h=>by cases h⟩⟩
 |e::es,i,h=>by
  obtain⟨b,b1,b2⟩:=ot hT hs w hx (h e (Ab ..));cases b with
  |true=>exact⟨_,by simp[Instr.findAsking,b1],.here (b2.1 rfl).symm⟩
  |false=>
   obtain⟨r,r1,r2⟩:=Ot hs w hx es (i+1) (fun d hd=>h d (Ah _ hd));exact⟨r,by simp[Instr.findAsking,b1,r1],.there (fun e'=>by have:=b2.2 e'.symm;cases this) r2⟩
theorem Pq(hs:II T kt=some sh)(w:World)(hx:XX sh x=true)(es:List MapEntry)(he:∀e∈es,XX sh e.key=true) :
  ∃r,(Instr.findKey kt x es).run P w=.ok r w/\Oi x es 0 r:=by
 have tO:∀d,P.underlying kt=some d->Instr.findNow d x es 0=none->∃r,(Instr.findKey kt x es).run P w=.ok r w/\Oi x es 0 r:=by
  intro d hd hn;obtain⟨r,r1,r2⟩:=Ot hT hs w hx es 0 he;exact⟨r,by simp[Instr.findKey,run_underlying hd,hn,r1],r2⟩
 have now:∀d,P.underlying kt=some d->(∀e∈es,∃b,Instr.sameNow d x e.key=some b/\(b=true↔x=e.key))->∃r,(Instr.findKey kt x es).run P w=.ok r w/\Oi x es 0 r:=by
  intro d hd hn;obtain⟨r,r1,r2⟩:=UL es 0 hn;exact⟨r,by simp[Instr.findKey,run_underlying hd,r1],r2⟩
 have ZE:=hs;unfold II at ZE;split at ZE
 .rename_i fs hk;obtain⟨fa,u1,_⟩:=hT.struct hk;cases es with
  |nil=>exact⟨none,by simp[Instr.findKey,run_underlying u1,Instr.findNow],.inl ⟨rfl,fun _ h=>by cases h⟩⟩
  |cons e es=>
   refine tO _ u1 ?_;split at ZE
   .cases ZE
    cases x<;>simp only[XX]at hx<;>try (cases hx;done)
    simp[Instr.findNow,Instr.sameNow]
   .cases ZE
 .rename_i Od;split at ZE
  .rename_i l hl;cases ZE;have cv:∀y,XX ⟨false,l⟩ y=true->J6 l [y]=true:=fun y hy=>by cases y<;>exact hy
   have MS:=cv x hx;have he' : ∀e∈es,J6 l [e.key]=true:=fun e h=>cv _ (he e h)
   clear hx he cv
   have single:∀k y,l=[k]->J6 l [y]=true->Oy k y=true:=by
    rintro k y rfl h
    unfold J6 at h;split at h
    .assumption
    .cases h
   unfold Iu at hl;split at hl
   .rename_i k hk;split at hl
    .cases hl
     refine now _ (hT.int hk) (fun e h=>?_);have h1:=single _ _ rfl MS;have h2:=single _ _ rfl (he' e h);generalize e.key=y at h2;cases x<;>simp[Oy]at h1
     cases y<;>simp[Oy]at h2
     obtain rfl:=Li h1;obtain rfl:=Li h2;exact⟨_,by simp[Instr.sameNow];rfl,by simp⟩
    .cases hl
   .rename_i hk;split at hl
    .cases hl
     refine now _ (hT.string hk) (fun e h=>?_);have h1:=single _ _ rfl MS;have h2:=single _ _ rfl (he' e h);generalize e.key=y at h2;cases x<;>simp[Oy]at h1
     cases y<;>simp[Oy]at h2
     exact⟨_,by simp[Instr.sameNow];rfl,by rw[beq_toListBytes,KB];simp⟩
    .cases hl
   .rename_i hk;split at hl
    .cases hl
     refine now _ (hT.bool hk) (fun e h=>?_);have h1:=single _ _ rfl MS;have h2:=single _ _ rfl (he' e h);generalize e.key=y at h2;cases x<;>simp[Oy]at h1
     cases y<;>simp[Oy]at h2
     exact⟨_,by simp[Instr.sameNow];rfl,by simp⟩
    .cases hl
   .rename_i fs hk;exact absurd hk (Od fs)
   .cases hl
  .cases ZE
end
theorem Th{P:Program}(w:World)(hx:XX sh x=true):(Instr.keyThatStays x x).run P w=.ok x w:=by
 have scalar:∀(k:KS) (y:Value) (n:Nat),Oy k y=true->Instr.sameBits n y y=true:=by
  intro k y n h;cases k<;>cases y<;>simp[Oy]at h<;>cases n<;>simp[Instr.sameBits,beq_toListBytes]
 have lst:∀(l:List KS) (ys:List Value) (n:Nat),J6 l ys=true->((ys.zip ys).all fun(a,b)=>Instr.sameBits n a b)=true:=by
  intro l ys n
  induction ys generalizing l with
  |nil=>intro _;rfl
  |cons y ys ih=>
   intro h;cases l with
   |nil=>simp[J6]at h
   |cons k l=>
    unfold J6 at h;split at h
    .rename_i hk;simp only[List.zip_cons_cons,List.all_cons,scalar k y n hk,Fb];exact ih l h
    .cases h
 have h1:∀n,Instr.sameBits (n+1) x x=true:=by
  intro n;obtain⟨ag,l⟩:=sh;cases ag with
  |true=>
   cases x<;>simp only[XX]at hx<;>try (cases hx;done)
   have:=lst l _ n hx
   simp only[Instr.sameBits,beq_self_eq_true,Fb];exact this
  |false=>
   have MS : J6 l [x]=true:=by cases x<;>exact hx
   cases l with
   |nil=>simp[J6]at MS
   |cons k l=>
    unfold J6 at MS;split at MS
    .rename_i hk;exact scalar k x (n+1) hk
    .cases MS
 have:=h1 9999
 simp only[Instr.keyThatStays];rw[Al this]
 rfl
theorem Yc:∀{cs:List AV} {l:List Value},Zu cs=some l->cs=l.map .v
 | [],l,h=>by cases h;rfl
 |a::r,l,h=>by
  cases a<;>simp only[Zu]at h<;>try (cases h;done)
  split at h
  .rename_i l' hl;cases h;rw[Yc hl];rfl
  .cases h
theorem qL(h:BS g w U a x)(hk:uZ a=some y):x=y:=by
 unfold uZ at hk;split at hk
 .cases hk;exact h.v_eq
 .split at hk
  .rename_i l hl;cases hk;obtain rfl:=Yc hl;exact h.agg_vals
  .cases hk
 .cases hk
theorem NV{T:Ha}{ty:Nat}{K:Value->Prop}(h:BS g w U a x)(hk:Lj T ty sh a K) :
  ∃kt e,(T ty).d=.map kt e/\II T kt=some sh/\XX sh x=true/\K x:=by
 unfold Lj at hk;split at hk
 .rename_i kt e ht;split at hk
  .rename_i sh' hs;split at hk
   .rename_i heq;obtain rfl:=rM heq;split at hk
    .rename_i kx Rj;obtain rfl:=qL h Rj;split at hk
     .rename_i hb;exact⟨kt,e,ht,hs,hb,hk⟩
     .exact hk.elim
    .exact hk.elim
   .exact hk.elim
  .exact hk.elim
 .exact hk.elim
theorem H3.shape(h:H3 sh es ck Cc):∀e∈es.toList,XX sh e.key=true:=by
 intro e he;obtain⟨h1,h2,h3,_⟩:=h;obtain⟨i,hi⟩:=Cp.1 he;have Du:i<Cc.length:=by rw[<-h1];have:=(Av.1 hi).1;simpa using this
 rw[h2 i Cc[i] e (Az Du) (by simpa using hi)];exact h3 _ (Aq Du)
theorem H3.none(h:H3 sh es ck Cc)(hn:∀e∈es.toList,e.key≠x)(a:AV):(x,a)∉Cc:=by
 intro hm;obtain⟨h1,h2,_⟩:=h;obtain⟨i,hi⟩:=Cp.1 hm;have Du:i<es.size:=by rw[h1];exact(Av.1 hi).1
 exact hn es[i] B0 (h2 i _ es[i] hi (by simp[Du]))
theorem H3.some{sh:Fg}{es:Array MapEntry}{ck:Nat}{Cc:List (Value×AV)}(h:H3 sh es ck Cc){x:Value}{j:Nat}{e:MapEntry}(he:es.toList[j]?=some e)(hk:e.key=x) :
  ∃a,Cc[j]?=some (x,a)/\(x,a)∈Cc:=by
 obtain⟨h1,h2,_⟩:=h;have Du:j<Cc.length:=by rw[<-h1];have:=(Av.1 he).1;simpa using this
 have hg:Cc[j]?=Option.some Cc[j]:=Az Du
 have:=h2 j Cc[j] e hg (by simpa using he)
 have e2:Cc[j]=(x,Cc[j].2):=by rw[<-hk,this]
 exact⟨Cc[j].2,by rw[hg];exact Aa _ e2,by rw[<-e2];exact Aq Du⟩
section
variable {P:Program}{T:Ha}(hT:CI P T){h:Nat->HO}{g:Gh}{w:World}{K:AV->Prop}
section
include hT
theorem Yf{t:Nat}(hk:Ls T t K):BU P h g w (zeroValue t) K:=by
 unfold Ls at hk;split at hk
 .exact hk.elim
 .rename_i hd;obtain⟨z,z1,z2,z3⟩:=Rh hT (w:=w) hd;rw[z3]at hk;split at hk
  .rename_i cs;split at hk
   .rename_i ha;have hr:=CY.vals (g:=g) (w:=w) (U:=AQ h) ha;exact⟨_,_,z1,hk,.agg _ _ _ B0 (fun i x hx=>hr.2.1 x (Aw (by simpa using hx))) (fun i av x h1 h2=>hr.2.2 i av x h1 (by simpa using h2))⟩
   .exact hk.elim
  .exact⟨_,_,z1,hk,.v _ _⟩
theorem KY{ty b:Nat}{kt e:Nat}{ck:Nat}{Cc:List (Value×AV)}(ht:(T ty).d=.map kt e)(hs:II T kt=some sh)(hx:XX sh x=true)(hb:w.heap[b]?=some (.map es ck))(hm:H3 sh es ck Cc)(hv:∀(i:Nat) (kv:Value×AV) (e:MapEntry),Cc[i]?=some kv->es[i]?=some e->BS g w (AQ h) kv.2 e.val)(hk:Ni T ty ok Cc x K):BU P h g w (Instr.lookup ty (.map (some b)) x ok) K:=by
 have hu:=hT.map ht;have FN:=run_getObj_map (P:=P) w b es ck hb;have Wl:=fun bb=>NC hT hs w bb hx;obtain⟨r,r1,r2⟩:=Pq hT hs w hx es.toList hm.shape;unfold Ni at hk;rw[ht]at hk;dsimp only at hk;rcases r2 with ⟨rfl,hn⟩ | ⟨j,en,rfl,hj,hkey⟩
 .have aV:=fun a=>hm.none hn a;cases ok with
  |true=>
   obtain⟨y,av,y1,y2,y3⟩:=Yf hT (K:=fun z=>K (.tup [z,.v (.bool false)])) (P:=P) (h:=h) (g:=g) (w:=w) (hk.2 aV);refine⟨.tuple #[y,.bool false],_,?_,y2,.tup _ _ _ rfl (fun i a x h1 h2=>?_)⟩
   .simp[Instr.lookup,run_underlying hu,FN,Wl,r1,y1]
   .match i,h1,h2 with
    |0,h1,h2=>simp at h1 h2;subst h1;subst h2;exact y3
    |1,h1,h2=>simp at h1 h2;subst h1;subst h2;exact .v _ _
  |false=>
   obtain⟨y,av,y1,y2,y3⟩:=Yf hT (K:=K) (P:=P) (h:=h) (g:=g) (w:=w) (hk.2 aV);exact⟨y,av,by simp[Instr.lookup,run_underlying hu,FN,Wl,r1,y1],y2,y3⟩
 .obtain⟨a,a1,a2⟩:=hm.some hj hkey;have hr:=hv j (x,a) en a1 (by simpa using hj);cases ok with
  |true=>
   refine⟨.tuple #[en.val,.bool true],_,?_,hk.1 a a2,.tup _ _ _ rfl (fun i av y h1 h2=>?_)⟩
   .simp[Instr.lookup,run_underlying hu,FN,Wl,r1]
   .match i,h1,h2 with
    |0,h1,h2=>simp at h1 h2;subst h1;subst h2;exact hr
    |1,h1,h2=>simp at h1 h2;subst h1;subst h2;exact .v _ _
  |false=>exact⟨en.val,a,by simp[Instr.lookup,run_underlying hu,FN,Wl,r1],hk.1 a a2,hr⟩
theorem dO(ho:∀r,EC g w (AQ h) r (h r)){ty:Nat}{m k:AV}{vm vk:Value}(hm:BS g w (AQ h) m vm)(hx:BS g w (AQ h) k vk)(hk:NX T h ty m k ok K) :
  BU P h g w (Instr.lookup ty vm vk ok) K:=by
 unfold NX at hk;split at hk
 .obtain⟨kt,e,k1,k2,k3,k4⟩:=NV hx hk;cases hm with
  |cmap _ _ _ b es ck hS hb hmm hv=>exact KY hT k1 k2 k3 hb hmm (fun i kv e p q=>(hv i kv e p q).up _) k4
 .rename_i r;have hr:=ho r;cases hm with
  |mref _ _ b hu ht hp=>
   split at hk
   .rename_i sh Cc e;rw[e]at hr;obtain⟨_,b',es,ck,a1,a2,a3,a4,a5,a6⟩:=hr;rw[a2]at hp;cases hp;obtain⟨kt,e,k1,k2,k3,k4⟩:=NV hx hk;exact KY hT k1 k2 k3 a3 a4 (fun i kv e p q=>(a5 i kv e p q).up _) k4
   .rename_i sh Cc e;rw[e]at hr;obtain⟨_,b',es,ck,a1,a2,a3,a4,a5,a6⟩:=hr;rw[a2]at hp;cases hp;obtain⟨kt,e,k1,k2,k3,k4⟩:=NV hx hk;exact KY hT k1 k2 k3 a3 a4 a5 k4
   .rename_i sh Cc e;rw[e]at hr;obtain⟨_,b',a1,a2⟩:=hr;rw[a1]at hp;cases hp;obtain⟨kt,e,k1,k2,k3,k4⟩:=NV hx hk;cases a2 with
    |cmap _ _ _ _ es ck hS hb hmm hv=>exact KY hT k1 k2 k3 hb hmm (fun i kv e p q=>(hv i kv e p q).up _) k4
   .exact hk.elim
 .exact hk.elim
omit hT in
theorem Qo{ty:Nat}{Cc:List (Value×AV)}{kx:Value}(hk:Nh T ty ok Cc kx K):Ni T ty ok Cc kx K:=by
 unfold Nh at hk;unfold Ni;split at hk
 .rename_i e;split at hk
  .rcases hk with ⟨a,⟨h1,h2⟩,h3⟩ | ⟨h1,h2⟩
   .exact⟨fun b hb=>by rw[h2 b hb];exact h3,fun hn=>absurd h1 (hn a)⟩
   .exact⟨fun b hb=>absurd hb (h1 b),fun _=>h2⟩
  .rcases hk with ⟨a,⟨h1,h2⟩,h3⟩ | ⟨h1,h2⟩
   .exact⟨fun b hb=>by rw[h2 b hb];exact h3,fun hn=>absurd h1 (hn a)⟩
   .exact⟨fun b hb=>absurd hb (h1 b),fun _=>h2⟩
 .exact hk.elim
omit hT in
theorem NU{ty:Nat}{k:AV}{A B:Value->Prop}(hk:Lj T ty sh k A)(dy:∀x,A x->B x):Lj T ty sh k B:=by
 unfold Lj at *
 repeat' split at hk
 all_goals first | exact hk.elim | skip
 simp_all
omit hT in
theorem js{ty:Nat}{m k:AV}(hk:NW T h ty m k ok K):NX T h ty m k ok K:=by
 unfold NW at hk;unfold NX;split at hk
 .exact NU hk fun _=>Qo
 .split at hk
  .exact NU hk fun _=>Qo
  .exact NU hk fun _=>Qo
  .exact NU hk fun _=>Qo
  .exact hk.elim
 .exact hk.elim
theorem m9(ho:∀r,EC g w (AQ h) r (h r)){t ty:Nat}{x:AV}(hx:BS g w (AQ h) x vx)(hk:SW T t h x K):BU P h g w (Builtin.len_ #[t] ty #[vx]) K:=by
 unfold SW at hk;split at hk
 .rename_i e ht;have hu:=hT.slice ht;have run:∀a n c,(Builtin.len_ #[t] ty #[.slice a n c]).run P w=.ok (.int .i64 n) w:=fun a n c=>by simp[Builtin.len_,run_underlying hu,goInt]
  split at hk
  .have hs:=hx.slice_none;cases hs with
   |snil _ a cap=>exact⟨_,_,run a 0 cap,hk,.v _ _⟩
   |slice _ _ b off sz cap val hc=>exact⟨_,_,run _ _ _,hk,.v _ _⟩
  .cases hx with
   |msl=>exact⟨_,_,run _ _ _,hk,.v _ _⟩
  .obtain rfl:=hx.v_eq;exact⟨_,_,run _ _ _,hk,.v _ _⟩
  .exact hk.elim
 .rename_i ht;split at hk
  .obtain rfl:=hx.v_eq;exact⟨_,_,by simp[Builtin.len_,run_underlying (hT.string ht),goInt],hk,.v _ _⟩
  .exact hk.elim
 .rename_i k e ht;have hu:=hT.map ht;have run:∀b es ck,w.heap[b]?=some (.map es ck)->(Builtin.len_ #[t] ty #[.map (some b)]).run P w=.ok (.int .i64 es.size) w:=fun b es ck hb=>by
   simp[Builtin.len_,run_underlying hu,goInt,run_getObj_map (P:=P) w b es ck hb]
  split at hk
  .cases hx with
   |cmap _ _ _ b es ck hS hb hmm hv=>exact⟨_,_,run b es ck hb,by rw[hmm.1];exact hk,.v _ _⟩
  .rename_i r;have hr:=ho r;cases hx with
   |mref _ _ b mO ht' hp=>
    split at hk
    .rename_i sh Cc e;rw[e]at hr;obtain⟨_,b',es,ck,a1,a2,a3,a4,a5,a6⟩:=hr;rw[a2]at hp;cases hp;exact⟨_,_,run _ es ck a3,by rw[a4.1];exact hk,.v _ _⟩
    .rename_i sh Cc e;rw[e]at hr;obtain⟨_,b',es,ck,a1,a2,a3,a4,a5,a6⟩:=hr;rw[a2]at hp;cases hp;exact⟨_,_,run _ es ck a3,by rw[a4.1];exact hk,.v _ _⟩
    .rename_i sh Cc e;rw[e]at hr;obtain⟨_,b',a1,a2⟩:=hr;rw[a1]at hp;cases hp;cases a2 with
     |cmap _ _ _ _ es ck hS hb hmm hv=>exact⟨_,_,run _ es ck hb,by rw[hmm.1];exact hk,.v _ _⟩
    .exact hk.elim
  .exact hk.elim
 .exact hk.elim
end
theorem Y8(ho:∀r,EC g w (AQ h) r (h r)){t:Nat->AV}(ht:∀x:Operand,BS g w (AQ h) (ev t x) (ρ x)){fn:Fn}{first cap:Array Operand}(hk:LO t h fn first.toList cap.toList K) :
  BU P h g w (Instr.makeFunc fn (first.map ρ) (cap.map ρ)) K:=by
 unfold LO at hk;split at hk
 .rename_i f e;have hf:first=#[]:=by
   apply KE;simpa using e
  subst hf;refine⟨_,_,rfl,hk,?_⟩;have e0:Array.map ρ (#[]:Array Operand)=#[]:=by simp
  rw[e0];refine .clo _ f (cap.toList.map fun x=>rsv h (ev t x)) (cap.map ρ) B0 (fun i av x h1 h2=>?_);rw[AG,AS]at h1;obtain⟨y,y1,rfl⟩:=h1;rw[Pz,AS]at h2;obtain⟨z,z1,rfl⟩:=h2
  have:y=z:=by
   have:=y1
   rw[A4,z1]at this;exact(CO this).symm
  subst this;exact(ht y).rsv ho
 .exact hk.elim
theorem Zd{x:AV}(hx:BS g w (AQ h) x vx)(hk:LR x K){pos:String}{after:Array Edge}{gd:Option (Nat×Bool)}{dst:Option Tmp}{ty:Nat}{X:Operand}(hX:ρ X=vx) :
  (execOp ρ ⟨dst,.nilCheck X,ty,pos,after,gd⟩).run P w=.ok (.value vx) w/\K x:=by
 subst hX;unfold LR at hk;split at hk
 all_goals first
  |exact hk.elim
  |(refine⟨?_,hk⟩;generalize hq:ρ X=q at hx;cases hx;simp[execOp,hq];done)
theorem iO(ho:∀r,EC g w (AQ h) r (h r)){x:AV}(hx:BS g w (AQ h) x vx)(hk:dg h x K):BU P h g w (Instr.entry vx) K:=by
 unfold dg at hk;split at hk
 .rename_i r;have hr:=ho r;split at hk
  .rename_i all rem kv e;rw[e]at hr;cases hx with
   |ref _ _ _ b hu ht hp=>
    obtain⟨_,b',mb,K7,seen,st,es,ck,a1,a2,a3,a4,a5,⟨sh,a6⟩,a7,a8,a9,ZO,fb,a12,tA⟩:=hr;rw[a2]at hp;cases hp;obtain⟨i,en,c1,c2,c3⟩:=a12;have yt:es.find? (fun e=>e.born == en.born)=some en:=by
     rw[Array.find?_eq_some_iff_getElem];obtain⟨Du,he⟩:=Bv.1 c2;refine⟨by simp,i,Du,he,fun j hj=>?_⟩;have mD : j<es.size:=by omega
     simp only[CH,beq_eq_false_iff_ne,XM];intro e'
     have:=a6.2.2.2.2.2 j i es[j] en (by simp[mD]) c2 e'
     omega
    have hkey:=a6.2.1 i kv en c1 c2;refine⟨.tuple #[en.key,en.val],_,?_,hk,.tup _ _ _ rfl (fun k av y h1 h2=>?_)⟩
    .have WB:(getObj b).run P w=.ok (.mapIter (some mb) K7 seen st) w:=by simp[getObj,Sem.run,a3]
     have mA:=run_getObj_map (P:=P) w mb es ck a5;simp[Instr.entry,WB,c3,mA,a8,yt]
    .match k,h1,h2 with
     |0,h1,h2=>simp at h1 h2;subst h1;subst h2;rw[hkey];exact .v _ _
     |1,h1,h2=>simp at h1 h2;subst h1;subst h2;exact(a9 i kv en c1 c2).up _
  .exact hk.elim
 .exact hk.elim
end
end Go.Eng
