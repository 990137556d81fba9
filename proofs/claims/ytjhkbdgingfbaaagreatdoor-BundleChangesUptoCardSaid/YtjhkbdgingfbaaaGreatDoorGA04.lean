/- Lemmas 4. -/
import Derived.Test.YtjhkbdgingfbaaaGreatDoorGA03
import Derived.Laws.IdiomStrings
import Derived.Lib.BufferRead
namespace Go.Eng
variable {x vx:Value}{U:Nat->Prop}{ρ:Operand->Value}{es:Array MapEntry}{w:World}{sh:DG}{BK:List (Value×AV)}{E2:Array TypeId}{g:Gh}{ok:Bool}{vs:List Value}{e:MapEntry}{a:AV}{i kt:Nat}{vi vy y:Value}{ck:Nat}
section
variable {P:Program}{T:EU}(hT:B7 P T){h:Nat->HO}{g:Gh}{w:World}{K:AV->Prop}
section
include hT
theorem Pk{t:Nat}{x ix:AV}(hx:Bo g w (AD h) x vx)(hi:Bo g w (AD h) ix vi)(hk:G2 T t x ix K):Bk P h g w (Instr.indexAt t vx vi) K:=by
 unfold G2 at hk;split at hk
 .rename_i e i ht;obtain rfl:=hi.v_eq;have hu:=hT.slice ht;split at hk
  .exact hk.elim
  .rename_i m hm;have Ce:∀b off (len cap:Nat),0<=i->i<(len:Int)->(Instr.indexAt t (.slice (some ⟨b,off,none⟩) len cap) (.int .i64 i)).run P w=.ok (.pointer (some ⟨b,off+i.toNat*(T e).size,none⟩)) w:=fun b off len cap h0 h1=>by
    simp[Instr.indexAt,asIntOf,run_underlying hu,h0,h1,hT.size1 w hm,Addr.add_lit,hm]
   split at hk
   .rename_i tk es;obtain⟨cs,⟨h0,h1⟩,h2,hk⟩:=hk;have hs:=hx.slice_none;have Dc:=(Au.1 h1).1;cases hs with
    |snil=>simp at h1
    |slice _ _ b off sz cap val hc hl Cm Dd=>
     have Dm:sz=(T e).size:=by rw[<-h2];exact(hl _ _ h1).symm
     subst Dm;refine⟨_,_,Ce b off es.length cap h0 sP,hk,.cptr _ cs b _ (val i.toNat) (fun j av hj=>?_) (fun j av hj=>Dd _ _ _ _ h1 hj)⟩;exact Cm _ _ _ _ h1 hj
   .rename_i r n;obtain⟨⟨h0,h1⟩,hk⟩:=hk;cases hx with
    |msl _ _ _ a cap Zh ht' hn ha IL=>
     rcases ha with rfl | ⟨b,rfl⟩
     .omega
     .refine⟨_,_,Ce b 0 n cap h0 h1,hk,?_⟩;rw[Bf];exact .eref _ r n _ _ 0 b cap Zh ht' ⟨by omega,hn⟩ (fun e=>(IL e).symm)
   .exact hk.elim
 .rename_i n e i ht;obtain rfl:=hi.v_eq;have hu:=hT.array ht;split at hk
  .exact hk.elim
  .rename_i m hm;have Ce:∀b off,0<=i->i<(n:Int)->(Instr.indexAt t (.pointer (some ⟨b,off,none⟩)) (.int .i64 i)).run P w=.ok (.pointer (some ⟨b,off+i.toNat*(T e).size,none⟩)) w:=fun b off h0 h1=>by
    simp[Instr.indexAt,asIntOf,run_underlying hu,h0,h1,hT.size1 w hm,Addr.add_lit,hm,Instr.sureAddr]
   split at hk
   .cases hx with
    |cptr _ _ b off val Cm Dd=>exact⟨_,_,Ce b off hk.1.1 hk.1.2,hk.2,(Bo.cptr _ _ b off val Cm Dd).cptr_drop _⟩
   .rename_i r off;cases hx with
    |ref _ _ _ b hu ht hp=>exact⟨_,_,Ce b off hk.1.1 hk.1.2,hk.2,.ref _ r _ b hu ht hp⟩
   .exact hk.elim
 .exact hk.elim
theorem WF{t:Nat}{x ix:AV}(hx:Bo g w (AD h) x vx)(hi:Bo g w (AD h) ix vi)(hk:N8 T t x ix K):Bk P h g w (Instr.index t vx vi) K:=by
 unfold N8 at hk;split at hk
 .rename_i s k i ht;obtain rfl:=hx.v_eq;obtain rfl:=hi.v_eq;obtain⟨b,⟨h0,h1⟩,hk⟩:=hk;refine Bk.val (x:=.int .u8 b.toNat) ?_ hk;have h2:s[i.toNat]?=some b:=by
   have:=(BN.1 h1)
   obtain⟨l1,l2⟩:=this;have me : i.toNat<s.size:=l1;rw[getElem?_pos s i.toNat me];exact Aa some l2
  simp[Instr.index,asIntOf,run_underlying (hT.string ht),h0,h2]
 .rename_i n e cs i ht;obtain rfl:=hi.v_eq;obtain⟨⟨h0,h1⟩,hk⟩:=hk;cases hx with
  |agg _ _ xs a1 a2 a3=>
   have hd:(T e).d≠.other:=by
    intro e';unfold Tq IC at hk;rw[e']at hk;exact hk.elim
   obtain⟨y,av,p1,p2,p3⟩:=Tr hT (RP.of_agg (.agg _ _ xs a1 a2 a3) _) hk;refine⟨y,av,?_,p2,p3⟩;simp[Instr.index,asIntOf,run_underlying (hT.array ht),h0,h1,hT.size w hd,p1]
 .exact hk.elim
theorem Sg{s t:Nat}{x:AV}(hx:Bo g w (AD h) x vx)(hk:PK T s t x K):Bk P h g w (convert s t vx) K:=by
 unfold PK at hk;split at hk
 .rename_i k n h1 h2;obtain rfl:=hx.v_eq;refine Bk.val (x:=.int .i64 n) ?_ hk.2;have hw:=JE hk.1;simp[convert,run_underlying (hT.int h1),run_underlying (hT.int h2),Conv.intToInt,hw]
 .rename_i k k' m n Dn h1 h2;obtain rfl:=hx.v_eq;refine Bk.val (x:=.int k' (k'.wrap n)) ?_ hk;simp[convert,run_underlying (hT.int h1),run_underlying (hT.int h2),Conv.intToInt]
 .rename_i s' h1 h2;obtain rfl:=hx.v_eq;refine Bk.val (x:=.string s') ?_ hk;simp[convert,run_underlying (hT.string h1),run_underlying (hT.string h2)]
 .rename_i e tk es h1 h2;split at hk
  .rename_i h3;obtain⟨l,rfl,hk⟩:=hk;have hr:=hx.slice_none;refine Bk.val (x:=.string ⟨l.toArray⟩) ?_ hk;generalize hes:l.map (fun b=>[AV.v (.int .u8 b.toNat)])=es at hr;cases hr with
   |snil _ a cap=>
    have hl:l=[]:=by cases l with | nil=>rfl | cons b l=>cases hes
    subst hl;cases a with
    |none=>exact Lib.run_convert_nil_bytes w s t e cap (hT.slice h1) (hT.int h3) (hT.string h2)
    |some a=>exact run_convert_bytes_back w s t e a cap [] (hT.slice h1) (hT.int h3) (hT.string h2) (fun j hj=>by simp at hj)
   |slice _ _ b off sz cap val hc hl Cm Dd=>
    have BQ:l.length=es.length:=by rw[<-hes];simp
    have:=run_convert_bytes_back (P:=P) w s t e ⟨b,off,none⟩ cap l (hT.slice h1) (hT.int h3) (hT.string h2) (fun j hj=>by
     have hg:es[j]?=some [AV.v (.int .u8 l[j].toNat)]:=by rw[<-hes,Ap,At hj];rfl
     have K7:sz=1:=(hl j _ hg).symm;have h4:=Cm j _ 0 _ hg rfl;have h5:=Dd j _ 0 _ hg rfl;rw[Addr.add_lit];rw[K7,Gc,CJ]at h4;rw[h4.2.1,h5.v_eq])
    rw[BQ]at this;exact this
  .exact hk.elim
 .exact hk.elim
end
theorem aH{op:UnOp}{x:AV}(hx:Bo g w (AD h) x vx)(hk:TG op x K):Bk P h g w (Op.unary op vx) K:=by
 unfold TG at hk;split at hk
 .unfold WS at hk;split at hk
  .obtain rfl:=hx.v_eq;exact Bk.val (x:=.bool false) (by simp[Op.unary]) hk
  .obtain rfl:=hx.v_eq;exact Bk.val (x:=.bool true) (by simp[Op.unary]) hk
  .exact hk.elim
 .rename_i a;obtain rfl:=hx.v_eq;refine Bk.val (x:=.int .i64 (-a)) ?_ hk.2
  have:=JE hk.1
  simp[Op.unary,Op.intArith,this]
 .obtain rfl:=hx.v_eq;exact Bk.val (by simp[Op.unary,Op.intBits,BV]) hk
 .exact hk.elim
theorem Ti:∀{l:List AV} {j:Nat} {a:AV},cO l j=some a->l[j]?=some a
 | [],j,a,h=>by cases h
 |b::r,0,a,h=>by simpa[cO]using h
 |b::r,j+1,a,h=>by simpa using Ti (l:=r) (j:=j) h
theorem So{i:Nat}{x:AV}(hx:Bo g w (AD h) x vx)(hk:IZ x i K):Bk P h g w (Instr.extract vx i) K:=by
 unfold IZ at hk;split at hk
 .rename_i cs;cases hx with
  |tup _ _ vs hs hh=>
   split at hk
   .rename_i a ha;have hc:=Ti ha;have hi:i<vs.size:=by rw[hs];exact(Au.1 hc).1
    exact⟨vs[i],_,by simp[Instr.extract,hi],hk,hh _ _ _ hc (by simp[hi])⟩
   .exact hk.elim
 .exact hk.elim
theorem aa{c a b:AV}{vc va vb:Value}(hc:Bo g w (AD h) c vc)(ha:Bo g w (AD h) a va)(hb:Bo g w (AD h) b vb)(hk:Tt c a b K) :
  Bk P h g w (do pure (if <-asBool vc then va else vb)) K:=by
 unfold Tt at hk;split at hk
 .obtain rfl:=hc.v_eq;exact⟨va,a,by simp[asBool],hk,ha⟩
 .obtain rfl:=hc.v_eq;exact⟨vb,b,by simp[asBool],hk,hb⟩
 .exact hk.elim
theorem cI{t:Nat}{x y:AV}(hx:Bo g w (AD h) x vx)(hy:Bo g w (AD h) y vy)(hk:cM max x y K):Bk P h g w (Builtin.max_ E2 t #[vx,vy]) K:=by
 unfold cM at hk;split at hk
 .rename_i k a k' b;split at hk
  .obtain rfl:=hx.v_eq;obtain rfl:=hy.v_eq;refine Bk.val (x:=.int k (max a b)) ?_ hk;simp[Builtin.max_,Builtin.max2];omega
  .exact hk.elim
 .exact hk.elim
theorem cK{t:Nat}{x y:AV}(hx:Bo g w (AD h) x vx)(hy:Bo g w (AD h) y vy)(hk:cM min x y K):Bk P h g w (Builtin.min_ E2 t #[vx,vy]) K:=by
 unfold cM at hk;split at hk
 .rename_i k a k' b;split at hk
  .obtain rfl:=hx.v_eq;obtain rfl:=hy.v_eq;refine Bk.val (x:=.int k (min a b)) ?_ hk;simp[Builtin.min_,Builtin.min2];omega
  .exact hk.elim
 .exact hk.elim
end
theorem B3.at{cs:List AV}(h:B3 g w U cs vs){av:AV}(hi:cs[i]?=some av):∃x,vs[i]?=some x/\x.oneCell'=true/\Bo g w U av x:=by
 have Dc:i<vs.length:=by rw[h.1];exact(Au.1 hi).1
 exact⟨vs[i],At Dc,h.2.1 _ (Af Dc),h.2.2 i av _ hi (At Dc)⟩
theorem D3{α:Type}{n:Nat}:∀{es:List (List α)},(∀c∈es,c.length=n)->∀{i j:Nat} {c:List α},es[i]?=some c->j<n->es.flatten[i*n+j]?=c[j]?
 | [],_,i,j,c,h,_=>by simp at h
 |d::es,hl,0,j,c,h,hj=>by
  simp at h;subst h
  have:=hl d (Ab ..)
  rw[Co,AQ sP]
  congr 1;omega
 |d::es,hl,i+1,j,c,h,hj=>by
  have hd:=hl d (Ab ..);rw[Co,AL (by rw[hd,Dg];omega)];rw[show(i+1)*n+j-d.length=i*n+j by rw[hd,Dg];omega];exact D3 (fun c hc=>hl c (Ai _ hc)) (by simpa using h) hj
theorem Cr{α:Type}{n:Nat}:∀{es:List (List α)},(∀c∈es,c.length=n)->es.flatten.length=es.length*n
 | [],_=>by simp
 |d::es,hl=>by
  rw[Co,Ac,hl d (Ab ..),Cr (fun c hc=>hl c (Ai _ hc)),Am,Dg,Nat.add_comm]
section
variable {P:Program}{T:EU}(hT:B7 P T){h:Nat->HO}{g:Gh}{w:World}{K:AV->Prop}(ho:∀r,C3 g w (AD h) r (h r))
include ho
theorem VW(hT:B7 P T){t:Nat}{x:AV}(hx:Bo g w (AD h) x vx){hi mx:Option Operand}(hk:TX T h t x hi mx K):Bk P h g w (Instr.sliceAt t vx none (hi.map ρ) (mx.map ρ)) K:=by
 unfold TX at hk;split at hk
 .rename_i n e r hd;split at hk
  .rename_i cs hs he;obtain⟨rfl,hk⟩:=hk;cases hx with
   |ref _ _ _ b hu ht hx=>
    have hr:=ho r;rw[he]at hr;obtain⟨_,b',a1,a2⟩:=hr;rw[a1]at hx;cases hx;cases a2 with
    |cptr _ _ _ off val Cm Dd=>
     have ha:=hT.array hd;refine⟨.slice (some ⟨b,0,none⟩) cs.length cs.length,_,?_,hk,?_⟩
     .simp[Instr.sliceAt,Instr.sureAddr,run_underlying ha,Instr.sliceBounds,hT.size1 w hs,Addr.add_lit]
     .have q:=Bo.slice (g:=g) (w:=w) (AD h) (cs.map fun c=>[c]) b 0 1 cs.length (fun i _=>val i) sS sS ?_ ?_
      .simpa using q
      .intro i c j av h1 h2;rw[Ap,Ay]at h1;obtain⟨a,h3,rfl⟩:=h1;obtain⟨rfl,rfl⟩:j=0/\av=a:=by cases j<;>simp_all
       have:=Cm i av h3
       simpa using this
      .intro i c j av h1 h2;rw[Ap,Ay]at h1;obtain⟨a,h3,rfl⟩:=h1;obtain⟨rfl,rfl⟩:j=0/\av=a:=by cases j<;>simp_all
       exact Dd i av h3
  .exact hk.elim
 .exact hk.elim
theorem PY(hT:B7 P T){t:Nat}{p:AV}{vp:Value}(hp:Bo g w (AD h) p vp)(hk:F4 T h t p K):Bk P h g w (Instr.loadAt t vp) K:=by
 have OU:∀b off,Bk P h g w (loadVar t ⟨b,off,none⟩) K->Bk P h g w (Instr.loadAt t (.pointer (some ⟨b,off,none⟩))) K:=by
  rintro b off ⟨x,av,h1,h2,h3⟩
  exact⟨x,av,by simp[Instr.loadAt,Instr.sureAddr,h1],h2,h3⟩
 unfold F4 at hk;split at hk
 .cases hp with
  |cptr _ _ b off val Cm Dd=>exact OU b off (I9 hT (FE.of_cptr (.cptr D2 _ b off val Cm Dd) _) hk)
 .rename_i r off;have hr:=ho r;cases hp with
  |ref _ _ _ b hu ht hx=>
   split at hk
   .rename_i cs e;rw[e]at hr;obtain⟨_,b',E,vs,a1,a2,a3,a4,a5⟩:=hr;rw[a2]at hx;cases hx
    have:=(FE.of_row a3 a4).drop off
    rw[Bf]at this;exact OU b off (I9 hT this hk)
   .rename_i cs e;rw[e]at hr;obtain⟨_,b',a1,a2⟩:=hr;rw[a1]at hx;cases hx
    have:=(FE.of_cptr a2 (AD h)).drop off
    rw[Bf]at this;exact OU b off (I9 hT this hk)
   .exact hk.elim
 .rename_i r n sz i off;have hr:=ho r;cases hp with
  |eref _ _ _ _ _ _ b cap hu ht hn hx=>
   split at hk
   .rename_i ES es e;rw[e]at hr;split at hk
    .rename_i hz;obtain rfl:=AB hz;obtain⟨BQ,cs,h1,hk⟩:=hk;obtain⟨t1,l1,al,a1⟩:=hr;have Dc:=(Au.1 h1).1;rcases a1 with ⟨rfl,_⟩ | ⟨b',HL,E,vs,e1,e2,e3,e4,e5,e6,e7⟩
     .simp at h1
     .have:=hx (BQ.trans l1.symm)
      rw[e1]at this;simp only[Value.slice.injEq,Ba,Addr.mk.injEq]at this;obtain⟨⟨rfl,_,_⟩,_,_⟩:=this;refine OU _ _ (I9 hT (cs:=cs.drop off) (fun j av hj=>?_) hk);rw[BW]at hj;have MQ:=al cs (AW h1);have kd:off+j<sz:=by rw[<-MQ];exact(Au.1 hj).1
      have hf:=D3 al h1 kd;rw[hj]at hf;obtain⟨x,x1,x2,x3⟩:=e6.at hf;refine⟨x,?_,x2,x3.up _⟩;rw[Ee e4];have Wx:i*sz+(off+j)<es.length*sz:=by
       have:=A0 sz (show i+1<=es.length from Dc)
       rw[Dg]at this;omega
      rw[Bm Wx]at x1;rw[<-ET]at x1;simpa using x1
    .exact hk.elim
   .rename_i ES es i' c av e;rw[e]at hr;split at hk
    .rename_i hz;obtain rfl:=AB hz;obtain⟨⟨BQ,rfl,rfl⟩,hk⟩:=hk;obtain⟨t1,l1,al,b',HL,E,vs,e1,e2,e3,e4,e5,e6,e7,e8,x,e9,jI⟩:=hr
     have:=hx (BQ.trans l1.symm)
     rw[e1]at this;simp only[Value.slice.injEq,Ba,Addr.mk.injEq]at this;obtain⟨⟨rfl,_,_⟩,_,_⟩:=this;refine OU _ _ (I9 hT (cs:=[av]) (fun j a' hj=>?_) hk);cases j with
     |succ j=>simp at hj
     |zero=>
      simp only[AX,Ba]at hj;subst hj;refine⟨x,by rw[Ee e4];simpa using e9,?_,jI⟩;have hm:x∈vs.toList.take (es.length*sz):=by
       have h9:vs.toList[i*sz+off]?=some x:=by simpa using e9
       exact AW (by rw[Bm e8];exact h9)
      exact e6.2.1 x hm
    .exact hk.elim
   .exact hk.elim
 .exact hk.elim
end
theorem Eg{α:Type}:∀(cs:List α) (o:Nat) (vs:List α),(over cs o vs).length=cs.length
 | [],_,_=>rfl
 |c::cs,o+1,vs=>by simp[over,Eg cs o vs]
 |c::cs,0,[]=>rfl
 |c::cs,0,v::vs=>by simp[over,Eg cs 0 vs]
theorem Ef{α:Type}:∀(cs:List α) (o:Nat) (vs:List α) (i:Nat),o+vs.length<=cs.length->(over cs o vs)[i]?=if o<=i/\i<o+vs.length then vs[i-o]? else cs[i]?
 | [],o,vs,i,h=>by
  simp at h;obtain⟨rfl,rfl⟩:=h;simp[over]
 |c::cs,o+1,vs,0,h=>by simp[over]
 |c::cs,o+1,vs,i+1,h=>by
  have:=Ef cs o vs i (by simp at h;omega)
  simp only[over,D8,this]
  by_cases hc:o<=i/\i<o+vs.length
  .rw[Av hc,Av sP];congr 1;omega
  .rw[Aj hc,Aj sP]
 |c::cs,0,[],i,h=>by
  have:¬(0<=i/\i<0+([]:List α).length):=by simp
  rw[Aj this];rfl
 |c::cs,0,v::vs,0,h=>by simp[over]
 |c::cs,0,v::vs,i+1,h=>by
  have:=Ef cs 0 vs i (by simp at h;omega)
  simp only[over,D8,this]
  by_cases hc:0<=i/\i<0+vs.length
  .rw[Av hc,Av (by simp;omega)];simp
  .rw[Aj hc,Aj (by simp at hc⊢;omega)]
theorem B3.over{g:Gh}{w:World}{U:Nat->Prop}{cs Pa:List AV}{xs vs:List Value}(h:B3 g w U cs xs)(k:B3 g w U Pa vs)(o:Nat)(Fc:o+Pa.length<=cs.length) :
  B3 g w U (Eng.over cs o Pa) (Eng.over xs o vs):=by
 have km : o+vs.length<=xs.length:=by rw[k.1,h.1];exact Fc
 refine⟨by rw[Eg,Eg,h.1],fun x hx=>?_,fun i av x h1 h2=>?_⟩
 .obtain⟨i,hi⟩:=Cv.1 hx;rw[Ef _ _ _ _ km]at hi;split at hi
  .exact k.2.1 _ (AW hi)
  .exact h.2.1 _ (AW hi)
 .rw[Ef _ _ _ _ Fc]at h1;rw[Ef _ _ _ _ km,k.1]at h2;split at h1
  .rename_i hc;rw[Av hc]at h2;exact k.2.2 _ _ _ h1 h2
  .rename_i hc;rw[Aj hc]at h2;exact h.2.2 _ _ _ h1 h2
theorem gT(h:Bo g w U a x)(h1:one a=true):x.oneCell'=true:=by
 cases h with
 |v=>exact h1
 |tok _ r sz es _ h=>cases h with
  |snil=>rfl
  |slice=>rfl
 |ver _ r sz v es _ h=>cases h with
  |snil=>rfl
  |slice=>rfl
 |full _ sz es _ h=>cases h with
  |snil=>rfl
  |slice=>rfl
 |_=>first |rfl |(cases h1;done)
theorem WW(h:x.oneCell'=true):x.cells=#[x]:=by
 cases x<;>first | rfl | (simp[Value.oneCell']at h)
theorem Jq{n:Nat}{K:List AV->Prop}(h:Bo g w U a x)(hk:Fe n a K) :
  ∃cs,K cs/\cs.length=n/\B3 g w U cs x.cells.toList:=by
 have single:one a=true->n=1->K [a]->∃cs,K cs/\cs.length=n/\B3 g w U cs x.cells.toList:=by
  intro h1 hn hk;have hx:=gT h h1;rw[WW hx];refine⟨[a],hk,hn.symm,rfl,by simpa using hx,fun i av y e1 e2=>?_⟩;cases i with
  |zero=>simp at e1 e2;subst e1;subst e2;exact h
  |succ i=>simp at e1
 unfold Fe at hk;split at hk
 .rename_i cs;split at hk
  .rename_i hl;cases h with
   |agg _ _ vs hs h1 hr=>
    refine⟨cs,hk,AB hl,by simpa[Value.cells]using hs,fun y hy=>?_,fun i av y e1 e2=>?_⟩
    .obtain⟨i,hi⟩:=Cv.1 hy;exact h1 i y (by simpa[Value.cells]using hi)
    .exact hr i av y e1 (by simpa[Value.cells]using e2)
  .exact hk.elim
 .split at hk
  .rename_i h1;split at hk
   .exact single h1 rfl hk
   .exact hk.elim
  .exact hk.elim
theorem Km:∀(vs:List Value) (k o:Nat) (cs:Array Value),o+k+vs.length<=cs.size ->
  ((vs.zipIdx k).foldl (fun(cs:Array Value) (p:Value×Nat)=>cs.setIfInBounds (o+p.2) p.1) cs).toList=over cs.toList (o+k) vs
 | [],k,o,cs,_=>by
  have:∀(l:List Value) (o:Nat),over l o []=l:=by
   intro l
   induction l with
   |nil=>intro o;rfl
   |cons c l ih=>intro o;cases o with
    |zero=>rfl
    |succ o=>simp[over,ih]
  simp[this]
 |v::vs,k,o,cs,h=>by
  simp at h;rw[List.zipIdx_cons,List.foldl_cons,Km vs (k+1) o _ (by simp;omega)];simp only[Array.toList_setIfInBounds];apply Cc;intro i;rw[Ef _ _ _ _ (by simp;omega),Ef _ _ _ _ (by simp;omega)];simp only[Am,List.getElem?_set]
  by_cases h1:i=o+k
  .subst h1;rw[Aj sP,Av sP];have Dc:o+k<cs.size:=by omega
   simp[Dc]
  .by_cases h2:o+k<=i/\i<o+k+(vs.length+1)
   .rw[Av sP,Av h2,show i-(o+k)=(i-(o+(k+1)))+1 by omega];simp
   .rw[Aj sP,Aj sP,Aj h2]
theorem NO{g:Gh}{w:World}{U:Nat->Prop}{t:Nat->AV}{ρ:Operand->Value}(ht:∀x:Operand,Bo g w U (ev t x) (ρ x)){pl pl' : Nat->Option (Nat×Nat)}(dX:∀i p,pl i=some p->pl' i=some p) :
  ∀{ps:List (Nat×Operand)} {cs:List AV} {xs:Array Value} {K:List AV->Prop},B3 g w U cs xs.toList->HP pl cs t ps K ->
   ∃T9 QB,K T9/\B3 g w U T9 QB.toList/\Instr.fill pl' xs (ps.map fun(i,x)=>(i,ρ x))=some QB
 | [],cs,xs,K,h,hk=>⟨cs,xs,hk,h,rfl⟩
 |(i,x)::ps,cs,xs,K,h,hk=>by
  unfold HP at hk;split at hk
  .exact hk.elim
  .rename_i o n hp;obtain⟨Pa,hk,hn,hr⟩:=Jq (ht x) hk;split at hk
   .rename_i Fc;have Fc:=DQ Fc;have Dm:(ρ x).cells.size=n:=by rw[<-hn];simpa using hr.1
    have bl:cs.length=xs.size:=by simpa using h.1.symm
    have Dz:=h.over hr o (by rw[hn];exact Fc);have e:=Km (ρ x).cells.toList 0 o xs (by simp[Dm];omega);simp only[CJ]at e;rw[<-e]at Dz;obtain⟨T9,QB,k1,k2,k3⟩:=NO ht dX Dz hk;refine⟨T9,QB,k1,k2,?_⟩;simp only[Bq,Instr.fill,dX _ _ hp];have e2:(ρ x).cells.zipIdx.foldl (fun cs (c,j)=>cs.setIfInBounds (o+j) c) xs=((ρ x).cells.toList.zipIdx 0).foldl (fun(cs:Array Value) (p:Value×Nat)=>cs.setIfInBounds (o+p.2) p.1) xs:=by
     rw[<-Array.foldl_toList];simp
    rw[Aj (by simp[Dm];omega),e2];exact k3
   .exact hk.elim
theorem Jm:∀{l:List AV},EY l=true->∀a∈l,one a=true
 | [],_,a,h=>by cases h
 |b::r,h,a,ha=>by
  unfold EY at h;split at h
  .rename_i hb;rcases AS.1 ha with rfl | ha
   .exact hb
   .exact Jm h a ha
  .cases h
theorem B3.vals(h:EY (vs.map .v)=true):B3 g w U (vs.map .v) vs:=by
 refine⟨by simp,fun x hx=>?_,fun i av x h1 h2=>?_⟩
 .have:=Jm h (.v x) (AA.2 ⟨x,hx,rfl⟩)
  simpa[one]using this
 .rw[Ap,h2]at h1;simp at h1;subst h1;exact .v _ _
section
variable {P:Program}{T:EU}(hT:B7 P T){h:Nat->HO}{g:Gh}{w:World}{K:AV->Prop}
theorem S5{α β:Type}(P:Program)(w:World)(f:α->Sem β)(f' : α->β):∀(l:List α),(∀a∈l,(f a).run P w=.ok (f' a) w)->(l.mapM f).run P w=.ok (l.map f') w
 | [],_=>rfl
 |a::l,h=>by
  have h1:=h a (Ab ..);have h2:=S5 P w f f' l (fun b hb=>h b (Ai _ hb));simp[List.mapM_cons,Sem.run_bind,h1,h2]
theorem Mm:∀{fs:List (Nat×Nat)},KN T fs=true->∀p∈fs,∃n,(T p.1).size=n+1
 | [],_,p,h=>by cases h
 |(t,o)::r,h,p,hp=>by
  unfold KN at h;split at h
  .cases h
  .rename_i n hn;rcases AS.1 hp with rfl | hp
   .exact⟨n,hn⟩
   .exact Mm h p hp
include hT
theorem Jl{t:Nat}(hd:(T t).d≠.other):∃z,(zeroValue t).run P w=.ok z w/\(T t).zc=z.cells.toList/\(T t).zero=z:=by
 obtain⟨d,i,z,h1,h2,h3,h4,h5,h6,h7,h8⟩:=hT.get hd;exact⟨z,by simp[zeroValue,typeInfo,h3,h4],by rw[TI.zc_cells,h7],h7⟩
theorem QD{t n:Nat}(h:(T t).size=n+1):∃z,(zeroValue t).run P w=.ok z w/\(T t).zc=z.cells.toList:=by
 rcases hT t with e | e
 .rw[e]at h;cases h
 unfold Xz at e;split at e
 .split at e
  .rename_i d i h1 h2 _ z h3;exact⟨z,by simp[zeroValue,typeInfo,h2,h3],by rw[TI.zc_cells,e]⟩
  .rw[e]at h;cases h
 .rw[e]at h;cases h
theorem V3{ty:Nat}{t:Nat->AV}(ht:∀x:Operand,Bo g w (AD h) (ev t x) (ρ x)){ps:Array (Nat×Operand)}(hk:LC T ty t ps.toList K) :
  Bk P h g w (Instr.build ty (ps.map fun(i,x)=>(i,ρ x))) K:=by
 unfold LC at hk;split at hk
 .exact hk.elim
 .rename_i K7;have fin:∀(T9 : List AV) (QB : Array Value),B3 g w (AD h) T9 QB.toList->Bo g w (AD h) (.agg T9) (.agg QB):=fun T9 QB hr=>
   .agg _ _ _ (by simpa using hr.1) (fun i x hx=>hr.2.1 x (AW (by simpa using hx))) (fun i av x h1 h2=>hr.2.2 i av x h1 (by simpa using h2))
  split at hk
  .rename_i fs hs;have hd:(T ty).d≠.other:=by rw[hs];simp
   obtain⟨z,z1,z2,_⟩:=Jl hT (w:=w) hd;split at hk
   .exact hk.elim
   .rename_i Dm;obtain⟨fa,u1,u2,u3⟩:=hT.struct hs;have cr:(fa.mapM fun(f:Field)=>(do pure (f.offset,<-sizeOf f.type):Sem (Nat×Nat))).run P w=.ok (fa.map fun f=>(f.offset,(T f.type).size)) w:=by
     rw[Array.mapM_eq_mapM_toList]
     have:=S5 P w (fun f:Field=>(do pure (f.offset,<-sizeOf f.type):Sem (Nat×Nat))) (fun f=>(f.offset,(T f.type).size)) fa.toList (fun f hf=>by
      obtain⟨n,hn⟩:=Mm Dm (f.type,f.offset) (by rw[u2];exact AA.2 ⟨f,hf,rfl⟩);simp[hT.size1 w hn,hn])
     simp only[Sem.run_map,this,Result.andThen_ok]
     congr 1
     apply Ha;simp
    rw[z2]at hk K7;obtain⟨T9,QB,k1,k2,k3⟩:=NO ht (pl':=fun i=>(fa.map fun f=>(f.offset,(T f.type).size))[i]?) (fun i p hp=>by
     split at hp
     .rename_i t' o hf;cases hp;obtain⟨sv,fd,v1,v2,rfl,rfl⟩:=NR hT hs hf;rw[u1]at v1;cases v1;simp[v2]
     .cases hp) (B3.vals (vs:=z.cells.toList) K7) hk
    refine⟨_,_,?_,k1,fin T9 QB k2⟩;simp only[Instr.build,Sem.run_bind,z1,Result.andThen_ok,run_underlying u1,cr];have e3:(Array.map (fun x:Nat×Operand=>match x with | (i,x)=>(i,ρ x)) ps).toList=ps.toList.map fun(i,x)=>(i,ρ x):=by simp
    rw[e3];rw[k3]
    rfl
  .rename_i n e hs;have hd:(T ty).d≠.other:=by rw[hs];simp
   obtain⟨z,z1,z2,_⟩:=Jl hT (w:=w) hd;split at hk
   .exact hk.elim
   .rename_i m hm;rw[z2]at hk K7;obtain⟨T9,QB,k1,k2,k3⟩:=NO ht (pl':=fun i=>some (i*(T e).size,(T e).size)) (fun i p hp=>hp) (B3.vals (vs:=z.cells.toList) K7) hk;refine⟨_,_,?_,k1,fin T9 QB k2⟩;simp only[Instr.build,Sem.run_bind,z1,Result.andThen_ok,run_underlying (hT.array hs),hT.size1 w hm];have e3:(Array.map (fun x:Nat×Operand=>match x with | (i,x)=>(i,ρ x)) ps).toList=ps.toList.map fun(i,x)=>(i,ρ x):=by simp
    rw[e3];simp only[hm]at k3;rw[k3]
    rfl
  .exact hk.elim
end
theorem cE{a b:KS}(h:cD a b=true):a=b:=by
 cases a<;>cases b<;>first | rfl | (simp[cD]at h;done) | (simp only[cD]at h;obtain rfl:=Hr h;rfl)
theorem SU:∀{a b:List KS},Od a b=true->a=b
 | [],[],_=>rfl
 |x::a,y::b,h=>by
  unfold Od at h;split at h
  .rename_i e;obtain rfl:=cE e;obtain rfl:=SU h;rfl
  .cases h
 | [],_::_,h=>by simp[Od]at h
 |_::_,[],h=>by simp[Od]at h
theorem dg{a b:DG}(h:gZ a b=true):a=b:=by
 obtain⟨a1,a2⟩:=a;obtain⟨b1,b2⟩:=b;cases a1<;>cases b1<;>simp only[gZ]at h<;>first | (obtain rfl:=SU h;rfl) | cases h
section
variable {P:Program}{T:EU}(hT:B7 P T)
include hT
def Hz(P:Program)(w:World)(b:Bool)(d t:Nat)(xs:Array Value)(o:Nat):Prop:=
 (do let a <-part t xs o;Instr.checkKey b d t a).run P w=.ok () w
theorem Nx(w:World)(b:Bool):∀(n t:Nat) (l:List KS),FH T n t=some l->∀d,n<=d->∀(xs:Array Value) (o:Nat),GS l (F1 xs.toList o l.length)=true->Hz P w b d t xs o
 |0,t,l,h=>by simp[FH]at h
 |n+1,t,l,h=>by
  intro d hd xs o hx;obtain⟨d,rfl⟩:∃d',d=d'+1:=⟨d-1,by omega⟩;have scalar:∀k,(T t).d≠.other->Hc (T t).d=false->l=[k]->(∀x,J4 k x=true->(Instr.checkKey b (d+1) t x).run P w=.ok () w)->Hz P w b (d+1) t xs o:=by
   rintro k Ul hs rfl hk
   obtain⟨x,x1,x2,x3⟩:=Iv hx;unfold Hz;simp[Sem.run_bind,CY hT w Ul hs xs o _ x1,hk x x2]
  unfold FH at h;split at h
  .rename_i k hk;split at h
   .cases h
    refine scalar _ (by rw[hk];simp) (by rw[hk];rfl) rfl (fun x hx=>?_);cases x<;>simp[J4]at hx
    simp[Instr.checkKey,run_underlying (hT.int hk)]
   .cases h
  .rename_i hk;split at h
   .cases h
    refine scalar _ (by rw[hk];simp) (by rw[hk];rfl) rfl (fun x hx=>?_);cases x<;>simp[J4]at hx
    simp[Instr.checkKey,run_underlying (hT.string hk)]
   .cases h
  .rename_i hk;split at h
   .cases h
    refine scalar _ (by rw[hk];simp) (by rw[hk];rfl) rfl (fun x hx=>?_);cases x<;>simp[J4]at hx
    simp[Instr.checkKey,run_underlying (hT.bool hk)]
   .cases h
  .rename_i fs hk;split at h
   .split at h
    .rename_i l' FD;split at h
     .rename_i BQ;cases h;have BQ:=AB BQ;have Ul:(T t).d≠.other:=by rw[hk];simp
      have hs:Hc (T t).d=true:=by rw[hk];rfl
      obtain⟨fa,u1,u2,u3⟩:=hT.struct hk;rw[u2]at FD;have ex:(xs.extract o (o+(T t).size)).toList=F1 xs.toList o l.length:=by
       rw[<-BQ];simp[F1]
      have s0:F1 (F1 xs.toList o l.length) 0 l.length=F1 xs.toList o l.length:=by
       rw[VE _ _ _ _ _ sP];rfl
      unfold Hz;simp only[Sem.run_bind,EW hT w Ul hs,Result.andThen_ok];have ih:=Nx w b n;have hq:GS l (F1 (xs.extract o (o+(T t).size)).toList 0 l.length)=true:=by rw[ex,s0];exact hx
      generalize xs.extract o (o+(T t).size)=ys at hq;simp only[Instr.checkKey,Sem.run_bind,run_underlying u1,Result.andThen_ok];rw[<-Array.forIn_toList]
      clear u2 hk
      have key : ∀ (fl : List Field) (m : Nat) (l : List KS), Kl (FH T n) m (fl.map fun f => (f.type, f.offset)) = some l -> (∀ f ∈ fl, f.name ≠ "_") -> GS l (F1 ys.toList m l.length) = true ->
        (forIn fl PUnit.unit (fun (f : Field) (_ : PUnit) => ((if f.name ≠ "_" then (do
         let x <-part f.type ys f.offset
         Instr.checkKey b d f.type x
         pure (ForInStep.yield PUnit.unit))else pure (ForInStep.yield PUnit.unit)):Sem (ForInStep PUnit)))).run P w=.ok PUnit.unit w:=by
       intro fl
       induction fl with
       |nil=>intro m l _ _ _;rfl
       |cons f fl ihf=>
        intro m l hg hn hy;obtain⟨ho,a,c,ha,hc,rfl⟩:=JY hg;rw[Ac]at hy;obtain⟨y1,y2⟩:=M7 hy;rw[Ls _ _ _ _ sP]at y1;rw[Lr,E4]at y2;have h1:=ih f.type a ha d sP ys m y1;unfold Hz at h1;rw[List.forIn_cons];simp only[Sem.run_bind,Av (hn f (Ab ..))];simp only[Sem.run_bind]at h1;rw[ho];generalize (part f.type ys m).run P w=r1 at h1⊢;cases r1 with
        |halt x w1=>cases h1
        |ok u w1=>
         simp only[Result.andThen_ok]at h1⊢;rw[h1];simp only[Result.andThen_ok,Sem.run_pure];exact ihf (m+a.length) c hc (fun f hf=>hn f (Ai _ hf)) y2
      rw[key fa.toList 0 l FD u3 hq]
      rfl
     .cases h
    .cases h
   .cases h
  .cases h
theorem az(hs:FS T kt=some sh)(w:World)(hx:Qp sh x=true)(hy:Qp sh y=true) :
  ∃b:Bool,(Op.equal kt x y).run P w=.ok b w/\(b=true↔x=y):=by
 unfold FS at hs;split at hs
 .rename_i fs hk;split at hs
  .rename_i l hl;cases hs;cases x<;>simp only[Qp]at hx<;>try (cases hx;done)
   cases y<;>simp only[Qp]at hy<;>try (cases hy;done)
   rename_i xs ys;have hd:(T kt).d≠.other:=by rw[hk];simp
   have ha:Hc (T kt).d=true:=by rw[hk];rfl
   have BQ:l.length=(T kt).size:=by
    unfold FH at hl;rw[hk]at hl;dsimp only at hl;split at hl
    .split at hl
     .split at hl
      .rename_i e;cases hl;exact AB e
      .cases hl
     .cases hl
    .cases hl
   have s0:∀zs:Array Value,GS l zs.toList=true->F1 zs.toList 0 l.length=zs.toList:=fun zs hz=>by
    have:=Ir hz
    simp only[F1,KH];rw[As sP]
   have ex:∀zs:Array Value,GS l zs.toList=true->zs.extract 0 (0+(T kt).size)=zs:=fun zs hz=>by
    have:=Ir hz
    rw[<-BQ,<-this];simp
   obtain⟨b,b1,b2⟩:=Q6 hT w 8 kt l hl 10000 sP xs ys 0 (by rw[s0 _ hx];exact hx) (by rw[s0 _ hy];exact hy);simp only[Sem.run_bind,EW hT w hd ha,Result.andThen_ok,ex _ hx,ex _ hy]at b1;rw[s0 _ hx,s0 _ hy]at b2;refine⟨b,b1,b2.trans ⟨fun e=>by rw[Ha e],fun e=>by cases e;rfl⟩⟩
  .cases hs
 .rename_i MR;split at hs
  .rename_i l hl;cases hs;have IL : GS l [x]=true:=by cases x<;>exact hx
   have oN : GS l [y]=true:=by cases y<;>exact hy
   have single:∀k,l=[k]->J4 k x=true/\J4 k y=true:=by
    rintro k rfl
    unfold GS at IL oN;split at IL
    .split at oN
     .exact⟨‹_›,‹_›⟩
     .cases oN
    .cases IL
   have e9:Op.equal kt x y=Op.equalIn (9999+1) kt x y:=rfl;rw[e9];unfold FH at hl;split at hl
   .rename_i k hk;split at hl
    .cases hl
     obtain⟨h1,h2⟩:=single _ rfl;cases x<;>simp[J4]at h1
     cases y<;>simp[J4]at h2
     obtain rfl:=Hr h1;obtain rfl:=Hr h2;exact⟨_,run_equalIn_int w 9999 kt _ _ _ _ (hT.int hk),by simp⟩
    .cases hl
   .rename_i hk;split at hl
    .cases hl
     obtain⟨h1,h2⟩:=single _ rfl;cases x<;>simp[J4]at h1
     cases y<;>simp[J4]at h2
     exact⟨_,run_equalIn_string w 9999 kt _ _ (hT.string hk),by rw[G7];simp⟩
    .cases hl
   .rename_i hk;split at hl
    .cases hl
     obtain⟨h1,h2⟩:=single _ rfl;cases x<;>simp[J4]at h1
     cases y<;>simp[J4]at h2
     exact⟨_,run_equalIn_bool' w 9999 kt _ _ (hT.bool hk),by simp⟩
    .cases hl
   .rename_i fs hk;exact absurd hk (MR fs)
   .cases hl
  .cases hs
theorem Ji(hs:FS T kt=some sh)(w:World)(b:Bool)(hx:Qp sh x=true):(Instr.checkKey b 10000 kt x).run P w=.ok () w:=by
 unfold FS at hs;split at hs
 .rename_i fs hk;split at hs
  .rename_i l hl;cases hs;cases x<;>simp only[Qp]at hx<;>try (cases hx;done)
   rename_i xs;have hd:(T kt).d≠.other:=by rw[hk];simp
   have ha:Hc (T kt).d=true:=by rw[hk];rfl
   have BQ:l.length=(T kt).size:=by
    unfold FH at hl;rw[hk]at hl;dsimp only at hl;split at hl
    .split at hl
     .split at hl
      .rename_i e;cases hl;exact AB e
      .cases hl
     .cases hl
    .cases hl
   have:=Ir hx
   have h0:F1 xs.toList 0 l.length=xs.toList:=by
    simp only[F1,KH];rw[As sP]
   have h1:=Nx hT w b 8 kt l hl 10000 sP xs 0 (by rw[h0];exact hx);unfold Hz at h1;simp only[Sem.run_bind,EW hT w hd ha,Result.andThen_ok]at h1;have ex:xs.extract 0 (0+(T kt).size)=xs:=by rw[<-BQ,<-this];simp
   rw[ex]at h1;exact h1
  .cases hs
 .rename_i MR;split at hs
  .rename_i l hl;cases hs;have key:∀d,(Instr.checkKey b (d+1) kt x).run P w=.ok () w:=by
    intro d;unfold FH at hl;split at hl
    .rename_i k hk;simp[Instr.checkKey,run_underlying (hT.int hk)]
    .rename_i hk;simp[Instr.checkKey,run_underlying (hT.string hk)]
    .rename_i hk;simp[Instr.checkKey,run_underlying (hT.bool hk)]
    .rename_i fs hk;exact absurd hk (MR fs)
    .cases hl
   exact key 9999
  .cases hs
end
def JQ(x:Value)(es:List MapEntry)(i:Nat)(r:Option (Nat×Value)):Prop:=
 (r=none/\∀e∈es,e.key≠x)\/∃(j:Nat) (e:MapEntry),r=some (i+j,e.val)/\es[j]?=some e/\e.key=x
theorem JQ.here{es:List MapEntry}(h:e.key=x):JQ x (e::es) i (some (i,e.val)):=
 .inr ⟨0,e,rfl,rfl,h⟩
theorem JQ.there{es:List MapEntry}{r:Option (Nat×Value)}(h:e.key≠x)(k:JQ x es (i+1) r):JQ x (e::es) i r:=by
 rcases k with ⟨h1,h2⟩ | ⟨j,e',h1,h2,h3⟩
 .exact .inl ⟨h1,fun d hd=>(AS.1 hd).elim (fun e'=>e'▸h) (h2 d)⟩
 .exact .inr ⟨j+1,e',by rw[h1,ET,Nat.add_comm 1 j],h2,h3⟩
theorem NP{kind:TypeDesc}{x:Value}:∀(es:List MapEntry) (i:Nat),(∀e∈es,∃b,Instr.sameNow kind x e.key=some b/\(b=true↔x=e.key))->∃r,Instr.findNow kind x es i=some r/\JQ x es i r
 | [],i,_=>⟨none,rfl,.inl ⟨rfl,fun _ h=>by cases h⟩⟩
 |e::es,i,h=>by
  obtain⟨b,b1,b2⟩:=h e (Ab ..);cases b with
  |true=>exact⟨_,by simp[Instr.findNow,b1],.here (b2.1 rfl).symm⟩
  |false=>
   obtain⟨r,r1,r2⟩:=NP es (i+1) (fun d hd=>h d (Ai _ hd));exact⟨r,by simp[Instr.findNow,b1,r1],.there (fun e'=>by have:=b2.2 e'.symm;cases this) r2⟩
section
variable {P:Program}{T:EU}(hT:B7 P T)
include hT
theorem JX{kt:Nat}{sh:DG}(hs:FS T kt=some sh)(w:World){x:Value}(hx:Qp sh x=true) :
  ∀(es:List MapEntry) (i:Nat),(∀e∈es,Qp sh e.key=true)->∃r,(Instr.findAsking kt x es i).run P w=.ok r w/\JQ x es i r
 | [],i,_=>⟨none,rfl,.inl ⟨rfl,fun _ h=>by cases h⟩⟩
 |e::es,i,h=>by
  obtain⟨b,b1,b2⟩:=az hT hs w hx (h e (Ab ..));cases b with
  |true=>exact⟨_,by simp[Instr.findAsking,b1],.here (b2.1 rfl).symm⟩
  |false=>
   obtain⟨r,r1,r2⟩:=JX hs w hx es (i+1) (fun d hd=>h d (Ai _ hd));exact⟨r,by simp[Instr.findAsking,b1,r1],.there (fun e'=>by have:=b2.2 e'.symm;cases this) r2⟩
theorem Kw(hs:FS T kt=some sh)(w:World)(hx:Qp sh x=true)(es:List MapEntry)(he:∀e∈es,Qp sh e.key=true) :
  ∃r,(Instr.findKey kt x es).run P w=.ok r w/\JQ x es 0 r:=by
 have eU:∀d,P.underlying kt=some d->Instr.findNow d x es 0=none->∃r,(Instr.findKey kt x es).run P w=.ok r w/\JQ x es 0 r:=by
  intro d hd hn;obtain⟨r,r1,r2⟩:=JX hT hs w hx es 0 he;exact⟨r,by simp[Instr.findKey,run_underlying hd,hn,r1],r2⟩
 have now:∀d,P.underlying kt=some d->(∀e∈es,∃b,Instr.sameNow d x e.key=some b/\(b=true↔x=e.key))->∃r,(Instr.findKey kt x es).run P w=.ok r w/\JQ x es 0 r:=by
  intro d hd hn;obtain⟨r,r1,r2⟩:=NP es 0 hn;exact⟨r,by simp[Instr.findKey,run_underlying hd,r1],r2⟩
 have bh:=hs;unfold FS at bh;split at bh
 .rename_i fs hk;obtain⟨fa,u1,_⟩:=hT.struct hk;cases es with
  |nil=>exact⟨none,by simp[Instr.findKey,run_underlying u1,Instr.findNow],.inl ⟨rfl,fun _ h=>by cases h⟩⟩
  |cons e es=>
   refine eU _ u1 ?_;split at bh
   .cases bh
    cases x<;>simp only[Qp]at hx<;>try (cases hx;done)
    simp[Instr.findNow,Instr.sameNow]
   .cases bh
 .rename_i MR;split at bh
  .rename_i l hl;cases bh;have cv:∀y,Qp ⟨false,l⟩ y=true->GS l [y]=true:=fun y hy=>by cases y<;>exact hy
   have IL:=cv x hx;have oc : ∀e∈es,GS l [e.key]=true:=fun e h=>cv _ (he e h)
   clear hx he cv
   have single:∀k y,l=[k]->GS l [y]=true->J4 k y=true:=by
    rintro k y rfl h
    unfold GS at h;split at h
    .assumption
    .cases h
   unfold FH at hl;split at hl
   .rename_i k hk;split at hl
    .cases hl
     refine now _ (hT.int hk) (fun e h=>?_);have h1:=single _ _ rfl IL;have h2:=single _ _ rfl (oc e h);generalize e.key=y at h2;cases x<;>simp[J4]at h1
     cases y<;>simp[J4]at h2
     obtain rfl:=Hr h1;obtain rfl:=Hr h2;exact⟨_,by simp[Instr.sameNow];rfl,by simp⟩
    .cases hl
   .rename_i hk;split at hl
    .cases hl
     refine now _ (hT.string hk) (fun e h=>?_);have h1:=single _ _ rfl IL;have h2:=single _ _ rfl (oc e h);generalize e.key=y at h2;cases x<;>simp[J4]at h1
     cases y<;>simp[J4]at h2
     exact⟨_,by simp[Instr.sameNow];rfl,by rw[beq_toListBytes,G7];simp⟩
    .cases hl
   .rename_i hk;split at hl
    .cases hl
     refine now _ (hT.bool hk) (fun e h=>?_);have h1:=single _ _ rfl IL;have h2:=single _ _ rfl (oc e h);generalize e.key=y at h2;cases x<;>simp[J4]at h1
     cases y<;>simp[J4]at h2
     exact⟨_,by simp[Instr.sameNow];rfl,by simp⟩
    .cases hl
   .rename_i fs hk;exact absurd hk (MR fs)
   .cases hl
  .cases bh
end
theorem MD{P:Program}(w:World)(hx:Qp sh x=true):(Instr.keyThatStays x x).run P w=.ok x w:=by
 have scalar:∀(k:KS) (y:Value) (n:Nat),J4 k y=true->Instr.sameBits n y y=true:=by
  intro k y n h;cases k<;>cases y<;>simp[J4]at h<;>cases n<;>simp[Instr.sameBits,beq_toListBytes]
 have rU:∀(l:List KS) (ys:List Value) (n:Nat),GS l ys=true->((ys.zip ys).all fun(a,b)=>Instr.sameBits n a b)=true:=by
  intro l ys n
  induction ys generalizing l with
  |nil=>intro _;rfl
  |cons y ys ih=>
   intro h;cases l with
   |nil=>simp[GS]at h
   |cons k l=>
    unfold GS at h;split at h
    .rename_i hk;simp only[List.zip_cons_cons,List.all_cons,scalar k y n hk,Bool.true_and];exact ih l h
    .cases h
 have h1:∀n,Instr.sameBits (n+1) x x=true:=by
  intro n;obtain⟨ag,l⟩:=sh;cases ag with
  |true=>
   cases x<;>simp only[Qp]at hx<;>try (cases hx;done)
   have:=rU l _ n hx
   simp only[Instr.sameBits,beq_self_eq_true,Bool.true_and];exact this
  |false=>
   have IL : GS l [x]=true:=by cases x<;>exact hx
   cases l with
   |nil=>simp[GS]at IL
   |cons k l=>
    unfold GS at IL;split at IL
    .rename_i hk;exact scalar k x (n+1) hk
    .cases IL
 have:=h1 9999
 simp only[Instr.keyThatStays];rw[Av this]
 rfl
theorem QA:∀{cs:List AV} {l:List Value},RC cs=some l->cs=l.map .v
 | [],l,h=>by cases h;rfl
 |a::r,l,h=>by
  cases a<;>simp only[RC]at h<;>try (cases h;done)
  split at h
  .rename_i l' hl;cases h;rw[QA hl];rfl
  .cases h
theorem cB(h:Bo g w U a x)(hk:gC a=some y):x=y:=by
 unfold gC at hk;split at hk
 .cases hk;exact h.v_eq
 .split at hk
  .rename_i l hl;cases hk;obtain rfl:=QA hl;exact h.agg_vals
  .cases hk
 .cases hk
theorem Jv{T:EU}{ty:Nat}{K:Value->Prop}(h:Bo g w U a x)(hk:Hs T ty sh a K) :
  ∃kt e,(T ty).d=.map kt e/\FS T kt=some sh/\Qp sh x=true/\K x:=by
 unfold Hs at hk;split at hk
 .rename_i kt e ht;split at hk
  .rename_i mq hs;split at hk
   .rename_i rj;obtain rfl:=dg rj;split at hk
    .rename_i kx Mr;obtain rfl:=cB h Mr;split at hk
     .rename_i hb;exact⟨kt,e,ht,hs,hb,hk⟩
     .exact hk.elim
    .exact hk.elim
   .exact hk.elim
  .exact hk.elim
 .exact hk.elim
theorem Fk.shape(h:Fk sh es ck BK):∀e∈es.toList,Qp sh e.key=true:=by
 intro e he;obtain⟨h1,h2,h3,_⟩:=h;obtain⟨i,hi⟩:=Cv.1 he;have Dc:i<BK.length:=by rw[<-h1];have:=(Au.1 hi).1;simpa using this
 rw[h2 i BK[i] e (At Dc) (by simpa using hi)];exact h3 _ (Af Dc)
theorem Fk.none(h:Fk sh es ck BK)(hn:∀e∈es.toList,e.key≠x)(a:AV):(x,a)∉BK:=by
 intro hm;obtain⟨h1,h2,_⟩:=h;obtain⟨i,hi⟩:=Cv.1 hm;have Dc:i<es.size:=by rw[h1];exact(Au.1 hi).1
 exact hn es[i] sS (h2 i _ es[i] hi (by simp[Dc]))
theorem Fk.some{sh:DG}{es:Array MapEntry}{ck:Nat}{BK:List (Value×AV)}(h:Fk sh es ck BK){x:Value}{j:Nat}{e:MapEntry}(he:es.toList[j]?=some e)(hk:e.key=x) :
  ∃a,BK[j]?=some (x,a)/\(x,a)∈BK:=by
 obtain⟨h1,h2,_⟩:=h;have Dc:j<BK.length:=by rw[<-h1];have:=(Au.1 he).1;simpa using this
 have hg:BK[j]?=Option.some BK[j]:=At Dc
 have:=h2 j BK[j] e hg (by simpa using he)
 have e2:BK[j]=(x,BK[j].2):=by rw[<-hk,this]
 exact⟨BK[j].2,by rw[hg];exact Aa _ e2,by rw[<-e2];exact Af Dc⟩
section
variable {P:Program}{T:EU}(hT:B7 P T){h:Nat->HO}{g:Gh}{w:World}{K:AV->Prop}
section
include hT
theorem QC{t:Nat}(hk:Jk T t K):Bk P h g w (zeroValue t) K:=by
 unfold Jk at hk;split at hk
 .exact hk.elim
 .rename_i hd;obtain⟨z,z1,z2,z3⟩:=Jl hT (w:=w) hd;rw[z3]at hk;split at hk
  .rename_i cs;split at hk
   .rename_i ha;have hr:=B3.vals (g:=g) (w:=w) (U:=AD h) ha;exact⟨_,_,z1,hk,.agg _ _ _ sS (fun i x hx=>hr.2.1 x (AW (by simpa using hx))) (fun i av x h1 h2=>hr.2.2 i av x h1 (by simpa using h2))⟩
   .exact hk.elim
  .exact⟨_,_,z1,hk,.v _ _⟩
theorem Hj{ty b:Nat}{kt e:Nat}{ck:Nat}{BK:List (Value×AV)}(ht:(T ty).d=.map kt e)(hs:FS T kt=some sh)(hx:Qp sh x=true)(hb:w.heap[b]?=some (.map es ck))(hm:Fk sh es ck BK)(hv:∀(i:Nat) (kv:Value×AV) (e:MapEntry),BK[i]?=some kv->es[i]?=some e->Bo g w (AD h) kv.2 e.val)(hk:I3 T ty ok BK x K):Bk P h g w (Instr.lookup ty (.map (some b)) x ok) K:=by
 have hu:=hT.map ht;have Fg:=run_getObj_map (P:=P) w b es ck hb;have LO:=fun bb=>Ji hT hs w bb hx;obtain⟨r,r1,r2⟩:=Kw hT hs w hx es.toList hm.shape;unfold I3 at hk;rw[ht]at hk;dsimp only at hk;rcases r2 with ⟨rfl,hn⟩ | ⟨j,en,rfl,hj,NY⟩
 .have Za:=fun a=>hm.none hn a;cases ok with
  |true=>
   obtain⟨y,av,y1,y2,y3⟩:=QC hT (K:=fun z=>K (.tup [z,.v (.bool false)])) (P:=P) (h:=h) (g:=g) (w:=w) (hk.2 Za);refine⟨.tuple #[y,.bool false],_,?_,y2,.tup _ _ _ rfl (fun i a x h1 h2=>?_)⟩
   .simp[Instr.lookup,run_underlying hu,Fg,LO,r1,y1]
   .match i,h1,h2 with
    |0,h1,h2=>simp at h1 h2;subst h1;subst h2;exact y3
    |1,h1,h2=>simp at h1 h2;subst h1;subst h2;exact .v _ _
  |false=>
   obtain⟨y,av,y1,y2,y3⟩:=QC hT (K:=K) (P:=P) (h:=h) (g:=g) (w:=w) (hk.2 Za);exact⟨y,av,by simp[Instr.lookup,run_underlying hu,Fg,LO,r1,y1],y2,y3⟩
 .obtain⟨a,a1,a2⟩:=hm.some hj NY;have hr:=hv j (x,a) en a1 (by simpa using hj);cases ok with
  |true=>
   refine⟨.tuple #[en.val,.bool true],_,?_,hk.1 a a2,.tup _ _ _ rfl (fun i av y h1 h2=>?_)⟩
   .simp[Instr.lookup,run_underlying hu,Fg,LO,r1]
   .match i,h1,h2 with
    |0,h1,h2=>simp at h1 h2;subst h1;subst h2;exact hr
    |1,h1,h2=>simp at h1 h2;subst h1;subst h2;exact .v _ _
  |false=>exact⟨en.val,a,by simp[Instr.lookup,run_underlying hu,Fg,LO,r1],hk.1 a a2,hr⟩
theorem Uy(ho:∀r,C3 g w (AD h) r (h r)){ty:Nat}{m k:AV}{vm vk:Value}(hm:Bo g w (AD h) m vm)(hx:Bo g w (AD h) k vk)(hk:Jx T h ty m k ok K) :
  Bk P h g w (Instr.lookup ty vm vk ok) K:=by
 unfold Jx at hk;split at hk
 .obtain⟨kt,e,k1,k2,k3,k4⟩:=Jv hx hk;cases hm with
  |cmap _ _ _ b es ck hS hb co hv=>exact Hj hT k1 k2 k3 hb co (fun i kv e p q=>(hv i kv e p q).up _) k4
 .rename_i r;have hr:=ho r;cases hm with
  |mref _ _ b hu ht hp=>
   split at hk
   .rename_i sh BK e;rw[e]at hr;obtain⟨_,b',es,ck,a1,a2,a3,a4,a5,a6⟩:=hr;rw[a2]at hp;cases hp;obtain⟨kt,e,k1,k2,k3,k4⟩:=Jv hx hk;exact Hj hT k1 k2 k3 a3 a4 (fun i kv e p q=>(a5 i kv e p q).up _) k4
   .rename_i sh BK e;rw[e]at hr;obtain⟨_,b',es,ck,a1,a2,a3,a4,a5,a6⟩:=hr;rw[a2]at hp;cases hp;obtain⟨kt,e,k1,k2,k3,k4⟩:=Jv hx hk;exact Hj hT k1 k2 k3 a3 a4 a5 k4
   .rename_i sh BK e;rw[e]at hr;obtain⟨_,b',a1,a2⟩:=hr;rw[a1]at hp;cases hp;obtain⟨kt,e,k1,k2,k3,k4⟩:=Jv hx hk;cases a2 with
    |cmap _ _ _ _ es ck hS hb co hv=>exact Hj hT k1 k2 k3 hb co (fun i kv e p q=>(hv i kv e p q).up _) k4
   .exact hk.elim
 .exact hk.elim
omit hT in
theorem K4{ty:Nat}{BK:List (Value×AV)}{kx:Value}(hk:I2 T ty ok BK kx K):I3 T ty ok BK kx K:=by
 unfold I2 at hk;unfold I3;split at hk
 .rename_i e;split at hk
  .rcases hk with ⟨a,⟨h1,h2⟩,h3⟩ | ⟨h1,h2⟩
   .exact⟨fun b hb=>by rw[h2 b hb];exact h3,fun hn=>absurd h1 (hn a)⟩
   .exact⟨fun b hb=>absurd hb (h1 b),fun _=>h2⟩
  .rcases hk with ⟨a,⟨h1,h2⟩,h3⟩ | ⟨h1,h2⟩
   .exact⟨fun b hb=>by rw[h2 b hb];exact h3,fun hn=>absurd h1 (hn a)⟩
   .exact⟨fun b hb=>absurd hb (h1 b),fun _=>h2⟩
 .exact hk.elim
omit hT in
theorem Ju{ty:Nat}{k:AV}{A B:Value->Prop}(hk:Hs T ty sh k A)(fI:∀x,A x->B x):Hs T ty sh k B:=by
 unfold Hs at *
 repeat' split at hk
 all_goals first | exact hk.elim | skip
 simp_all
omit hT in
theorem WM{ty:Nat}{m k:AV}(hk:Jw T h ty m k ok K):Jx T h ty m k ok K:=by
 unfold Jw at hk;unfold Jx;split at hk
 .exact Ju hk fun _=>K4
 .split at hk
  .exact Ju hk fun _=>K4
  .exact Ju hk fun _=>K4
  .exact Ju hk fun _=>K4
  .exact hk.elim
 .exact hk.elim
theorem Zu(ho:∀r,C3 g w (AD h) r (h r)){t ty:Nat}{x:AV}(hx:Bo g w (AD h) x vx)(hk:Mu T t h x K):Bk P h g w (Builtin.len_ #[t] ty #[vx]) K:=by
 unfold Mu at hk;split at hk
 .rename_i e ht;have hu:=hT.slice ht;have run:∀a n c,(Builtin.len_ #[t] ty #[.slice a n c]).run P w=.ok (.int .i64 n) w:=fun a n c=>by simp[Builtin.len_,run_underlying hu,goInt]
  split at hk
  .have hs:=hx.slice_none;cases hs with
   |snil _ a cap=>exact⟨_,_,run a 0 cap,hk,.v _ _⟩
   |slice _ _ b off sz cap val hc=>exact⟨_,_,run _ _ _,hk,.v _ _⟩
  .cases hx with
   |msl=>exact⟨_,_,run _ _ _,hk,.v _ _⟩
  .obtain rfl:=hx.v_eq;exact⟨_,_,run _ _ _,hk,.v _ _⟩
  .exact hk.elim
 .rename_i ht;split at hk
  .obtain rfl:=hx.v_eq;exact⟨_,_,by simp[Builtin.len_,run_underlying (hT.string ht),goInt],hk,.v _ _⟩
  .exact hk.elim
 .rename_i k e ht;have hu:=hT.map ht;have run:∀b es ck,w.heap[b]?=some (.map es ck)->(Builtin.len_ #[t] ty #[.map (some b)]).run P w=.ok (.int .i64 es.size) w:=fun b es ck hb=>by
   simp[Builtin.len_,run_underlying hu,goInt,run_getObj_map (P:=P) w b es ck hb]
  split at hk
  .cases hx with
   |cmap _ _ _ b es ck hS hb co hv=>exact⟨_,_,run b es ck hb,by rw[co.1];exact hk,.v _ _⟩
  .rename_i r;have hr:=ho r;cases hx with
   |mref _ _ b Zh ht' hp=>
    split at hk
    .rename_i sh BK e;rw[e]at hr;obtain⟨_,b',es,ck,a1,a2,a3,a4,a5,a6⟩:=hr;rw[a2]at hp;cases hp;exact⟨_,_,run _ es ck a3,by rw[a4.1];exact hk,.v _ _⟩
    .rename_i sh BK e;rw[e]at hr;obtain⟨_,b',es,ck,a1,a2,a3,a4,a5,a6⟩:=hr;rw[a2]at hp;cases hp;exact⟨_,_,run _ es ck a3,by rw[a4.1];exact hk,.v _ _⟩
    .rename_i sh BK e;rw[e]at hr;obtain⟨_,b',a1,a2⟩:=hr;rw[a1]at hp;cases hp;cases a2 with
     |cmap _ _ _ _ es ck hS hb co hv=>exact⟨_,_,run _ es ck hb,by rw[co.1];exact hk,.v _ _⟩
    .exact hk.elim
  .exact hk.elim
 .exact hk.elim
end
theorem Rj(ho:∀r,C3 g w (AD h) r (h r)){t:Nat->AV}(ht:∀x:Operand,Bo g w (AD h) (ev t x) (ρ x)){fn:Fn}{first cap:Array Operand}(hk:HU t h fn first.toList cap.toList K) :
  Bk P h g w (Instr.makeFunc fn (first.map ρ) (cap.map ρ)) K:=by
 unfold HU at hk;split at hk
 .rename_i f e;have hf:first=#[]:=by
   apply Ha;simpa using e
  subst hf;refine⟨_,_,rfl,hk,?_⟩;have e0:Array.map ρ (#[]:Array Operand)=#[]:=by simp
  rw[e0];refine .clo _ f (cap.toList.map fun x=>rsv h (ev t x)) (cap.map ρ) sS (fun i av x h1 h2=>?_);rw[Ap,Ay]at h1;obtain⟨y,y1,rfl⟩:=h1;rw[KE,Ay]at h2;obtain⟨z,z1,rfl⟩:=h2
  have:y=z:=by
   have:=y1
   rw[Az,z1]at this;exact(Bv this).symm
  subst this;exact(ht y).rsv ho
 .exact hk.elim
theorem Rr{x:AV}(hx:Bo g w (AD h) x vx)(hk:HZ x K){pos:String}{after:Array Edge}{gd:Option (Nat×Bool)}{dst:Option Tmp}{ty:Nat}{X:Operand}(hX:ρ X=vx) :
  (execOp ρ ⟨dst,.nilCheck X,ty,pos,after,gd⟩).run P w=.ok (.value vx) w/\K x:=by
 subst hX;unfold HZ at hk;split at hk
 all_goals first
  |exact hk.elim
  |(refine⟨?_,hk⟩;generalize hq:ρ X=q at hx;cases hx;simp[execOp,hq];done)
theorem Wj(ho:∀r,C3 g w (AD h) r (h r)){x:AV}(hx:Bo g w (AD h) x vx)(hk:Ud h x K):Bk P h g w (Instr.entry vx) K:=by
 unfold Ud at hk;split at hk
 .rename_i r;have hr:=ho r;split at hk
  .rename_i all rem kv e;rw[e]at hr;cases hx with
   |ref _ _ _ b hu ht hp=>
    obtain⟨_,b',mb,Ia,seen,st,es,ck,a1,a2,a3,a4,a5,⟨sh,a6⟩,a7,a8,a9,RQ,UR,a12,eK⟩:=hr;rw[a2]at hp;cases hp;obtain⟨i,en,c1,c2,c3⟩:=a12;have j7:es.find? (fun e=>e.born == en.born)=some en:=by
     rw[Array.find?_eq_some_iff_getElem];obtain⟨Dc,he⟩:=BN.1 c2;refine⟨by simp,i,Dc,he,fun j hj=>?_⟩;have Y8 : j<es.size:=by omega
     simp only[CE,GJ,ne_eq];intro e'
     have:=a6.2.2.2.2.2 j i es[j] en (by simp[Y8]) c2 e'
     omega
    have NY:=a6.2.1 i kv en c1 c2;refine⟨.tuple #[en.key,en.val],_,?_,hk,.tup _ _ _ rfl (fun k av y h1 h2=>?_)⟩
    .have PR:(getObj b).run P w=.ok (.mapIter (some mb) Ia seen st) w:=by simp[getObj,Sem.run,a3]
     have cl:=run_getObj_map (P:=P) w mb es ck a5;simp[Instr.entry,PR,c3,cl,a8,j7]
    .match k,h1,h2 with
     |0,h1,h2=>simp at h1 h2;subst h1;subst h2;rw[NY];exact .v _ _
     |1,h1,h2=>simp at h1 h2;subst h1;subst h2;exact(a9 i kv en c1 c2).up _
  .exact hk.elim
 .exact hk.elim
end
end Go.Eng
