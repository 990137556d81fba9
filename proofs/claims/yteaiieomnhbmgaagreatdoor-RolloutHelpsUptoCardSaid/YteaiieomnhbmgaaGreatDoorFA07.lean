/- Lemmas 7. -/
import Derived.Test.YteaiieomnhbmgaaGreatDoorFA06
import Derived.Laws.IdiomStrings
import Derived.Lib.BufferRead
namespace Go.Eng
variable {x vx:Value}{U:Nat->Prop}{ρ:Operand->Value}{es:Array MapEntry}{w:World}{sh:E8}{Ch:List (Value×AV)}{Hz:Array TypeId}{g:Gh}{ok:Bool}{vs:List Value}{e:MapEntry}{a:AV}{i kt:Nat}{vi vy y:Value}{ck:Nat}
section
variable {P:Program}{T:Ha}(hT:CM P T){h:Nat->HO}{g:Gh}{w:World}{K:AV->Prop}
section
include hT
theorem WQ{t:Nat}{x ix:AV}(hx:BU g w (AR h) x vx)(hi:BU g w (AR h) ix vi)(hk:KF T t x ix K):BW P h g w (Instr.indexAt t vx vi) K:=by
 unfold KF at hk;split at hk
 .rename_i e i ht;obtain rfl:=hi.v_eq;have hu:=hT.slice ht;split at hk
  .exact hk.elim
  .rename_i m hm;have CZ:∀b off (len cap:Nat),0<=i->i<(len:Int)->(Instr.indexAt t (.slice (some ⟨b,off,none⟩) len cap) (.int .i64 i)).run P w=.ok (.pointer (some ⟨b,off+i.toNat*(T e).size,none⟩)) w:=fun b off len cap h0 h1=>by
    simp[Instr.indexAt,asIntOf,run_underlying hu,h0,h1,hT.size1 w hm,Addr.add_lit,hm]
   split at hk
   .rename_i tk es;obtain⟨cs,⟨h0,h1⟩,h2,hk⟩:=hk;have hs:=hx.slice_none;have DF:=(Aw.1 h1).1;cases hs with
    |snil=>simp at h1
    |slice _ _ b off sz cap val hc hl DV EA=>
     have ES:sz=(T e).size:=by rw[<-h2];exact(hl _ _ h1).symm
     subst ES;refine⟨_,_,CZ b off es.length cap h0 ch,hk,.cptr _ cs b _ (val i.toNat) (fun j av hj=>?_) (fun j av hj=>EA _ _ _ _ h1 hj)⟩;exact DV _ _ _ _ h1 hj
   .rename_i r n;obtain⟨⟨h0,h1⟩,hk⟩:=hk;cases hx with
    |msl _ _ _ a cap nu ht' hn ha M6=>
     rcases ha with rfl|⟨b,rfl⟩
     .omega
     .refine⟨_,_,CZ b 0 n cap h0 h1,hk,?_⟩;rw[Bb];exact .eref _ r n _ _ 0 b cap nu ht' ⟨by omega,hn⟩ (fun e=>(M6 e).symm)
   .exact hk.elim
 .rename_i n e i ht;obtain rfl:=hi.v_eq;have hu:=hT.array ht;split at hk
  .exact hk.elim
  .rename_i m hm;have CZ:∀b off,0<=i->i<(n:Int)->(Instr.indexAt t (.pointer (some ⟨b,off,none⟩)) (.int .i64 i)).run P w=.ok (.pointer (some ⟨b,off+i.toNat*(T e).size,none⟩)) w:=fun b off h0 h1=>by
    simp[Instr.indexAt,asIntOf,run_underlying hu,h0,h1,hT.size1 w hm,Addr.add_lit,hm,Instr.sureAddr]
   split at hk
   .cases hx with
    |cptr _ _ b off val DV EA=>exact⟨_,_,CZ b off hk.1.1 hk.1.2,hk.2,(BU.cptr _ _ b off val DV EA).cptr_drop _⟩
   .rename_i r off;cases hx with
    |ref _ _ _ b hu ht hp=>exact⟨_,_,CZ b off hk.1.1 hk.1.2,hk.2,.ref _ r _ b hu ht hp⟩
   .exact hk.elim
 .exact hk.elim
theorem jM{t:Nat}{x ix:AV}(hx:BU g w (AR h) x vx)(hi:BU g w (AR h) ix vi)(hk:Vg T t x ix K):BW P h g w (Instr.index t vx vi) K:=by
 unfold Vg at hk;split at hk
 .rename_i s i ht;obtain rfl:=hx.v_eq;obtain rfl:=hi.v_eq;obtain⟨b,⟨h0,h1⟩,hk⟩:=hk;refine BW.val (x:=.int .u8 b.toNat) ?_ hk;have h2:s[i.toNat]?=some b:=by
   have:=(Bv.1 h1)
   obtain⟨l1,l2⟩:=this;have l1' : i.toNat<s.size:=l1;rw[getElem?_pos s i.toNat l1'];exact Aa some l2
  simp[Instr.index,asIntOf,run_underlying (hT.string ht),h0,h2]
 .rename_i n e cs i ht;obtain rfl:=hi.v_eq;obtain⟨⟨h0,h1⟩,hk⟩:=hk;cases hx with
  |agg _ _ xs a1 a2 a3=>
   have hd:(T e).d≠.other:=by
    intro e';unfold cp M0 at hk;rw[e']at hk;exact hk.elim
   obtain⟨y,av,p1,p2,p3⟩:=cq hT (ac.of_agg (.agg _ _ xs a1 a2 a3) _) hk;refine⟨y,av,?_,p2,p3⟩;simp[Instr.index,asIntOf,run_underlying (hT.array ht),h0,h1,hT.size w hd,p1]
 .exact hk.elim
theorem aE{s t:Nat}{x:AV}(hx:BU g w (AR h) x vx)(hk:Xz T s t x K):BW P h g w (convert s t vx) K:=by
 unfold Xz at hk;split at hk
 .rename_i k n h1 h2;obtain rfl:=hx.v_eq;refine BW.val (x:=.int .i64 n) ?_ hk.2;have hw:=Oh hk.1;simp[convert,run_underlying (hT.int h1),run_underlying (hT.int h2),Conv.intToInt,hw]
 .rename_i k k' m n DJ h1 h2;obtain rfl:=hx.v_eq;refine BW.val (x:=.int k' (k'.wrap n)) ?_ hk;simp[convert,run_underlying (hT.int h1),run_underlying (hT.int h2),Conv.intToInt]
 .rename_i s' h1 h2;obtain rfl:=hx.v_eq;refine BW.val (x:=.string s') ?_ hk;simp[convert,run_underlying (hT.string h1),run_underlying (hT.string h2)]
 .rename_i e tk es h1 h2;split at hk
  .rename_i h3;obtain⟨l,rfl,hk⟩:=hk;have hr:=hx.slice_none;refine BW.val (x:=.string ⟨l.toArray⟩) ?_ hk;generalize hes:l.map (fun b=>[AV.v (.int .u8 b.toNat)])=es at hr;cases hr with
   |snil _ a cap=>
    have hl:l=[]:=by cases l with|nil=>rfl|cons b l=>cases hes
    subst hl;cases a with
    |none=>exact Lib.run_convert_nil_bytes w s t e cap (hT.slice h1) (hT.int h3) (hT.string h2)
    |some a=>exact run_convert_bytes_back w s t e a cap [] (hT.slice h1) (hT.int h3) (hT.string h2) (fun j hj=>by simp at hj)
   |slice _ _ b off sz cap val hc hl DV EA=>
    have CH:l.length=es.length:=by rw[<-hes];simp
    have:=run_convert_bytes_back (P:=P) w s t e ⟨b,off,none⟩ cap l (hT.slice h1) (hT.int h3) (hT.string h2) (fun j hj=>by
     have hg:es[j]?=some [AV.v (.int .u8 l[j].toNat)]:=by rw[<-hes,AG,AD hj];rfl
     have QD:sz=1:=(hl j _ hg).symm;have h4:=DV j _ 0 _ hg rfl;have h5:=EA j _ 0 _ hg rfl;rw[Addr.add_lit];rw[QD,Nat.mul_one,GT]at h4;rw[h4.2.1,h5.v_eq])
    rw[CH]at this;exact this
  .exact hk.elim
 .exact hk.elim
end
theorem pq{op:UnOp}{x:AV}(hx:BU g w (AR h) x vx)(hk:cQ op x K):BW P h g w (Op.unary op vx) K:=by
 unfold cQ at hk;split at hk
 .unfold kc at hk;split at hk
  .obtain rfl:=hx.v_eq;exact BW.val (x:=.bool false) (by simp[Op.unary]) hk
  .obtain rfl:=hx.v_eq;exact BW.val (x:=.bool true) (by simp[Op.unary]) hk
  .exact hk.elim
 .rename_i a;obtain rfl:=hx.v_eq;refine BW.val (x:=.int .i64 (-a)) ?_ hk.2
  have:=Oh hk.1
  simp[Op.unary,Op.intArith,this]
 .obtain rfl:=hx.v_eq;exact BW.val (by simp[Op.unary,Op.intBits,JV]) hk
 .exact hk.elim
theorem bZ:∀{l:List AV} {j:Nat} {a:AV},rK l j=some a->l[j]?=some a
 | [],j,a,h=>by cases h
 |b::r,0,a,h=>by simpa[rK]using h
 |b::r,j+1,a,h=>by simpa using bZ (l:=r) (j:=j) h
theorem aS{i:Nat}{x:AV}(hx:BU g w (AR h) x vx)(hk:Nq x i K):BW P h g w (Instr.extract vx i) K:=by
 unfold Nq at hk;split at hk
 .rename_i cs;cases hx with
  |tup _ _ vs hs hh=>
   split at hk
   .rename_i a ha;have hc:=bZ ha;have hi:i<vs.size:=by rw[hs];exact(Aw.1 hc).1
    exact⟨vs[i],_,by simp[Instr.extract,hi],hk,hh _ _ _ hc (by simp[hi])⟩
   .exact hk.elim
 .exact hk.elim
theorem oD{c a b:AV}{vc va vb:Value}(hc:BU g w (AR h) c vc)(ha:BU g w (AR h) a va)(hb:BU g w (AR h) b vb)(hk:ct c a b K) :
  BW P h g w (do pure (if <-asBool vc then va else vb)) K:=by
 unfold ct at hk;split at hk
 .obtain rfl:=hc.v_eq;exact⟨va,a,by simp[asBool],hk,ha⟩
 .obtain rfl:=hc.v_eq;exact⟨vb,b,by simp[asBool],hk,hb⟩
 .exact hk.elim
theorem ry{t:Nat}{x y:AV}(hx:BU g w (AR h) x vx)(hy:BU g w (AR h) y vy)(hk:rC max x y K):BW P h g w (Builtin.max_ Hz t #[vx,vy]) K:=by
 unfold rC at hk;split at hk
 .rename_i k a k' b;split at hk
  .obtain rfl:=hx.v_eq;obtain rfl:=hy.v_eq;refine BW.val (x:=.int k (max a b)) ?_ hk;simp[Builtin.max_,Builtin.max2];omega
  .exact hk.elim
 .exact hk.elim
theorem rA{t:Nat}{x y:AV}(hx:BU g w (AR h) x vx)(hy:BU g w (AR h) y vy)(hk:rC min x y K):BW P h g w (Builtin.min_ Hz t #[vx,vy]) K:=by
 unfold rC at hk;split at hk
 .rename_i k a k' b;split at hk
  .obtain rfl:=hx.v_eq;obtain rfl:=hy.v_eq;refine BW.val (x:=.int k (min a b)) ?_ hk;simp[Builtin.min_,Builtin.min2];omega
  .exact hk.elim
 .exact hk.elim
end
theorem CW.at{cs:List AV}(h:CW g w U cs vs){av:AV}(hi:cs[i]?=some av):∃x,vs[i]?=some x/\x.oneCell'=true/\BU g w U av x:=by
 have DF:i<vs.length:=by rw[h.1];exact(Aw.1 hi).1
 exact⟨vs[i],AD DF,h.2.1 _ (Ao DF),h.2.2 i av _ hi (AD DF)⟩
theorem FG{α:Type}{n:Nat}:∀{es:List (List α)},(∀c∈es,c.length=n)->∀{i j:Nat} {c:List α},es[i]?=some c->j<n->es.flatten[i*n+j]?=c[j]?
 | [],_,i,j,c,h,_=>by simp at h
 |d::es,hl,0,j,c,h,hj=>by
  simp at h;subst h
  have:=hl d (Ab ..)
  rw[BE,AT ch]
  congr 1;omega
 |d::es,hl,i+1,j,c,h,hj=>by
  have hd:=hl d (Ab ..);rw[BE,A2 (by rw[hd,Ec];omega)];rw[show(i+1)*n+j-d.length=i*n+j by rw[hd,Ec];omega];exact FG (fun c hc=>hl c (Ah _ hc)) (by simpa using h) hj
theorem DC{α:Type}{n:Nat}:∀{es:List (List α)},(∀c∈es,c.length=n)->es.flatten.length=es.length*n
 | [],_=>by simp
 |d::es,hl=>by
  rw[BE,Ac,hl d (Ab ..),DC (fun c hc=>hl c (Ah _ hc)),Al,Ec,Nat.add_comm]
section
variable {P:Program}{T:Ha}(hT:CM P T){h:Nat->HO}{g:Gh}{w:World}{K:AV->Prop}(ho:∀r,Ez g w (AR h) r (h r))
include ho
theorem iY(hT:CM P T){t:Nat}{x:AV}(hx:BU g w (AR h) x vx){hi mx:Option Operand}(hk:dt T h t x hi mx K):BW P h g w (Instr.sliceAt t vx none (hi.map ρ) (mx.map ρ)) K:=by
 unfold dt at hk;split at hk
 .rename_i n e r hd;split at hk
  .rename_i cs hs he;obtain⟨rfl,hk⟩:=hk;cases hx with
   |ref _ _ _ b hu ht hx=>
    have hr:=ho r;rw[he]at hr;obtain⟨_,b',a1,a2⟩:=hr;rw[a1]at hx;cases hx;cases a2 with
    |cptr _ _ _ off val DV EA=>
     have ha:=hT.array hd;refine⟨.slice (some ⟨b,0,none⟩) cs.length cs.length,_,?_,hk,?_⟩
     .simp[Instr.sliceAt,Instr.sureAddr,run_underlying ha,Instr.sliceBounds,hT.size1 w hs,Addr.add_lit]
     .have q:=BU.slice (g:=g) (w:=w) (AR h) (cs.map fun c=>[c]) b 0 1 cs.length (fun i _=>val i) B0 B0 ?_ ?_
      .simpa using q
      .intro i c j av h1 h2;rw[AG,AX]at h1;obtain⟨a,h3,rfl⟩:=h1;obtain⟨rfl,rfl⟩:j=0/\av=a:=by cases j<;>simp_all
       have:=DV i av h3
       simpa using this
      .intro i c j av h1 h2;rw[AG,AX]at h1;obtain⟨a,h3,rfl⟩:=h1;obtain⟨rfl,rfl⟩:j=0/\av=a:=by cases j<;>simp_all
       exact EA i av h3
  .exact hk.elim
 .exact hk.elim
theorem XT(hT:CM P T){t:Nat}{p:AV}{vp:Value}(hp:BU g w (AR h) p vp)(hk:Jb T h t p K):BW P h g w (Instr.loadAt t vp) K:=by
 have Wo:∀b off,BW P h g w (loadVar t ⟨b,off,none⟩) K->BW P h g w (Instr.loadAt t (.pointer (some ⟨b,off,none⟩))) K:=by
  rintro b off ⟨x,av,h1,h2,h3⟩
  exact⟨x,av,by simp[Instr.loadAt,Instr.sureAddr,h1],h2,h3⟩
 unfold Jb at hk;split at hk
 .cases hp with
  |cptr _ _ b off val DV EA=>exact Wo b off (NE hT (Iv.of_cptr (.cptr FB _ b off val DV EA) _) hk)
 .rename_i r off;have hr:=ho r;cases hp with
  |ref _ _ _ b hu ht hx=>
   split at hk
   .rename_i cs e;rw[e]at hr;obtain⟨_,b',E,vs,a1,a2,a3,a4,a5⟩:=hr;rw[a2]at hx;cases hx
    have:=(Iv.of_row a3 a4).drop off
    rw[Bb]at this;exact Wo b off (NE hT this hk)
   .rename_i cs e;rw[e]at hr;obtain⟨_,b',a1,a2⟩:=hr;rw[a1]at hx;cases hx
    have:=(Iv.of_cptr a2 (AR h)).drop off
    rw[Bb]at this;exact Wo b off (NE hT this hk)
   .exact hk.elim
 .rename_i r n sz i off;have hr:=ho r;cases hp with
  |eref _ _ _ _ _ _ b cap hu ht hn hx=>
   split at hk
   .rename_i Hb es e;rw[e]at hr;split at hk
    .rename_i hz;obtain rfl:=AL hz;obtain⟨CH,cs,h1,hk⟩:=hk;obtain⟨t1,l1,al,a1⟩:=hr;have DF:=(Aw.1 h1).1;rcases a1 with ⟨rfl,_⟩|⟨b',Ml,E,vs,e1,e2,e3,e4,e5,e6,e7⟩
     .simp at h1
     .have:=hx (CH.trans l1.symm)
      rw[e1]at this;simp only[Value.slice.injEq,BB,Addr.mk.injEq]at this;obtain⟨⟨rfl,_,_⟩,_,_⟩:=this;refine Wo _ _ (NE hT (cs:=cs.drop off) (fun j av hj=>?_) hk);rw[DX]at hj;have hcl:=al cs (Az h1);have zh:off+j<sz:=by rw[<-hcl];exact(Aw.1 hj).1
      have hf:=FG al h1 zh;rw[hj]at hf;obtain⟨x,x1,x2,x3⟩:=e6.at hf;refine⟨x,?_,x2,x3.up _⟩;rw[F5 e4];have vo:i*sz+(off+j)<es.length*sz:=by
       have:=Bf sz (show i+1<=es.length from DF)
       rw[Ec]at this;omega
      rw[BZ vo]at x1;rw[<-Hc]at x1;simpa using x1
    .exact hk.elim
   .rename_i Hb es i' c av e;rw[e]at hr;split at hk
    .rename_i hz;obtain rfl:=AL hz;obtain⟨⟨CH,rfl,rfl⟩,hk⟩:=hk;obtain⟨t1,l1,al,b',Ml,E,vs,e1,e2,e3,e4,e5,e6,e7,e8,x,e9,yw⟩:=hr
     have:=hx (CH.trans l1.symm)
     rw[e1]at this;simp only[Value.slice.injEq,BB,Addr.mk.injEq]at this;obtain⟨⟨rfl,_,_⟩,_,_⟩:=this;refine Wo _ _ (NE hT (cs:=[av]) (fun j a' hj=>?_) hk);cases j with
     |succ j=>simp at hj
     |zero=>
      simp only[Bd,BB]at hj;subst hj;refine⟨x,by rw[F5 e4];simpa using e9,?_,yw⟩;have hm:x∈vs.toList.take (es.length*sz):=by
       have h9:vs.toList[i*sz+off]?=some x:=by simpa using e9
       exact Az (by rw[BZ e8];exact h9)
      exact e6.2.1 x hm
    .exact hk.elim
   .exact hk.elim
 .exact hk.elim
end
theorem Gb{α:Type}:∀(cs:List α) (o:Nat) (vs:List α),(over cs o vs).length=cs.length
 | [],_,_=>rfl
 |c::cs,o+1,vs=>by simp[over,Gb cs o vs]
 |c::cs,0,[]=>rfl
 |c::cs,0,v::vs=>by simp[over,Gb cs 0 vs]
theorem Ga{α:Type}:∀(cs:List α) (o:Nat) (vs:List α) (i:Nat),o+vs.length<=cs.length->(over cs o vs)[i]?=if o<=i/\i<o+vs.length then vs[i-o]? else cs[i]?
 | [],o,vs,i,h=>by
  simp at h;obtain⟨rfl,rfl⟩:=h;simp[over]
 |c::cs,o+1,vs,0,h=>by simp[over]
 |c::cs,o+1,vs,i+1,h=>by
  have:=Ga cs o vs i (by simp at h;omega)
  simp only[over,HC,this]
  by_cases hc:o<=i/\i<o+vs.length
  .rw[Ap hc,Ap ch];congr 1;omega
  .rw[Aj hc,Aj ch]
 |c::cs,0,[],i,h=>by
  have:¬(0<=i/\i<0+([]:List α).length):=by simp
  rw[Aj this];rfl
 |c::cs,0,v::vs,0,h=>by simp[over]
 |c::cs,0,v::vs,i+1,h=>by
  have:=Ga cs 0 vs i (by simp at h;omega)
  simp only[over,HC,this]
  by_cases hc:0<=i/\i<0+vs.length
  .rw[Ap hc,Ap (by simp;omega)];simp
  .rw[Aj hc,Aj (by simp at hc⊢;omega)]
theorem CW.over{g:Gh}{w:World}{U:Nat->Prop}{cs WE:List AV}{xs vs:List Value}(h:CW g w U cs xs)(k:CW g w U WE vs)(o:Nat)(Is:o+WE.length<=cs.length) :
  CW g w U (Eng.over cs o WE) (Eng.over xs o vs):=by
 have zn:o+vs.length<=xs.length:=by rw[k.1,h.1];exact Is
 refine⟨by rw[Gb,Gb,h.1],fun x hx=>?_,fun i av x h1 h2=>?_⟩
 .obtain⟨i,hi⟩:=Ct.1 hx;rw[Ga _ _ _ _ zn]at hi;split at hi
  .exact k.2.1 _ (Az hi)
  .exact h.2.1 _ (Az hi)
 .rw[Ga _ _ _ _ Is]at h1;rw[Ga _ _ _ _ zn,k.1]at h2;split at h1
  .rename_i hc;rw[Ap hc]at h2;exact k.2.2 _ _ _ h1 h2
  .rename_i hc;rw[Aj hc]at h2;exact h.2.2 _ _ _ h1 h2
theorem we(h:BU g w U a x)(h1:one a=true):x.oneCell'=true:=by
 cases h with
 |v=>exact h1
 |tok _ r sz es _ h=>cases h with
  |snil=>rfl
  |slice=>rfl
 |ver _ r sz v es _ h=>cases h with
  |snil=>rfl
  |slice=>rfl
 |full _ sz es _ h=>cases h with
  |snil=>rfl
  |slice=>rfl
 |_=>first |rfl |(cases h1;done)
theorem kj(h:x.oneCell'=true):x.cells=#[x]:=by
 cases x<;>first|rfl|(simp[Value.oneCell']at h)
theorem NY{n:Nat}{K:List AV->Prop}(h:BU g w U a x)(hk:HY n a K) :
  ∃cs,K cs/\cs.length=n/\CW g w U cs x.cells.toList:=by
 have single:one a=true->n=1->K [a]->∃cs,K cs/\cs.length=n/\CW g w U cs x.cells.toList:=by
  intro h1 hn hk;have hx:=we h h1;rw[kj hx];refine⟨[a],hk,hn.symm,rfl,by simpa using hx,fun i av y e1 e2=>?_⟩;cases i with
  |zero=>simp at e1 e2;subst e1;subst e2;exact h
  |succ i=>simp at e1
 unfold HY at hk;split at hk
 .rename_i cs;split at hk
  .rename_i hl;cases h with
   |agg _ _ vs hs h1 hr=>
    refine⟨cs,hk,AL hl,by simpa[Value.cells]using hs,fun y hy=>?_,fun i av y e1 e2=>?_⟩
    .obtain⟨i,hi⟩:=Ct.1 hy;exact h1 i y (by simpa[Value.cells]using hi)
    .exact hr i av y e1 (by simpa[Value.cells]using e2)
  .exact hk.elim
 .split at hk
  .rename_i h1;split at hk
   .exact single h1 rfl hk
   .exact hk.elim
  .exact hk.elim
theorem Pf:∀(vs:List Value) (k o:Nat) (cs:Array Value),o+k+vs.length<=cs.size ->
  ((vs.zipIdx k).foldl (fun(cs:Array Value) (p:Value×Nat)=>cs.setIfInBounds (o+p.2) p.1) cs).toList=over cs.toList (o+k) vs
 | [],k,o,cs,_=>by
  have:∀(l:List Value) (o:Nat),over l o []=l:=by
   intro l
   induction l with
   |nil=>intro o;rfl
   |cons c l ih=>intro o;cases o with
    |zero=>rfl
    |succ o=>simp[over,ih]
  simp[this]
 |v::vs,k,o,cs,h=>by
  simp at h;rw[List.zipIdx_cons,Fk,Pf vs (k+1) o _ (by simp;omega)];simp only[Array.toList_setIfInBounds];apply Dz;intro i;rw[Ga _ _ _ _ (by simp;omega),Ga _ _ _ _ (by simp;omega)];simp only[Al,List.getElem?_set]
  by_cases h1:i=o+k
  .subst h1;rw[Aj ch,Ap ch];have DF:o+k<cs.size:=by omega
   simp[DF]
  .by_cases h2:o+k<=i/\i<o+k+(vs.length+1)
   .rw[Ap ch,Ap h2,show i-(o+k)=(i-(o+(k+1)))+1 by omega];simp
   .rw[Aj ch,Aj ch,Aj h2]
theorem UR{g:Gh}{w:World}{U:Nat->Prop}{t:Nat->AV}{ρ:Operand->Value}(ht:∀x:Operand,BU g w U (ev t x) (ρ x)){pl pl' : Nat->Option (Nat×Nat)}(ra:∀i p,pl i=some p->pl' i=some p) :
  ∀{ps:List (Nat×Operand)} {cs:List AV} {xs:Array Value} {K:List AV->Prop},CW g w U cs xs.toList->LV pl cs t ps K ->
   ∃dI Yp,K dI/\CW g w U dI Yp.toList/\Instr.fill pl' xs (ps.map fun(i,x)=>(i,ρ x))=some Yp
 | [],cs,xs,K,h,hk=>⟨cs,xs,hk,h,rfl⟩
 |(i,x)::ps,cs,xs,K,h,hk=>by
  unfold LV at hk;split at hk
  .exact hk.elim
  .rename_i o n hp;obtain⟨WE,hk,hn,hr⟩:=NY (ht x) hk;split at hk
   .rename_i Is;have Is:=GE Is;have ES:(ρ x).cells.size=n:=by rw[<-hn];simpa using hr.1
    have qb:cs.length=xs.size:=by simpa using h.1.symm
    have ED:=h.over hr o (by rw[hn];exact Is);have e:=Pf (ρ x).cells.toList 0 o xs (by simp[ES];omega);simp only[GT]at e;rw[<-e]at ED;obtain⟨dI,Yp,k1,k2,k3⟩:=UR ht ra ED hk;refine⟨dI,Yp,k1,k2,?_⟩;simp only[AJ,Instr.fill,ra _ _ hp];have e2:(ρ x).cells.zipIdx.foldl (fun cs (c,j)=>cs.setIfInBounds (o+j) c) xs=((ρ x).cells.toList.zipIdx 0).foldl (fun(cs:Array Value) (p:Value×Nat)=>cs.setIfInBounds (o+p.2) p.1) xs:=by
     rw[<-Array.foldl_toList];simp
    rw[Aj (by simp[ES];omega),e2];exact k3
   .exact hk.elim
theorem NS:∀{l:List AV},Hq l=true->∀a∈l,one a=true
 | [],_,a,h=>by cases h
 |b::r,h,a,ha=>by
  unfold Hq at h;split at h
  .rename_i hb;rcases Ay.1 ha with rfl|ha
   .exact hb
   .exact NS h a ha
  .cases h
theorem CW.vals(h:Hq (vs.map .v)=true):CW g w U (vs.map .v) vs:=by
 refine⟨by simp,fun x hx=>?_,fun i av x h1 h2=>?_⟩
 .have:=NS h (.v x) (Ai.2 ⟨x,hx,rfl⟩)
  simpa[one]using this
 .rw[AG,h2]at h1;simp at h1;subst h1;exact .v _ _
section
variable {P:Program}{T:Ha}(hT:CM P T){h:Nat->HO}{g:Gh}{w:World}{K:AV->Prop}
theorem bM{α β:Type}(P:Program)(w:World)(f:α->Sem β)(f' : α->β):∀(l:List α),(∀a∈l,(f a).run P w=.ok (f' a) w)->(l.mapM f).run P w=.ok (l.map f') w
 | [],_=>rfl
 |a::l,h=>by
  have h1:=h a (Ab ..);have h2:=bM P w f f' l (fun b hb=>h b (Ah _ hb));simp[List.mapM_cons,Sem.run_bind,h1,h2]
theorem SC:∀{fs:List (Nat×Nat)},PQ T fs=true->∀p∈fs,∃n,(T p.1).size=n+1
 | [],_,p,h=>by cases h
 |(t,o)::r,h,p,hp=>by
  unfold PQ at h;split at h
  .cases h
  .rename_i n hn;rcases Ay.1 hp with rfl|hp
   .exact⟨n,hn⟩
   .exact SC h p hp
include hT
theorem Rp{t:Nat}(hd:(T t).d≠.other):∃z,(zeroValue t).run P w=.ok z w/\(T t).zc=z.cells.toList/\(T t).zero=z:=by
 obtain⟨d,i,z,h1,h2,h3,h4,h5,h6,h7,h8⟩:=hT.get hd;exact⟨z,by simp[zeroValue,typeInfo,h3,h4],by rw[TI.zc_cells,h7],h7⟩
theorem Yr{t n:Nat}(h:(T t).size=n+1):∃z,(zeroValue t).run P w=.ok z w/\(T t).zc=z.cells.toList:=by
 rcases hT t with e|e
 .rw[e]at h;cases h
 unfold kZ at e;split at e
 .split at e
  .rename_i d i h1 h2 _ z h3;exact⟨z,by simp[zeroValue,typeInfo,h2,h3],by rw[TI.zc_cells,e]⟩
  .rw[e]at h;cases h
 .rw[e]at h;cases h
theorem jc{ty:Nat}{t:Nat->AV}(ht:∀x:Operand,BU g w (AR h) (ev t x) (ρ x)){ps:Array (Nat×Operand)}(hk:Ry T ty t ps.toList K) :
  BW P h g w (Instr.build ty (ps.map fun(i,x)=>(i,ρ x))) K:=by
 unfold Ry at hk;split at hk
 .exact hk.elim
 .rename_i QD;have fin:∀(dI:List AV) (Yp:Array Value),CW g w (AR h) dI Yp.toList->BU g w (AR h) (.agg dI) (.agg Yp):=fun dI Yp hr=>
   .agg _ _ _ (by simpa using hr.1) (fun i x hx=>hr.2.1 x (Az (by simpa using hx))) (fun i av x h1 h2=>hr.2.2 i av x h1 (by simpa using h2))
  split at hk
  .rename_i fs hs;have hd:(T ty).d≠.other:=by rw[hs];simp
   obtain⟨z,z1,z2,_⟩:=Rp hT (w:=w) hd;split at hk
   .exact hk.elim
   .rename_i ES;obtain⟨fa,u1,u2,u3⟩:=hT.struct hs;have rb:(fa.mapM fun(f:Field)=>(do pure (f.offset,<-sizeOf f.type):Sem (Nat×Nat))).run P w=.ok (fa.map fun f=>(f.offset,(T f.type).size)) w:=by
     rw[Array.mapM_eq_mapM_toList]
     have:=bM P w (fun f:Field=>(do pure (f.offset,<-sizeOf f.type):Sem (Nat×Nat))) (fun f=>(f.offset,(T f.type).size)) fa.toList (fun f hf=>by
      obtain⟨n,hn⟩:=SC ES (f.type,f.offset) (by rw[u2];exact Ai.2 ⟨f,hf,rfl⟩);simp[hT.size1 w hn,hn])
     simp only[Sem.run_map,this,Result.andThen_ok]
     congr 1
     apply PG;simp
    rw[z2]at hk QD;obtain⟨dI,Yp,k1,k2,k3⟩:=UR ht (pl':=fun i=>(fa.map fun f=>(f.offset,(T f.type).size))[i]?) (fun i p hp=>by
     split at hp
     .rename_i t' o hf;cases hp;obtain⟨fa',fd,v1,v2,rfl,rfl⟩:=UV hT hs hf;rw[u1]at v1;cases v1;simp[v2]
     .cases hp) (CW.vals (vs:=z.cells.toList) QD) hk
    refine⟨_,_,?_,k1,fin dI Yp k2⟩;simp only[Instr.build,Sem.run_bind,z1,Result.andThen_ok,run_underlying u1,rb];have e3:(Array.map (fun x:Nat×Operand=>match x with|(i,x)=>(i,ρ x)) ps).toList=ps.toList.map fun(i,x)=>(i,ρ x):=by simp
    rw[e3];rw[k3]
    rfl
  .rename_i n e hs;have hd:(T ty).d≠.other:=by rw[hs];simp
   obtain⟨z,z1,z2,_⟩:=Rp hT (w:=w) hd;split at hk
   .exact hk.elim
   .rename_i m hm;rw[z2]at hk QD;obtain⟨dI,Yp,k1,k2,k3⟩:=UR ht (pl':=fun i=>some (i*(T e).size,(T e).size)) (fun i p hp=>hp) (CW.vals (vs:=z.cells.toList) QD) hk;refine⟨_,_,?_,k1,fin dI Yp k2⟩;simp only[Instr.build,Sem.run_bind,z1,Result.andThen_ok,run_underlying (hT.array hs),hT.size1 w hm];have e3:(Array.map (fun x:Nat×Operand=>match x with|(i,x)=>(i,ρ x)) ps).toList=ps.toList.map fun(i,x)=>(i,ρ x):=by simp
    rw[e3];simp only[hm]at k3;rw[k3]
    rfl
  .exact hk.elim
end
theorem rr{a b:KS}(h:rp a b=true):a=b:=by
 cases a<;>cases b<;>first|rfl|(simp[rp]at h;done)|(simp only[rp]at h;obtain rfl:=Lu h;rfl)
theorem bH:∀{a b:List KS},Vm a b=true->a=b
 | [],[],_=>rfl
 |x::a,y::b,h=>by
  unfold Vm at h;split at h
  .rename_i e;obtain rfl:=rr e;obtain rfl:=bH h;rfl
  .cases h
 | [],_::_,h=>by simp[Vm]at h
 |_::_,[],h=>by simp[Vm]at h
theorem si{a b:E8}(h:wy a b=true):a=b:=by
 obtain⟨a1,a2⟩:=a;obtain⟨b1,b2⟩:=b;cases a1<;>cases b1<;>simp only[wy]at h<;>first|(obtain rfl:=bH h;rfl)|cases h
section
variable {P:Program}{T:Ha}(hT:CM P T)
include hT
def LH(P:Program)(w:World)(b:Bool)(d t:Nat)(xs:Array Value)(o:Nat):Prop:=
 (do let a <-part t xs o;Instr.checkKey b d t a).run P w=.ok () w
theorem UD(w:World)(b:Bool):∀(n t:Nat) (l:List KS),ID T n t=some l->∀d,n<=d->∀(xs:Array Value) (o:Nat),Kj l (I1 xs.toList o l.length)=true->LH P w b d t xs o
 |0,t,l,h=>by simp[ID]at h
 |n+1,t,l,h=>by
  intro d hd xs o hx;obtain⟨d,rfl⟩:∃d',d=d'+1:=⟨d-1,by omega⟩;have scalar:∀k,(T t).d≠.other->KY (T t).d=false->l=[k]->(∀x,OG k x=true->(Instr.checkKey b (d+1) t x).run P w=.ok () w)->LH P w b (d+1) t xs o:=by
   rintro k bq hs rfl hk
   obtain⟨x,x1,x2,x3⟩:=MJ hx;unfold LH;simp[Sem.run_bind,Eg hT w bq hs xs o _ x1,hk x x2]
  unfold ID at h;split at h
  .rename_i k hk;split at h
   .cases h
    refine scalar _ (by rw[hk];simp) (by rw[hk];rfl) rfl (fun x hx=>?_);cases x<;>simp[OG]at hx
    simp[Instr.checkKey,run_underlying (hT.int hk)]
   .cases h
  .rename_i hk;split at h
   .cases h
    refine scalar _ (by rw[hk];simp) (by rw[hk];rfl) rfl (fun x hx=>?_);cases x<;>simp[OG]at hx
    simp[Instr.checkKey,run_underlying (hT.string hk)]
   .cases h
  .rename_i hk;split at h
   .cases h
    refine scalar _ (by rw[hk];simp) (by rw[hk];rfl) rfl (fun x hx=>?_);cases x<;>simp[OG]at hx
    simp[Instr.checkKey,run_underlying (hT.bool hk)]
   .cases h
  .rename_i fs hk;split at h
   .split at h
    .rename_i l' Lt;split at h
     .rename_i CH;cases h;have CH:=AL CH;have bq:(T t).d≠.other:=by rw[hk];simp
      have hs:KY (T t).d=true:=by rw[hk];rfl
      obtain⟨fa,u1,u2,u3⟩:=hT.struct hk;rw[u2]at Lt;have ex:(xs.extract o (o+(T t).size)).toList=I1 xs.toList o l.length:=by
       rw[<-CH];simp[I1]
      have s0:I1 (I1 xs.toList o l.length) 0 l.length=I1 xs.toList o l.length:=by
       rw[io _ _ _ _ _ ch];rfl
      unfold LH;simp only[Sem.run_bind,Hj hT w bq hs,Result.andThen_ok];have ih:=UD w b n;have hq:Kj l (I1 (xs.extract o (o+(T t).size)).toList 0 l.length)=true:=by rw[ex,s0];exact hx
      generalize xs.extract o (o+(T t).size)=ys at hq;simp only[Instr.checkKey,Sem.run_bind,run_underlying u1,Result.andThen_ok];rw[<-Array.forIn_toList]
      clear u2 hk
      have key : ∀ (fl:List Field) (m:Nat) (l:List KS), Pe (ID T n) m (fl.map fun f => (f.type, f.offset)) = some l->(∀ f ∈ fl, f.name ≠ "_")->Kj l (I1 ys.toList m l.length) = true ->
        (forIn fl PUnit.unit (fun (f:Field) (_:PUnit) => ((if f.name ≠ "_" then (do
         let x <-part f.type ys f.offset
         Instr.checkKey b d f.type x
         pure (ForInStep.yield PUnit.unit))else pure (ForInStep.yield PUnit.unit)):Sem (ForInStep PUnit)))).run P w=.ok PUnit.unit w:=by
       intro fl
       induction fl with
       |nil=>intro m l _ _ _;rfl
       |cons f fl ihf=>
        intro m l hg hn hy;obtain⟨ho,a,c,ha,hc,rfl⟩:=OA hg;rw[Ac]at hy;obtain⟨y1,y2⟩:=TV hy;rw[Re _ _ _ _ ch]at y1;rw[Rd,HE]at y2;have h1:=ih f.type a ha d ch ys m y1;unfold LH at h1;rw[List.forIn_cons];simp only[Sem.run_bind,Ap (hn f (Ab ..))];simp only[Sem.run_bind]at h1;rw[ho];generalize (part f.type ys m).run P w=r1 at h1⊢;cases r1 with
        |halt x w1=>cases h1
        |ok u w1=>
         simp only[Result.andThen_ok]at h1⊢;rw[h1];simp only[Result.andThen_ok,Sem.run_pure];exact ihf (m+a.length) c hc (fun f hf=>hn f (Ah _ hf)) y2
      rw[key fa.toList 0 l Lt u3 hq]
      rfl
     .cases h
    .cases h
   .cases h
  .cases h
theorem o6(hs:IU T kt=some sh)(w:World)(hx:X8 sh x=true)(hy:X8 sh y=true) :
  ∃b:Bool,(Op.equal kt x y).run P w=.ok b w/\(b=true↔x=y):=by
 unfold IU at hs;split at hs
 .rename_i fs hk;split at hs
  .rename_i l hl;cases hs;cases x<;>simp only[X8]at hx<;>try (cases hx;done)
   cases y<;>simp only[X8]at hy<;>try (cases hy;done)
   rename_i xs ys;have hd:(T kt).d≠.other:=by rw[hk];simp
   have ha:KY (T kt).d=true:=by rw[hk];rfl
   have CH:l.length=(T kt).size:=by
    unfold ID at hl;rw[hk]at hl;dsimp only at hl;split at hl
    .split at hl
     .split at hl
      .rename_i e;cases hl;exact AL e
      .cases hl
     .cases hl
    .cases hl
   have s0:∀zs:Array Value,Kj l zs.toList=true->I1 zs.toList 0 l.length=zs.toList:=fun zs hz=>by
    have:=MA hz
    simp only[I1,List.drop_zero];rw[Av ch]
   have ex:∀zs:Array Value,Kj l zs.toList=true->zs.extract 0 (0+(T kt).size)=zs:=fun zs hz=>by
    have:=MA hz
    rw[<-CH,<-this];simp
   obtain⟨b,b1,b2⟩:=YW hT w 8 kt l hl 10000 ch xs ys 0 (by rw[s0 _ hx];exact hx) (by rw[s0 _ hy];exact hy);simp only[Sem.run_bind,Hj hT w hd ha,Result.andThen_ok,ex _ hx,ex _ hy]at b1;rw[s0 _ hx,s0 _ hy]at b2;refine⟨b,b1,b2.trans ⟨fun e=>by rw[PG e],fun e=>by cases e;rfl⟩⟩
  .cases hs
 .rename_i Ok;split at hs
  .rename_i l hl;cases hs;have M6:Kj l [x]=true:=by cases x<;>exact hx
   have hy' : Kj l [y]=true:=by cases y<;>exact hy
   have single:∀k,l=[k]->OG k x=true/\OG k y=true:=by
    rintro k rfl
    unfold Kj at M6 hy';split at M6
    .split at hy'
     .exact⟨‹_›,‹_›⟩
     .cases hy'
    .cases M6
   have e9:Op.equal kt x y=Op.equalIn (9999+1) kt x y:=rfl;rw[e9];unfold ID at hl;split at hl
   .rename_i k hk;split at hl
    .cases hl
     obtain⟨h1,h2⟩:=single _ rfl;cases x<;>simp[OG]at h1
     cases y<;>simp[OG]at h2
     obtain rfl:=Lu h1;obtain rfl:=Lu h2;exact⟨_,run_equalIn_int w 9999 kt _ _ _ _ (hT.int hk),by simp⟩
    .cases hl
   .rename_i hk;split at hl
    .cases hl
     obtain⟨h1,h2⟩:=single _ rfl;cases x<;>simp[OG]at h1
     cases y<;>simp[OG]at h2
     exact⟨_,run_equalIn_string w 9999 kt _ _ (hT.string hk),by rw[KR];simp⟩
    .cases hl
   .rename_i hk;split at hl
    .cases hl
     obtain⟨h1,h2⟩:=single _ rfl;cases x<;>simp[OG]at h1
     cases y<;>simp[OG]at h2
     exact⟨_,run_equalIn_bool' w 9999 kt _ _ (hT.bool hk),by simp⟩
    .cases hl
   .rename_i fs hk;exact absurd hk (Ok fs)
   .cases hl
  .cases hs
theorem NN(hs:IU T kt=some sh)(w:World)(b:Bool)(hx:X8 sh x=true):(Instr.checkKey b 10000 kt x).run P w=.ok () w:=by
 unfold IU at hs;split at hs
 .rename_i fs hk;split at hs
  .rename_i l hl;cases hs;cases x<;>simp only[X8]at hx<;>try (cases hx;done)
   rename_i xs;have hd:(T kt).d≠.other:=by rw[hk];simp
   have ha:KY (T kt).d=true:=by rw[hk];rfl
   have CH:l.length=(T kt).size:=by
    unfold ID at hl;rw[hk]at hl;dsimp only at hl;split at hl
    .split at hl
     .split at hl
      .rename_i e;cases hl;exact AL e
      .cases hl
     .cases hl
    .cases hl
   have:=MA hx
   have h0:I1 xs.toList 0 l.length=xs.toList:=by
    simp only[I1,List.drop_zero];rw[Av ch]
   have h1:=UD hT w b 8 kt l hl 10000 ch xs 0 (by rw[h0];exact hx);unfold LH at h1;simp only[Sem.run_bind,Hj hT w hd ha,Result.andThen_ok]at h1;have ex:xs.extract 0 (0+(T kt).size)=xs:=by rw[<-CH,<-this];simp
   rw[ex]at h1;exact h1
  .cases hs
 .rename_i Ok;split at hs
  .rename_i l hl;cases hs;have key:∀d,(Instr.checkKey b (d+1) kt x).run P w=.ok () w:=by
    intro d;unfold ID at hl;split at hl
    .rename_i k hk;simp[Instr.checkKey,run_underlying (hT.int hk)]
    .rename_i hk;simp[Instr.checkKey,run_underlying (hT.string hk)]
    .rename_i hk;simp[Instr.checkKey,run_underlying (hT.bool hk)]
    .rename_i fs hk;exact absurd hk (Ok fs)
    .cases hl
   exact key 9999
  .cases hs
end
def Oo(x:Value)(es:List MapEntry)(i:Nat)(r:Option (Nat×Value)):Prop:=
 (r=none/\∀e∈es,e.key≠x)\/∃(j:Nat) (e:MapEntry),r=some (i+j,e.val)/\es[j]?=some e/\e.key=x
theorem Oo.here{es:List MapEntry}(h:e.key=x):Oo x (e::es) i (some (i,e.val)):=
 .inr ⟨0,e,rfl,rfl,h⟩
theorem Oo.there{es:List MapEntry}{r:Option (Nat×Value)}(h:e.key≠x)(k:Oo x es (i+1) r):Oo x (e::es) i r:=by
 rcases k with ⟨h1,h2⟩|⟨j,e',h1,h2,h3⟩
 .exact .inl ⟨h1,fun d hd=>(Ay.1 hd).elim (fun e'=>e'▸h) (h2 d)⟩
 .exact .inr ⟨j+1,e',by rw[h1,Hc,Nat.add_comm 1 j],h2,h3⟩
theorem US{kind:TypeDesc}{x:Value}:∀(es:List MapEntry) (i:Nat),(∀e∈es,∃b,Instr.sameNow kind x e.key=some b/\(b=true↔x=e.key))->∃r,Instr.findNow kind x es i=some r/\Oo x es i r
 | [],i,_=>⟨none,rfl,.inl ⟨rfl,fun _ h=>by cases h⟩⟩
 |e::es,i,h=>by
  obtain⟨b,b1,b2⟩:=h e (Ab ..);cases b with
  |true=>exact⟨_,by simp[Instr.findNow,b1],.here (b2.1 rfl).symm⟩
  |false=>
   obtain⟨r,r1,r2⟩:=US es (i+1) (fun d hd=>h d (Ah _ hd));exact⟨r,by simp[Instr.findNow,b1,r1],.there (fun e'=>by have:=b2.2 e'.symm;cases this) r2⟩
section
variable {P:Program}{T:Ha}(hT:CM P T)
include hT
theorem Oy{kt:Nat}{sh:E8}(hs:IU T kt=some sh)(w:World){x:Value}(hx:X8 sh x=true) :
  ∀(es:List MapEntry) (i:Nat),(∀e∈es,X8 sh e.key=true)->∃r,(Instr.findAsking kt x es i).run P w=.ok r w/\Oo x es i r
 | [],i,_=>⟨none,rfl,.inl ⟨rfl,fun _ h=>by cases h⟩⟩
 |e::es,i,h=>by
  obtain⟨b,b1,b2⟩:=o6 hT hs w hx (h e (Ab ..));cases b with
  |true=>exact⟨_,by simp[Instr.findAsking,b1],.here (b2.1 rfl).symm⟩
  |false=>
   obtain⟨r,r1,r2⟩:=Oy hs w hx es (i+1) (fun d hd=>h d (Ah _ hd));exact⟨r,by simp[Instr.findAsking,b1,r1],.there (fun e'=>by have:=b2.2 e'.symm;cases this) r2⟩
theorem Py(hs:IU T kt=some sh)(w:World)(hx:X8 sh x=true)(es:List MapEntry)(he:∀e∈es,X8 sh e.key=true) :
  ∃r,(Instr.findKey kt x es).run P w=.ok r w/\Oo x es 0 r:=by
 have uo:∀d,P.underlying kt=some d->Instr.findNow d x es 0=none->∃r,(Instr.findKey kt x es).run P w=.ok r w/\Oo x es 0 r:=by
  intro d hd hn;obtain⟨r,r1,r2⟩:=Oy hT hs w hx es 0 he;exact⟨r,by simp[Instr.findKey,run_underlying hd,hn,r1],r2⟩
 have now:∀d,P.underlying kt=some d->(∀e∈es,∃b,Instr.sameNow d x e.key=some b/\(b=true↔x=e.key))->∃r,(Instr.findKey kt x es).run P w=.ok r w/\Oo x es 0 r:=by
  intro d hd hn;obtain⟨r,r1,r2⟩:=US es 0 hn;exact⟨r,by simp[Instr.findKey,run_underlying hd,r1],r2⟩
 have ZU:=hs;unfold IU at ZU;split at ZU
 .rename_i fs hk;obtain⟨fa,u1,_⟩:=hT.struct hk;cases es with
  |nil=>exact⟨none,by simp[Instr.findKey,run_underlying u1,Instr.findNow],.inl ⟨rfl,fun _ h=>by cases h⟩⟩
  |cons e es=>
   refine uo _ u1 ?_;split at ZU
   .cases ZU
    cases x<;>simp only[X8]at hx<;>try (cases hx;done)
    simp[Instr.findNow,Instr.sameNow]
   .cases ZU
 .rename_i Ok;split at ZU
  .rename_i l hl;cases ZU;have cv:∀y,X8 ⟨false,l⟩ y=true->Kj l [y]=true:=fun y hy=>by cases y<;>exact hy
   have M6:=cv x hx;have he' : ∀e∈es,Kj l [e.key]=true:=fun e h=>cv _ (he e h)
   clear hx he cv
   have single:∀k y,l=[k]->Kj l [y]=true->OG k y=true:=by
    rintro k y rfl h
    unfold Kj at h;split at h
    .assumption
    .cases h
   unfold ID at hl;split at hl
   .rename_i k hk;split at hl
    .cases hl
     refine now _ (hT.int hk) (fun e h=>?_);have h1:=single _ _ rfl M6;have h2:=single _ _ rfl (he' e h);generalize e.key=y at h2;cases x<;>simp[OG]at h1
     cases y<;>simp[OG]at h2
     obtain rfl:=Lu h1;obtain rfl:=Lu h2;exact⟨_,by simp[Instr.sameNow];rfl,by simp⟩
    .cases hl
   .rename_i hk;split at hl
    .cases hl
     refine now _ (hT.string hk) (fun e h=>?_);have h1:=single _ _ rfl M6;have h2:=single _ _ rfl (he' e h);generalize e.key=y at h2;cases x<;>simp[OG]at h1
     cases y<;>simp[OG]at h2
     exact⟨_,by simp[Instr.sameNow];rfl,by rw[beq_toListBytes,KR];simp⟩
    .cases hl
   .rename_i hk;split at hl
    .cases hl
     refine now _ (hT.bool hk) (fun e h=>?_);have h1:=single _ _ rfl M6;have h2:=single _ _ rfl (he' e h);generalize e.key=y at h2;cases x<;>simp[OG]at h1
     cases y<;>simp[OG]at h2
     exact⟨_,by simp[Instr.sameNow];rfl,by simp⟩
    .cases hl
   .rename_i fs hk;exact absurd hk (Ok fs)
   .cases hl
  .cases ZU
end
theorem To{P:Program}(w:World)(hx:X8 sh x=true):(Instr.keyThatStays x x).run P w=.ok x w:=by
 have scalar:∀(k:KS) (y:Value) (n:Nat),OG k y=true->Instr.sameBits n y y=true:=by
  intro k y n h;cases k<;>cases y<;>simp[OG]at h<;>cases n<;>simp[Instr.sameBits,beq_toListBytes]
 have lst:∀(l:List KS) (ys:List Value) (n:Nat),Kj l ys=true->((ys.zip ys).all fun(a,b)=>Instr.sameBits n a b)=true:=by
  intro l ys n
  induction ys generalizing l with
  |nil=>intro _;rfl
  |cons y ys ih=>
   intro h;cases l with
   |nil=>simp[Kj]at h
   |cons k l=>
    unfold Kj at h;split at h
    .rename_i hk;simp only[List.zip_cons_cons,List.all_cons,scalar k y n hk,E4];exact ih l h
    .cases h
 have h1:∀n,Instr.sameBits (n+1) x x=true:=by
  intro n;obtain⟨ag,l⟩:=sh;cases ag with
  |true=>
   cases x<;>simp only[X8]at hx<;>try (cases hx;done)
   have:=lst l _ n hx
   simp only[Instr.sameBits,beq_self_eq_true,E4];exact this
  |false=>
   have M6:Kj l [x]=true:=by cases x<;>exact hx
   cases l with
   |nil=>simp[Kj]at M6
   |cons k l=>
    unfold Kj at M6;split at M6
    .rename_i hk;exact scalar k x (n+1) hk
    .cases M6
 have:=h1 9999
 simp only[Instr.keyThatStays];rw[Ap this]
 rfl
theorem Yn:∀{cs:List AV} {l:List Value},ZK cs=some l->cs=l.map .v
 | [],l,h=>by cases h;rfl
 |a::r,l,h=>by
  cases a<;>simp only[ZK]at h<;>try (cases h;done)
  split at h
  .rename_i l' hl;cases h;rw[Yn hl];rfl
  .cases h
theorem rk(h:BU g w U a x)(hk:vQ a=some y):x=y:=by
 unfold vQ at hk;split at hk
 .cases hk;exact h.v_eq
 .split at hk
  .rename_i l hl;cases hk;obtain rfl:=Yn hl;exact h.agg_vals
  .cases hk
 .cases hk
theorem N3{T:Ha}{ty:Nat}{K:Value->Prop}(h:BU g w U a x)(hk:Lw T ty sh a K) :
  ∃kt e,(T ty).d=.map kt e/\IU T kt=some sh/\X8 sh x=true/\K x:=by
 unfold Lw at hk;split at hk
 .rename_i kt e ht;split at hk
  .rename_i sh' hs;split at hk
   .rename_i heq;obtain rfl:=si heq;split at hk
    .rename_i kx Rs;obtain rfl:=rk h Rs;split at hk
     .rename_i hb;exact⟨kt,e,ht,hs,hb,hk⟩
     .exact hk.elim
    .exact hk.elim
   .exact hk.elim
  .exact hk.elim
 .exact hk.elim
theorem H8.shape(h:H8 sh es ck Ch):∀e∈es.toList,X8 sh e.key=true:=by
 intro e he;obtain⟨h1,h2,h3,_⟩:=h;obtain⟨i,hi⟩:=Ct.1 he;have DF:i<Ch.length:=by rw[<-h1];have:=(Aw.1 hi).1;simpa using this
 rw[h2 i Ch[i] e (AD DF) (by simpa using hi)];exact h3 _ (Ao DF)
theorem H8.none(h:H8 sh es ck Ch)(hn:∀e∈es.toList,e.key≠x)(a:AV):(x,a)∉Ch:=by
 intro hm;obtain⟨h1,h2,_⟩:=h;obtain⟨i,hi⟩:=Ct.1 hm;have DF:i<es.size:=by rw[h1];exact(Aw.1 hi).1
 exact hn es[i] B0 (h2 i _ es[i] hi (by simp[DF]))
theorem H8.some{sh:E8}{es:Array MapEntry}{ck:Nat}{Ch:List (Value×AV)}(h:H8 sh es ck Ch){x:Value}{j:Nat}{e:MapEntry}(he:es.toList[j]?=some e)(hk:e.key=x) :
  ∃a,Ch[j]?=some (x,a)/\(x,a)∈Ch:=by
 obtain⟨h1,h2,_⟩:=h;have DF:j<Ch.length:=by rw[<-h1];have:=(Aw.1 he).1;simpa using this
 have hg:Ch[j]?=Option.some Ch[j]:=AD DF
 have:=h2 j Ch[j] e hg (by simpa using he)
 have e2:Ch[j]=(x,Ch[j].2):=by rw[<-hk,this]
 exact⟨Ch[j].2,by rw[hg];exact Aa _ e2,by rw[<-e2];exact Ao DF⟩
section
variable {P:Program}{T:Ha}(hT:CM P T){h:Nat->HO}{g:Gh}{w:World}{K:AV->Prop}
section
include hT
theorem Yq{t:Nat}(hk:LD T t K):BW P h g w (zeroValue t) K:=by
 unfold LD at hk;split at hk
 .exact hk.elim
 .rename_i hd;obtain⟨z,z1,z2,z3⟩:=Rp hT (w:=w) hd;rw[z3]at hk;split at hk
  .rename_i cs;split at hk
   .rename_i ha;have hr:=CW.vals (g:=g) (w:=w) (U:=AR h) ha;exact⟨_,_,z1,hk,.agg _ _ _ B0 (fun i x hx=>hr.2.1 x (Az (by simpa using hx))) (fun i av x h1 h2=>hr.2.2 i av x h1 (by simpa using h2))⟩
   .exact hk.elim
  .exact⟨_,_,z1,hk,.v _ _⟩
theorem Lh{ty b:Nat}{kt e:Nat}{ck:Nat}{Ch:List (Value×AV)}(ht:(T ty).d=.map kt e)(hs:IU T kt=some sh)(hx:X8 sh x=true)(hb:w.heap[b]?=some (.map es ck))(hm:H8 sh es ck Ch)(hv:∀(i:Nat) (kv:Value×AV) (e:MapEntry),Ch[i]?=some kv->es[i]?=some e->BU g w (AR h) kv.2 e.val)(hk:Nw T ty ok Ch x K):BW P h g w (Instr.lookup ty (.map (some b)) x ok) K:=by
 have hu:=hT.map ht;have FI:=run_getObj_map (P:=P) w b es ck hb;have Ws:=fun bb=>NN hT hs w bb hx;obtain⟨r,r1,r2⟩:=Py hT hs w hx es.toList hm.shape;unfold Nw at hk;rw[ht]at hk;dsimp only at hk;rcases r2 with ⟨rfl,hn⟩|⟨j,en,rfl,hj,hkey⟩
 .have bw:=fun a=>hm.none hn a;cases ok with
  |true=>
   obtain⟨y,av,y1,y2,y3⟩:=Yq hT (K:=fun z=>K (.tup [z,.v (.bool false)])) (P:=P) (h:=h) (g:=g) (w:=w) (hk.2 bw);refine⟨.tuple #[y,.bool false],_,?_,y2,.tup _ _ _ rfl (fun i a x h1 h2=>?_)⟩
   .simp[Instr.lookup,run_underlying hu,FI,Ws,r1,y1]
   .match i,h1,h2 with
    |0,h1,h2=>simp at h1 h2;subst h1;subst h2;exact y3
    |1,h1,h2=>simp at h1 h2;subst h1;subst h2;exact .v _ _
  |false=>
   obtain⟨y,av,y1,y2,y3⟩:=Yq hT (K:=K) (P:=P) (h:=h) (g:=g) (w:=w) (hk.2 bw);exact⟨y,av,by simp[Instr.lookup,run_underlying hu,FI,Ws,r1,y1],y2,y3⟩
 .obtain⟨a,a1,a2⟩:=hm.some hj hkey;have hr:=hv j (x,a) en a1 (by simpa using hj);cases ok with
  |true=>
   refine⟨.tuple #[en.val,.bool true],_,?_,hk.1 a a2,.tup _ _ _ rfl (fun i av y h1 h2=>?_)⟩
   .simp[Instr.lookup,run_underlying hu,FI,Ws,r1]
   .match i,h1,h2 with
    |0,h1,h2=>simp at h1 h2;subst h1;subst h2;exact hr
    |1,h1,h2=>simp at h1 h2;subst h1;subst h2;exact .v _ _
  |false=>exact⟨en.val,a,by simp[Instr.lookup,run_underlying hu,FI,Ws,r1],hk.1 a a2,hr⟩
theorem eG(ho:∀r,Ez g w (AR h) r (h r)){ty:Nat}{m k:AV}{vm vk:Value}(hm:BU g w (AR h) m vm)(hx:BU g w (AR h) k vk)(hk:N5 T h ty m k ok K) :
  BW P h g w (Instr.lookup ty vm vk ok) K:=by
 unfold N5 at hk;split at hk
 .obtain⟨kt,e,k1,k2,k3,k4⟩:=N3 hx hk;cases hm with
  |cmap _ _ _ b es ck hS hb hmm hv=>exact Lh hT k1 k2 k3 hb hmm (fun i kv e p q=>(hv i kv e p q).up _) k4
 .rename_i r;have hr:=ho r;cases hm with
  |mref _ _ b hu ht hp=>
   split at hk
   .rename_i sh Ch e;rw[e]at hr;obtain⟨_,b',es,ck,a1,a2,a3,a4,a5,a6⟩:=hr;rw[a2]at hp;cases hp;obtain⟨kt,e,k1,k2,k3,k4⟩:=N3 hx hk;exact Lh hT k1 k2 k3 a3 a4 (fun i kv e p q=>(a5 i kv e p q).up _) k4
   .rename_i sh Ch e;rw[e]at hr;obtain⟨_,b',es,ck,a1,a2,a3,a4,a5,a6⟩:=hr;rw[a2]at hp;cases hp;obtain⟨kt,e,k1,k2,k3,k4⟩:=N3 hx hk;exact Lh hT k1 k2 k3 a3 a4 a5 k4
   .rename_i sh Ch e;rw[e]at hr;obtain⟨_,b',a1,a2⟩:=hr;rw[a1]at hp;cases hp;obtain⟨kt,e,k1,k2,k3,k4⟩:=N3 hx hk;cases a2 with
    |cmap _ _ _ _ es ck hS hb hmm hv=>exact Lh hT k1 k2 k3 hb hmm (fun i kv e p q=>(hv i kv e p q).up _) k4
   .exact hk.elim
 .exact hk.elim
omit hT in
theorem Qx{ty:Nat}{Ch:List (Value×AV)}{kx:Value}(hk:Nv T ty ok Ch kx K):Nw T ty ok Ch kx K:=by
 unfold Nv at hk;unfold Nw;split at hk
 .rename_i e;split at hk
  .rcases hk with ⟨a,⟨h1,h2⟩,h3⟩|⟨h1,h2⟩
   .exact⟨fun b hb=>by rw[h2 b hb];exact h3,fun hn=>absurd h1 (hn a)⟩
   .exact⟨fun b hb=>absurd hb (h1 b),fun _=>h2⟩
  .rcases hk with ⟨a,⟨h1,h2⟩,h3⟩|⟨h1,h2⟩
   .exact⟨fun b hb=>by rw[h2 b hb];exact h3,fun hn=>absurd h1 (hn a)⟩
   .exact⟨fun b hb=>absurd hb (h1 b),fun _=>h2⟩
 .exact hk.elim
omit hT in
theorem N2{ty:Nat}{k:AV}{A B:Value->Prop}(hk:Lw T ty sh k A)(dW:∀x,A x->B x):Lw T ty sh k B:=by
 unfold Lw at *
 repeat' split at hk
 all_goals first|exact hk.elim|skip
 simp_all
omit hT in
theorem jU{ty:Nat}{m k:AV}(hk:N4 T h ty m k ok K):N5 T h ty m k ok K:=by
 unfold N4 at hk;unfold N5;split at hk
 .exact N2 hk fun _=>Qx
 .split at hk
  .exact N2 hk fun _=>Qx
  .exact N2 hk fun _=>Qx
  .exact N2 hk fun _=>Qx
  .exact hk.elim
 .exact hk.elim
theorem nL(ho:∀r,Ez g w (AR h) r (h r)){t ty:Nat}{x:AV}(hx:BU g w (AR h) x vx)(hk:SZ T t h x K):BW P h g w (Builtin.len_ #[t] ty #[vx]) K:=by
 unfold SZ at hk;split at hk
 .rename_i e ht;have hu:=hT.slice ht;have run:∀a n c,(Builtin.len_ #[t] ty #[.slice a n c]).run P w=.ok (.int .i64 n) w:=fun a n c=>by simp[Builtin.len_,run_underlying hu,goInt]
  split at hk
  .have hs:=hx.slice_none;cases hs with
   |snil _ a cap=>exact⟨_,_,run a 0 cap,hk,.v _ _⟩
   |slice _ _ b off sz cap val hc=>exact⟨_,_,run _ _ _,hk,.v _ _⟩
  .cases hx with
   |msl=>exact⟨_,_,run _ _ _,hk,.v _ _⟩
  .obtain rfl:=hx.v_eq;exact⟨_,_,run _ _ _,hk,.v _ _⟩
  .exact hk.elim
 .rename_i ht;split at hk
  .obtain rfl:=hx.v_eq;exact⟨_,_,by simp[Builtin.len_,run_underlying (hT.string ht),goInt],hk,.v _ _⟩
  .exact hk.elim
 .rename_i k e ht;have hu:=hT.map ht;have run:∀b es ck,w.heap[b]?=some (.map es ck)->(Builtin.len_ #[t] ty #[.map (some b)]).run P w=.ok (.int .i64 es.size) w:=fun b es ck hb=>by
   simp[Builtin.len_,run_underlying hu,goInt,run_getObj_map (P:=P) w b es ck hb]
  split at hk
  .cases hx with
   |cmap _ _ _ b es ck hS hb hmm hv=>exact⟨_,_,run b es ck hb,by rw[hmm.1];exact hk,.v _ _⟩
  .rename_i r;have hr:=ho r;cases hx with
   |mref _ _ b nu ht' hp=>
    split at hk
    .rename_i sh Ch e;rw[e]at hr;obtain⟨_,b',es,ck,a1,a2,a3,a4,a5,a6⟩:=hr;rw[a2]at hp;cases hp;exact⟨_,_,run _ es ck a3,by rw[a4.1];exact hk,.v _ _⟩
    .rename_i sh Ch e;rw[e]at hr;obtain⟨_,b',es,ck,a1,a2,a3,a4,a5,a6⟩:=hr;rw[a2]at hp;cases hp;exact⟨_,_,run _ es ck a3,by rw[a4.1];exact hk,.v _ _⟩
    .rename_i sh Ch e;rw[e]at hr;obtain⟨_,b',a1,a2⟩:=hr;rw[a1]at hp;cases hp;cases a2 with
     |cmap _ _ _ _ es ck hS hb hmm hv=>exact⟨_,_,run _ es ck hb,by rw[hmm.1];exact hk,.v _ _⟩
    .exact hk.elim
  .exact hk.elim
 .exact hk.elim
end
theorem Zo(ho:∀r,Ez g w (AR h) r (h r)){t:Nat->AV}(ht:∀x:Operand,BU g w (AR h) (ev t x) (ρ x)){fn:Fn}{first cap:Array Operand}(hk:LY t h fn first.toList cap.toList K) :
  BW P h g w (Instr.makeFunc fn (first.map ρ) (cap.map ρ)) K:=by
 unfold LY at hk;split at hk
 .rename_i f e;have hf:first=#[]:=by
   apply PG;simpa using e
  subst hf;refine⟨_,_,rfl,hk,?_⟩;have e0:Array.map ρ (#[]:Array Operand)=#[]:=by simp
  rw[e0];refine .clo _ f (cap.toList.map fun x=>rsv h (ev t x)) (cap.map ρ) B0 (fun i av x h1 h2=>?_);rw[AG,AX]at h1;obtain⟨y,y1,rfl⟩:=h1;rw[PH,AX]at h2;obtain⟨z,z1,rfl⟩:=h2
  have:y=z:=by
   have:=y1
   rw[A5,z1]at this;exact(Cj this).symm
  subst this;exact(ht y).rsv ho
 .exact hk.elim
theorem Zv{x:AV}(hx:BU g w (AR h) x vx)(hk:L1 x K){pos:String}{after:Array Edge}{gd:Option (Nat×Bool)}{dst:Option Tmp}{ty:Nat}{X:Operand}(hX:ρ X=vx) :
  (execOp ρ ⟨dst,.nilCheck X,ty,pos,after,gd⟩).run P w=.ok (.value vx) w/\K x:=by
 subst hX;unfold L1 at hk;split at hk
 all_goals first
  |exact hk.elim
  |(refine⟨?_,hk⟩;generalize hq:ρ X=q at hx;cases hx;simp[execOp,hq];done)
theorem jt(ho:∀r,Ez g w (AR h) r (h r)){x:AV}(hx:BU g w (AR h) x vx)(hk:dL h x K):BW P h g w (Instr.entry vx) K:=by
 unfold dL at hk;split at hk
 .rename_i r;have hr:=ho r;split at hk
  .rename_i all rem kv e;rw[e]at hr;cases hx with
   |ref _ _ _ b hu ht hp=>
    obtain⟨_,b',mb,Ln,seen,st,es,ck,a1,a2,a3,a4,a5,⟨sh,a6⟩,a7,a8,a9,af,fP,a12,ud⟩:=hr;rw[a2]at hp;cases hp;obtain⟨i,en,c1,c2,c3⟩:=a12;have y9:es.find? (fun e=>e.born == en.born)=some en:=by
     rw[Array.find?_eq_some_iff_getElem];obtain⟨DF,he⟩:=Bv.1 c2;refine⟨by simp,i,DF,he,fun j hj=>?_⟩;have m7:j<es.size:=by omega
     simp only[CK,beq_eq_false_iff_ne,XX];intro e'
     have:=a6.2.2.2.2.2 j i es[j] en (by simp[m7]) c2 e'
     omega
    have hkey:=a6.2.1 i kv en c1 c2;refine⟨.tuple #[en.key,en.val],_,?_,hk,.tup _ _ _ rfl (fun k av y h1 h2=>?_)⟩
    .have WJ:(getObj b).run P w=.ok (.mapIter (some mb) Ln seen st) w:=by simp[getObj,Sem.run,a3]
     have m5:=run_getObj_map (P:=P) w mb es ck a5;simp[Instr.entry,WJ,c3,m5,a8,y9]
    .match k,h1,h2 with
     |0,h1,h2=>simp at h1 h2;subst h1;subst h2;rw[hkey];exact .v _ _
     |1,h1,h2=>simp at h1 h2;subst h1;subst h2;exact(a9 i kv en c1 c2).up _
  .exact hk.elim
 .exact hk.elim
end
end Go.Eng
