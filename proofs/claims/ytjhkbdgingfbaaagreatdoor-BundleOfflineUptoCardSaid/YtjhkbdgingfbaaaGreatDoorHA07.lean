/- Lemmas 7. -/
import Derived.Test.YtjhkbdgingfbaaaGreatDoorHA06
import Derived.Laws.IdiomStrings
import Derived.Lib.BufferRead
namespace Go.Eng
variable {x vx:Value}{U:Nat->Prop}{ρ:Operand->Value}{es:Array MapEntry}{w:World}{sh:EN}{B7:List (Value×AV)}{Hd:Array TypeId}{g:Gh}{ok:Bool}{vs:List Value}{e:MapEntry}{a:AV}{i kt:Nat}{vi vy y:Value}{ck:Nat}
section
variable {P:Program}{T:GV}(hT:Ci P T){h:Nat->HO}{g:Gh}{w:World}{K:AV->Prop}
section
include hT
theorem VP{t:Nat}{x ix:AV}(hx:Br g w (AN h) x vx)(hi:Br g w (AN h) ix vi)(hk:JY T t x ix K):BF P h g w (Instr.indexAt t vx vi) K:=by
 unfold JY at hk;split at hk
 .rename_i e i ht;obtain rfl:=hi.v_eq;have hu:=hT.slice ht;split at hk
  .exact hk.elim
  .rename_i m hm;have CI:∀b off (len cap:Nat),0<=i->i<(len:Int)->(Instr.indexAt t (.slice (some ⟨b,off,none⟩) len cap) (.int .i64 i)).run P w=.ok (.pointer (some ⟨b,off+i.toNat*(T e).size,none⟩)) w:=fun b off len cap h0 h1=>by
    simp[Instr.indexAt,asIntOf,run_underlying hu,h0,h1,hT.size1 w hm,Addr.add_lit,hm]
   split at hk
   .rename_i tk es;obtain⟨cs,⟨h0,h1⟩,h2,hk⟩:=hk;have hs:=hx.slice_none;have Dx:=(Ar.1 h1).1;cases hs with
    |snil=>simp at h1
    |slice _ _ b off sz cap val hc hl Dg D8=>
     have D5:sz=(T e).size:=by rw[<-h2];exact(hl _ _ h1).symm
     subst D5;refine⟨_,_,CI b off es.length cap h0 ch,hk,.cptr _ cs b _ (val i.toNat) (fun j av hj=>?_) (fun j av hj=>D8 _ _ _ _ h1 hj)⟩;exact Dg _ _ _ _ h1 hj
   .rename_i r n;obtain⟨⟨h0,h1⟩,hk⟩:=hk;cases hx with
    |msl _ _ _ a cap my ht' hn ha ME=>
     rcases ha with rfl | ⟨b,rfl⟩
     .omega
     .refine⟨_,_,CI b 0 n cap h0 h1,hk,?_⟩;rw[A7];exact .eref _ r n _ _ 0 b cap my ht' ⟨by omega,hn⟩ (fun e=>(ME e).symm)
   .exact hk.elim
 .rename_i n e i ht;obtain rfl:=hi.v_eq;have hu:=hT.array ht;split at hk
  .exact hk.elim
  .rename_i m hm;have CI:∀b off,0<=i->i<(n:Int)->(Instr.indexAt t (.pointer (some ⟨b,off,none⟩)) (.int .i64 i)).run P w=.ok (.pointer (some ⟨b,off+i.toNat*(T e).size,none⟩)) w:=fun b off h0 h1=>by
    simp[Instr.indexAt,asIntOf,run_underlying hu,h0,h1,hT.size1 w hm,Addr.add_lit,hm,Instr.sureAddr]
   split at hk
   .cases hx with
    |cptr _ _ b off val Dg D8=>exact⟨_,_,CI b off hk.1.1 hk.1.2,hk.2,(Br.cptr _ _ b off val Dg D8).cptr_drop _⟩
   .rename_i r off;cases hx with
    |ref _ _ _ b hu ht hp=>exact⟨_,_,CI b off hk.1.1 hk.1.2,hk.2,.ref _ r _ b hu ht hp⟩
   .exact hk.elim
 .exact hk.elim
theorem iE{t:Nat}{x ix:AV}(hx:Br g w (AN h) x vx)(hi:Br g w (AN h) ix vi)(hk:Uq T t x ix K):BF P h g w (Instr.index t vx vi) K:=by
 unfold Uq at hk;split at hk
 .rename_i s k i ht;obtain rfl:=hx.v_eq;obtain rfl:=hi.v_eq;obtain⟨b,⟨h0,h1⟩,hk⟩:=hk;refine BF.val (x:=.int .u8 b.toNat) ?_ hk;have h2:s[i.toNat]?=some b:=by
   have:=(Be.1 h1)
   obtain⟨l1,l2⟩:=this;have zY : i.toNat<s.size:=l1;rw[getElem?_pos s i.toNat zY];exact Aa some l2
  simp[Instr.index,asIntOf,run_underlying (hT.string ht),h0,h2]
 .rename_i n e cs i ht;obtain rfl:=hi.v_eq;obtain⟨⟨h0,h1⟩,hk⟩:=hk;cases hx with
  |agg _ _ xs a1 a2 a3=>
   have hd:(T e).d≠.other:=by
    intro e';unfold bl Mw at hk;rw[e']at hk;exact hk.elim
   obtain⟨y,av,p1,p2,p3⟩:=bm hT (Y7.of_agg (.agg _ _ xs a1 a2 a3) _) hk;refine⟨y,av,?_,p2,p3⟩;simp[Instr.index,asIntOf,run_underlying (hT.array ht),h0,h1,hT.size w hd,p1]
 .exact hk.elim
theorem Zs{s t:Nat}{x:AV}(hx:Br g w (AN h) x vx)(hk:Wn T s t x K):BF P h g w (convert s t vx) K:=by
 unfold Wn at hk;split at hk
 .rename_i k n h1 h2;obtain rfl:=hx.v_eq;refine BF.val (x:=.int .i64 n) ?_ hk.2;have hw:=NP hk.1;simp[convert,run_underlying (hT.int h1),run_underlying (hT.int h2),Conv.intToInt,hw]
 .rename_i k k' m n Dv h1 h2;obtain rfl:=hx.v_eq;refine BF.val (x:=.int k' (k'.wrap n)) ?_ hk;simp[convert,run_underlying (hT.int h1),run_underlying (hT.int h2),Conv.intToInt]
 .rename_i s' h1 h2;obtain rfl:=hx.v_eq;refine BF.val (x:=.string s') ?_ hk;simp[convert,run_underlying (hT.string h1),run_underlying (hT.string h2)]
 .rename_i e tk es h1 h2;split at hk
  .rename_i h3;obtain⟨l,rfl,hk⟩:=hk;have hr:=hx.slice_none;refine BF.val (x:=.string ⟨l.toArray⟩) ?_ hk;generalize hes:l.map (fun b=>[AV.v (.int .u8 b.toNat)])=es at hr;cases hr with
   |snil _ a cap=>
    have hl:l=[]:=by cases l with | nil=>rfl | cons b l=>cases hes
    subst hl;cases a with
    |none=>exact Lib.run_convert_nil_bytes w s t e cap (hT.slice h1) (hT.int h3) (hT.string h2)
    |some a=>exact run_convert_bytes_back w s t e a cap [] (hT.slice h1) (hT.int h3) (hT.string h2) (fun j hj=>by simp at hj)
   |slice _ _ b off sz cap val hc hl Dg D8=>
    have Ca:l.length=es.length:=by rw[<-hes];simp
    have:=run_convert_bytes_back (P:=P) w s t e ⟨b,off,none⟩ cap l (hT.slice h1) (hT.int h3) (hT.string h2) (fun j hj=>by
     have hg:es[j]?=some [AV.v (.int .u8 l[j].toNat)]:=by rw[<-hes,Aw,At hj];rfl
     have PJ:sz=1:=(hl j _ hg).symm;have h4:=Dg j _ 0 _ hg rfl;have h5:=D8 j _ 0 _ hg rfl;rw[Addr.add_lit];rw[PJ,IX,DX]at h4;rw[h4.2.1,h5.v_eq])
    rw[Ca]at this;exact this
  .exact hk.elim
 .exact hk.elim
end
theorem oq{op:UnOp}{x:AV}(hx:Br g w (AN h) x vx)(hk:bA op x K):BF P h g w (Op.unary op vx) K:=by
 unfold bA at hk;split at hk
 .unfold jb at hk;split at hk
  .obtain rfl:=hx.v_eq;exact BF.val (x:=.bool false) (by simp[Op.unary]) hk
  .obtain rfl:=hx.v_eq;exact BF.val (x:=.bool true) (by simp[Op.unary]) hk
  .exact hk.elim
 .rename_i a;obtain rfl:=hx.v_eq;refine BF.val (x:=.int .i64 (-a)) ?_ hk.2
  have:=NP hk.1
  simp[Op.unary,Op.intArith,this]
 .obtain rfl:=hx.v_eq;exact BF.val (by simp[Op.unary,Op.intBits,G5]) hk
 .exact hk.elim
theorem aW:∀{l:List AV} {j:Nat} {a:AV},qM l j=some a->l[j]?=some a
 | [],j,a,h=>by cases h
 |b::r,0,a,h=>by simpa[qM]using h
 |b::r,j+1,a,h=>by simpa using aW (l:=r) (j:=j) h
theorem ZD{i:Nat}{x:AV}(hx:Br g w (AN h) x vx)(hk:MV x i K):BF P h g w (Instr.extract vx i) K:=by
 unfold MV at hk;split at hk
 .rename_i cs;cases hx with
  |tup _ _ vs hs hh=>
   split at hk
   .rename_i a ha;have hc:=aW ha;have hi:i<vs.size:=by rw[hs];exact(Ar.1 hc).1
    exact⟨vs[i],_,by simp[Instr.extract,hi],hk,hh _ _ _ hc (by simp[hi])⟩
   .exact hk.elim
 .exact hk.elim
theorem nC{c a b:AV}{vc va vb:Value}(hc:Br g w (AN h) c vc)(ha:Br g w (AN h) a va)(hb:Br g w (AN h) b vb)(hk:bn c a b K) :
  BF P h g w (do pure (if <-asBool vc then va else vb)) K:=by
 unfold bn at hk;split at hk
 .obtain rfl:=hc.v_eq;exact⟨va,a,by simp[asBool],hk,ha⟩
 .obtain rfl:=hc.v_eq;exact⟨vb,b,by simp[asBool],hk,hb⟩
 .exact hk.elim
theorem qD{t:Nat}{x y:AV}(hx:Br g w (AN h) x vx)(hy:Br g w (AN h) y vy)(hk:qG max x y K):BF P h g w (Builtin.max_ Hd t #[vx,vy]) K:=by
 unfold qG at hk;split at hk
 .rename_i k a k' b;split at hk
  .obtain rfl:=hx.v_eq;obtain rfl:=hy.v_eq;refine BF.val (x:=.int k (max a b)) ?_ hk;simp[Builtin.max_,Builtin.max2];omega
  .exact hk.elim
 .exact hk.elim
theorem qF{t:Nat}{x y:AV}(hx:Br g w (AN h) x vx)(hy:Br g w (AN h) y vy)(hk:qG min x y K):BF P h g w (Builtin.min_ Hd t #[vx,vy]) K:=by
 unfold qG at hk;split at hk
 .rename_i k a k' b;split at hk
  .obtain rfl:=hx.v_eq;obtain rfl:=hy.v_eq;refine BF.val (x:=.int k (min a b)) ?_ hk;simp[Builtin.min_,Builtin.min2];omega
  .exact hk.elim
 .exact hk.elim
end
theorem CJ.at{cs:List AV}(h:CJ g w U cs vs){av:AV}(hi:cs[i]?=some av):∃x,vs[i]?=some x/\x.oneCell'=true/\Br g w U av x:=by
 have Dx:i<vs.length:=by rw[h.1];exact(Ar.1 hi).1
 exact⟨vs[i],At Dx,h.2.1 _ (Aq Dx),h.2.2 i av _ hi (At Dx)⟩
theorem FB{α:Type}{n:Nat}:∀{es:List (List α)},(∀c∈es,c.length=n)->∀{i j:Nat} {c:List α},es[i]?=some c->j<n->es.flatten[i*n+j]?=c[j]?
 | [],_,i,j,c,h,_=>by simp at h
 |d::es,hl,0,j,c,h,hj=>by
  simp at h;subst h
  have:=hl d (Ab ..)
  rw[Bu,AU ch]
  congr 1;omega
 |d::es,hl,i+1,j,c,h,hj=>by
  have hd:=hl d (Ab ..);rw[Bu,A0 (by rw[hd,Ec];omega)];rw[show(i+1)*n+j-d.length=i*n+j by rw[hd,Ec];omega];exact FB (fun c hc=>hl c (Ae _ hc)) (by simpa using h) hj
theorem Dm{α:Type}{n:Nat}:∀{es:List (List α)},(∀c∈es,c.length=n)->es.flatten.length=es.length*n
 | [],_=>by simp
 |d::es,hl=>by
  rw[Bu,Ac,hl d (Ab ..),Dm (fun c hc=>hl c (Ae _ hc)),Al,Ec,Nat.add_comm]
section
variable {P:Program}{T:GV}(hT:Ci P T){h:Nat->HO}{g:Gh}{w:World}{K:AV->Prop}(ho:∀r,DR g w (AN h) r (h r))
include ho
theorem gv(hT:Ci P T){t:Nat}{x:AV}(hx:Br g w (AN h) x vx){hi mx:Option Operand}(hk:bU T h t x hi mx K):BF P h g w (Instr.sliceAt t vx none (hi.map ρ) (mx.map ρ)) K:=by
 unfold bU at hk;split at hk
 .rename_i n e r hd;split at hk
  .rename_i cs hs he;obtain⟨rfl,hk⟩:=hk;cases hx with
   |ref _ _ _ b hu ht hx=>
    have hr:=ho r;rw[he]at hr;obtain⟨_,b',a1,a2⟩:=hr;rw[a1]at hx;cases hx;cases a2 with
    |cptr _ _ _ off val Dg D8=>
     have ha:=hT.array hd;refine⟨.slice (some ⟨b,0,none⟩) cs.length cs.length,_,?_,hk,?_⟩
     .simp[Instr.sliceAt,Instr.sureAddr,run_underlying ha,Instr.sliceBounds,hT.size1 w hs,Addr.add_lit]
     .have q:=Br.slice (g:=g) (w:=w) (AN h) (cs.map fun c=>[c]) b 0 1 cs.length (fun i _=>val i) B0 B0 ?_ ?_
      .simpa using q
      .intro i c j av h1 h2;rw[Aw,AD]at h1;obtain⟨a,h3,rfl⟩:=h1;obtain⟨rfl,rfl⟩:j=0/\av=a:=by cases j<;>simp_all
       have:=Dg i av h3
       simpa using this
      .intro i c j av h1 h2;rw[Aw,AD]at h1;obtain⟨a,h3,rfl⟩:=h1;obtain⟨rfl,rfl⟩:j=0/\av=a:=by cases j<;>simp_all
       exact D8 i av h3
  .exact hk.elim
 .exact hk.elim
theorem WJ(hT:Ci P T){t:Nat}{p:AV}{vp:Value}(hp:Br g w (AN h) p vp)(hk:ID T h t p K):BF P h g w (Instr.loadAt t vp) K:=by
 have Vq:∀b off,BF P h g w (loadVar t ⟨b,off,none⟩) K->BF P h g w (Instr.loadAt t (.pointer (some ⟨b,off,none⟩))) K:=by
  rintro b off ⟨x,av,h1,h2,h3⟩
  exact⟨x,av,by simp[Instr.loadAt,Instr.sureAddr,h1],h2,h3⟩
 unfold ID at hk;split at hk
 .cases hp with
  |cptr _ _ b off val Dg D8=>exact Vq b off (M9 hT (HY.of_cptr (.cptr Fq _ b off val Dg D8) _) hk)
 .rename_i r off;have hr:=ho r;cases hp with
  |ref _ _ _ b hu ht hx=>
   split at hk
   .rename_i cs e;rw[e]at hr;obtain⟨_,b',E,vs,a1,a2,a3,a4,a5⟩:=hr;rw[a2]at hx;cases hx
    have:=(HY.of_row a3 a4).drop off
    rw[A7]at this;exact Vq b off (M9 hT this hk)
   .rename_i cs e;rw[e]at hr;obtain⟨_,b',a1,a2⟩:=hr;rw[a1]at hx;cases hx
    have:=(HY.of_cptr a2 (AN h)).drop off
    rw[A7]at this;exact Vq b off (M9 hT this hk)
   .exact hk.elim
 .rename_i r n sz i off;have hr:=ho r;cases hp with
  |eref _ _ _ _ _ _ b cap hu ht hn hx=>
   split at hk
   .rename_i GW es e;rw[e]at hr;split at hk
    .rename_i hz;obtain rfl:=AM hz;obtain⟨Ca,cs,h1,hk⟩:=hk;obtain⟨t1,l1,al,a1⟩:=hr;have Dx:=(Ar.1 h1).1;rcases a1 with ⟨rfl,_⟩ | ⟨b',Ln,E,vs,e1,e2,e3,e4,e5,e6,e7⟩
     .simp at h1
     .have:=hx (Ca.trans l1.symm)
      rw[e1]at this;simp only[Value.slice.injEq,Bk,Addr.mk.injEq]at this;obtain⟨⟨rfl,_,_⟩,_,_⟩:=this;refine Vq _ _ (M9 hT (cs:=cs.drop off) (fun j av hj=>?_) hk);rw[CA]at hj;have hcl:=al cs (Av h1);have xS:off+j<sz:=by rw[<-hcl];exact(Ar.1 hj).1
      have hf:=FB al h1 xS;rw[hj]at hf;obtain⟨x,x1,x2,x3⟩:=e6.at hf;refine⟨x,?_,x2,x3.up _⟩;rw[FU e4];have iq:i*sz+(off+j)<es.length*sz:=by
       have:=Bh sz (show i+1<=es.length from Dx)
       rw[Ec]at this;omega
      rw[BI iq]at x1;rw[<-GX]at x1;simpa using x1
    .exact hk.elim
   .rename_i GW es i' c av e;rw[e]at hr;split at hk
    .rename_i hz;obtain rfl:=AM hz;obtain⟨⟨Ca,rfl,rfl⟩,hk⟩:=hk;obtain⟨t1,l1,al,b',Ln,E,vs,e1,e2,e3,e4,e5,e6,e7,e8,x,e9,w8⟩:=hr
     have:=hx (Ca.trans l1.symm)
     rw[e1]at this;simp only[Value.slice.injEq,Bk,Addr.mk.injEq]at this;obtain⟨⟨rfl,_,_⟩,_,_⟩:=this;refine Vq _ _ (M9 hT (cs:=[av]) (fun j a' hj=>?_) hk);cases j with
     |succ j=>simp at hj
     |zero=>
      simp only[A4,Bk]at hj;subst hj;refine⟨x,by rw[FU e4];simpa using e9,?_,w8⟩;have hm:x∈vs.toList.take (es.length*sz):=by
       have h9:vs.toList[i*sz+off]?=some x:=by simpa using e9
       exact Av (by rw[BI e8];exact h9)
      exact e6.2.1 x hm
    .exact hk.elim
   .exact hk.elim
 .exact hk.elim
end
theorem F1{α:Type}:∀(cs:List α) (o:Nat) (vs:List α),(over cs o vs).length=cs.length
 | [],_,_=>rfl
 |c::cs,o+1,vs=>by simp[over,F1 cs o vs]
 |c::cs,0,[]=>rfl
 |c::cs,0,v::vs=>by simp[over,F1 cs 0 vs]
theorem F0{α:Type}:∀(cs:List α) (o:Nat) (vs:List α) (i:Nat),o+vs.length<=cs.length->(over cs o vs)[i]?=if o<=i/\i<o+vs.length then vs[i-o]? else cs[i]?
 | [],o,vs,i,h=>by
  simp at h;obtain⟨rfl,rfl⟩:=h;simp[over]
 |c::cs,o+1,vs,0,h=>by simp[over]
 |c::cs,o+1,vs,i+1,h=>by
  have:=F0 cs o vs i (by simp at h;omega)
  simp only[over,EH,this]
  by_cases hc:o<=i/\i<o+vs.length
  .rw[As hc,As ch];congr 1;omega
  .rw[Ah hc,Ah ch]
 |c::cs,0,[],i,h=>by
  have:¬(0<=i/\i<0+([]:List α).length):=by simp
  rw[Ah this];rfl
 |c::cs,0,v::vs,0,h=>by simp[over]
 |c::cs,0,v::vs,i+1,h=>by
  have:=F0 cs 0 vs i (by simp at h;omega)
  simp only[over,EH,this]
  by_cases hc:0<=i/\i<0+vs.length
  .rw[As hc,As (by simp;omega)];simp
  .rw[Ah hc,Ah (by simp at hc⊢;omega)]
theorem CJ.over{g:Gh}{w:World}{U:Nat->Prop}{cs VD:List AV}{xs vs:List Value}(h:CJ g w U cs xs)(k:CJ g w U VD vs)(o:Nat)(Hp:o+VD.length<=cs.length) :
  CJ g w U (Eng.over cs o VD) (Eng.over xs o vs):=by
 have xZ : o+vs.length<=xs.length:=by rw[k.1,h.1];exact Hp
 refine⟨by rw[F1,F1,h.1],fun x hx=>?_,fun i av x h1 h2=>?_⟩
 .obtain⟨i,hi⟩:=Cg.1 hx;rw[F0 _ _ _ _ xZ]at hi;split at hi
  .exact k.2.1 _ (Av hi)
  .exact h.2.1 _ (Av hi)
 .rw[F0 _ _ _ _ Hp]at h1;rw[F0 _ _ _ _ xZ,k.1]at h2;split at h1
  .rename_i hc;rw[As hc]at h2;exact k.2.2 _ _ _ h1 h2
  .rename_i hc;rw[Ah hc]at h2;exact h.2.2 _ _ _ h1 h2
theorem uK(h:Br g w U a x)(h1:one a=true):x.oneCell'=true:=by
 cases h with
 |v=>exact h1
 |tok _ r sz es _ h=>cases h with
  |snil=>rfl
  |slice=>rfl
 |ver _ r sz v es _ h=>cases h with
  |snil=>rfl
  |slice=>rfl
 |full _ sz es _ h=>cases h with
  |snil=>rfl
  |slice=>rfl
 |_=>first |rfl |(cases h1;done)
theorem jj(h:x.oneCell'=true):x.cells=#[x]:=by
 cases x<;>first | rfl | (simp[Value.oneCell']at h)
theorem Nw{n:Nat}{K:List AV->Prop}(h:Br g w U a x)(hk:Hz n a K) :
  ∃cs,K cs/\cs.length=n/\CJ g w U cs x.cells.toList:=by
 have single:one a=true->n=1->K [a]->∃cs,K cs/\cs.length=n/\CJ g w U cs x.cells.toList:=by
  intro h1 hn hk;have hx:=uK h h1;rw[jj hx];refine⟨[a],hk,hn.symm,rfl,by simpa using hx,fun i av y e1 e2=>?_⟩;cases i with
  |zero=>simp at e1 e2;subst e1;subst e2;exact h
  |succ i=>simp at e1
 unfold Hz at hk;split at hk
 .rename_i cs;split at hk
  .rename_i hl;cases h with
   |agg _ _ vs hs h1 hr=>
    refine⟨cs,hk,AM hl,by simpa[Value.cells]using hs,fun y hy=>?_,fun i av y e1 e2=>?_⟩
    .obtain⟨i,hi⟩:=Cg.1 hy;exact h1 i y (by simpa[Value.cells]using hi)
    .exact hr i av y e1 (by simpa[Value.cells]using e2)
  .exact hk.elim
 .split at hk
  .rename_i h1;split at hk
   .exact single h1 rfl hk
   .exact hk.elim
  .exact hk.elim
theorem Oy:∀(vs:List Value) (k o:Nat) (cs:Array Value),o+k+vs.length<=cs.size ->
  ((vs.zipIdx k).foldl (fun(cs:Array Value) (p:Value×Nat)=>cs.setIfInBounds (o+p.2) p.1) cs).toList=over cs.toList (o+k) vs
 | [],k,o,cs,_=>by
  have:∀(l:List Value) (o:Nat),over l o []=l:=by
   intro l
   induction l with
   |nil=>intro o;rfl
   |cons c l ih=>intro o;cases o with
    |zero=>rfl
    |succ o=>simp[over,ih]
  simp[this]
 |v::vs,k,o,cs,h=>by
  simp at h;rw[List.zipIdx_cons,FK,Oy vs (k+1) o _ (by simp;omega)];simp only[Array.toList_setIfInBounds];apply Cz;intro i;rw[F0 _ _ _ _ (by simp;omega),F0 _ _ _ _ (by simp;omega)];simp only[Al,List.getElem?_set]
  by_cases h1:i=o+k
  .subst h1;rw[Ah ch,As ch];have Dx:o+k<cs.size:=by omega
   simp[Dx]
  .by_cases h2:o+k<=i/\i<o+k+(vs.length+1)
   .rw[As ch,As h2,show i-(o+k)=(i-(o+(k+1)))+1 by omega];simp
   .rw[Ah ch,Ah ch,Ah h2]
theorem T3{g:Gh}{w:World}{U:Nat->Prop}{t:Nat->AV}{ρ:Operand->Value}(ht:∀x:Operand,Br g w U (ev t x) (ρ x)){pl pl' : Nat->Option (Nat×Nat)}(ye:∀i p,pl i=some p->pl' i=some p) :
  ∀{ps:List (Nat×Operand)} {cs:List AV} {xs:Array Value} {K:List AV->Prop},CJ g w U cs xs.toList->Lr pl cs t ps K ->
   ∃cp Xt,K cp/\CJ g w U cp Xt.toList/\Instr.fill pl' xs (ps.map fun(i,x)=>(i,ρ x))=some Xt
 | [],cs,xs,K,h,hk=>⟨cs,xs,hk,h,rfl⟩
 |(i,x)::ps,cs,xs,K,h,hk=>by
  unfold Lr at hk;split at hk
  .exact hk.elim
  .rename_i o n hp;obtain⟨VD,hk,hn,hr⟩:=Nw (ht x) hk;split at hk
   .rename_i Hp;have Hp:=Gv Hp;have D5:(ρ x).cells.size=n:=by rw[<-hn];simpa using hr.1
    have oZ:cs.length=xs.size:=by simpa using h.1.symm
    have ER:=h.over hr o (by rw[hn];exact Hp);have e:=Oy (ρ x).cells.toList 0 o xs (by simp[D5];omega);simp only[DX]at e;rw[<-e]at ER;obtain⟨cp,Xt,k1,k2,k3⟩:=T3 ht ye ER hk;refine⟨cp,Xt,k1,k2,?_⟩;simp only[AK,Instr.fill,ye _ _ hp];have e2:(ρ x).cells.zipIdx.foldl (fun cs (c,j)=>cs.setIfInBounds (o+j) c) xs=((ρ x).cells.toList.zipIdx 0).foldl (fun(cs:Array Value) (p:Value×Nat)=>cs.setIfInBounds (o+p.2) p.1) xs:=by
     rw[<-OY];simp
    rw[Ah (by simp[D5];omega),e2];exact k3
   .exact hk.elim
theorem Nr:∀{l:List AV},G7 l=true->∀a∈l,one a=true
 | [],_,a,h=>by cases h
 |b::r,h,a,ha=>by
  unfold G7 at h;split at h
  .rename_i hb;rcases Ay.1 ha with rfl | ha
   .exact hb
   .exact Nr h a ha
  .cases h
theorem CJ.vals(h:G7 (vs.map .v)=true):CJ g w U (vs.map .v) vs:=by
 refine⟨by simp,fun x hx=>?_,fun i av x h1 h2=>?_⟩
 .have:=Nr h (.v x) (Ak.2 ⟨x,hx,rfl⟩)
  simpa[one]using this
 .rw[Aw,h2]at h1;simp at h1;subst h1;exact .v _ _
section
variable {P:Program}{T:GV}(hT:Ci P T){h:Nat->HO}{g:Gh}{w:World}{K:AV->Prop}
theorem aH{α β:Type}(P:Program)(w:World)(f:α->Sem β)(f' : α->β):∀(l:List α),(∀a∈l,(f a).run P w=.ok (f' a) w)->(l.mapM f).run P w=.ok (l.map f') w
 | [],_=>rfl
 |a::l,h=>by
  have h1:=h a (Ab ..);have h2:=aH P w f f' l (fun b hb=>h b (Ae _ hb));simp[List.mapM_cons,Sem.run_bind,h1,h2]
theorem RR:∀{fs:List (Nat×Nat)},Pe T fs=true->∀p∈fs,∃n,(T p.1).size=n+1
 | [],_,p,h=>by cases h
 |(t,o)::r,h,p,hp=>by
  unfold Pe at h;split at h
  .cases h
  .rename_i n hn;rcases Ay.1 hp with rfl | hp
   .exact⟨n,hn⟩
   .exact RR h p hp
include hT
theorem Nq{t:Nat}(hd:(T t).d≠.other):∃z,(zeroValue t).run P w=.ok z w/\(T t).zc=z.cells.toList/\(T t).zero=z:=by
 obtain⟨d,i,z,h1,h2,h3,h4,h5,h6,h7,h8⟩:=hT.get hd;exact⟨z,by simp[zeroValue,typeInfo,h3,h4],by rw[TI.zc_cells,h7],h7⟩
theorem Xv{t n:Nat}(h:(T t).size=n+1):∃z,(zeroValue t).run P w=.ok z w/\(T t).zc=z.cells.toList:=by
 rcases hT t with e | e
 .rw[e]at h;cases h
 unfold jW at e;split at e
 .split at e
  .rename_i d i h1 h2 _ z h3;exact⟨z,by simp[zeroValue,typeInfo,h2,h3],by rw[TI.zc_cells,e]⟩
  .rw[e]at h;cases h
 .rw[e]at h;cases h
theorem gG{ty:Nat}{t:Nat->AV}(ht:∀x:Operand,Br g w (AN h) (ev t x) (ρ x)){ps:Array (Nat×Operand)}(hk:Qz T ty t ps.toList K) :
  BF P h g w (Instr.build ty (ps.map fun(i,x)=>(i,ρ x))) K:=by
 unfold Qz at hk;split at hk
 .exact hk.elim
 .rename_i PJ;have fin:∀(cp : List AV) (Xt : Array Value),CJ g w (AN h) cp Xt.toList->Br g w (AN h) (.agg cp) (.agg Xt):=fun cp Xt hr=>
   .agg _ _ _ (by simpa using hr.1) (fun i x hx=>hr.2.1 x (Av (by simpa using hx))) (fun i av x h1 h2=>hr.2.2 i av x h1 (by simpa using h2))
  split at hk
  .rename_i fs hs;have hd:(T ty).d≠.other:=by rw[hs];simp
   obtain⟨z,z1,z2,_⟩:=Nq hT (w:=w) hd;split at hk
   .exact hk.elim
   .rename_i D5;obtain⟨fa,u1,u2,u3⟩:=hT.struct hs;have qi:(fa.mapM fun(f:Field)=>(do pure (f.offset,<-sizeOf f.type):Sem (Nat×Nat))).run P w=.ok (fa.map fun f=>(f.offset,(T f.type).size)) w:=by
     rw[Array.mapM_eq_mapM_toList]
     have:=aH P w (fun f:Field=>(do pure (f.offset,<-sizeOf f.type):Sem (Nat×Nat))) (fun f=>(f.offset,(T f.type).size)) fa.toList (fun f hf=>by
      obtain⟨n,hn⟩:=RR D5 (f.type,f.offset) (by rw[u2];exact Ak.2 ⟨f,hf,rfl⟩);simp[hT.size1 w hn,hn])
     simp only[Sem.run_map,this,Result.andThen_ok]
     congr 1
     apply OX;simp
    rw[z2]at hk PJ;obtain⟨cp,Xt,k1,k2,k3⟩:=T3 ht (pl':=fun i=>(fa.map fun f=>(f.offset,(T f.type).size))[i]?) (fun i p hp=>by
     split at hp
     .rename_i t' o hf;cases hp;obtain⟨fa',fd,v1,v2,rfl,rfl⟩:=T8 hT hs hf;rw[u1]at v1;cases v1;simp[v2]
     .cases hp) (CJ.vals (vs:=z.cells.toList) PJ) hk
    refine⟨_,_,?_,k1,fin cp Xt k2⟩;simp only[Instr.build,Sem.run_bind,z1,Result.andThen_ok,run_underlying u1,qi];have e3:(Array.map (fun x:Nat×Operand=>match x with | (i,x)=>(i,ρ x)) ps).toList=ps.toList.map fun(i,x)=>(i,ρ x):=by simp
    rw[e3];rw[k3]
    rfl
  .rename_i n e hs;have hd:(T ty).d≠.other:=by rw[hs];simp
   obtain⟨z,z1,z2,_⟩:=Nq hT (w:=w) hd;split at hk
   .exact hk.elim
   .rename_i m hm;rw[z2]at hk PJ;obtain⟨cp,Xt,k1,k2,k3⟩:=T3 ht (pl':=fun i=>some (i*(T e).size,(T e).size)) (fun i p hp=>hp) (CJ.vals (vs:=z.cells.toList) PJ) hk;refine⟨_,_,?_,k1,fin cp Xt k2⟩;simp only[Instr.build,Sem.run_bind,z1,Result.andThen_ok,run_underlying (hT.array hs),hT.size1 w hm];have e3:(Array.map (fun x:Nat×Operand=>match x with | (i,x)=>(i,ρ x)) ps).toList=ps.toList.map fun(i,x)=>(i,ρ x):=by simp
    rw[e3];simp only[hm]at k3;rw[k3]
    rfl
  .exact hk.elim
end
theorem qz{a b:KS}(h:qy a b=true):a=b:=by
 cases a<;>cases b<;>first | rfl | (simp[qy]at h;done) | (simp only[qy]at h;obtain rfl:=KQ h;rfl)
theorem aB:∀{a b:List KS},Uw a b=true->a=b
 | [],[],_=>rfl
 |x::a,y::b,h=>by
  unfold Uw at h;split at h
  .rename_i e;obtain rfl:=qz e;obtain rfl:=aB h;rfl
  .cases h
 | [],_::_,h=>by simp[Uw]at h
 |_::_,[],h=>by simp[Uw]at h
theorem rn{a b:EN}(h:uX a b=true):a=b:=by
 obtain⟨a1,a2⟩:=a;obtain⟨b1,b2⟩:=b;cases a1<;>cases b1<;>simp only[uX]at h<;>first | (obtain rfl:=aB h;rfl) | cases h
section
variable {P:Program}{T:GV}(hT:Ci P T)
include hT
def K5(P:Program)(w:World)(b:Bool)(d t:Nat)(xs:Array Value)(o:Nat):Prop:=
 (do let a <-part t xs o;Instr.checkKey b d t a).run P w=.ok () w
theorem TL(w:World)(b:Bool):∀(n t:Nat) (l:List KS),H4 T n t=some l->∀d,n<=d->∀(xs:Array Value) (o:Nat),JI l (Iw xs.toList o l.length)=true->K5 P w b d t xs o
 |0,t,l,h=>by simp[H4]at h
 |n+1,t,l,h=>by
  intro d hd xs o hx;obtain⟨d,rfl⟩:∃d',d=d'+1:=⟨d-1,by omega⟩;have scalar:∀k,(T t).d≠.other->Kh (T t).d=false->l=[k]->(∀x,Oc k x=true->(Instr.checkKey b (d+1) t x).run P w=.ok () w)->K5 P w b (d+1) t xs o:=by
   rintro k ZS hs rfl hk
   obtain⟨x,x1,x2,x3⟩:=Mg hx;unfold K5;simp[Sem.run_bind,D2 hT w ZS hs xs o _ x1,hk x x2]
  unfold H4 at h;split at h
  .rename_i k hk;split at h
   .cases h
    refine scalar _ (by rw[hk];simp) (by rw[hk];rfl) rfl (fun x hx=>?_);cases x<;>simp[Oc]at hx
    simp[Instr.checkKey,run_underlying (hT.int hk)]
   .cases h
  .rename_i hk;split at h
   .cases h
    refine scalar _ (by rw[hk];simp) (by rw[hk];rfl) rfl (fun x hx=>?_);cases x<;>simp[Oc]at hx
    simp[Instr.checkKey,run_underlying (hT.string hk)]
   .cases h
  .rename_i hk;split at h
   .cases h
    refine scalar _ (by rw[hk];simp) (by rw[hk];rfl) rfl (fun x hx=>?_);cases x<;>simp[Oc]at hx
    simp[Instr.checkKey,run_underlying (hT.bool hk)]
   .cases h
  .rename_i fs hk;split at h
   .split at h
    .rename_i l' KP;split at h
     .rename_i Ca;cases h;have Ca:=AM Ca;have ZS:(T t).d≠.other:=by rw[hk];simp
      have hs:Kh (T t).d=true:=by rw[hk];rfl
      obtain⟨fa,u1,u2,u3⟩:=hT.struct hk;rw[u2]at KP;have ex:(xs.extract o (o+(T t).size)).toList=Iw xs.toList o l.length:=by
       rw[<-Ca];simp[Iw]
      have s0:Iw (Iw xs.toList o l.length) 0 l.length=Iw xs.toList o l.length:=by
       rw[fH _ _ _ _ _ ch];rfl
      unfold K5;simp only[Sem.run_bind,G2 hT w ZS hs,Result.andThen_ok];have ih:=TL w b n;have hq:JI l (Iw (xs.extract o (o+(T t).size)).toList 0 l.length)=true:=by rw[ex,s0];exact hx
      generalize xs.extract o (o+(T t).size)=ys at hq;simp only[Instr.checkKey,Sem.run_bind,run_underlying u1,Result.andThen_ok];rw[<-Array.forIn_toList]
      clear u2 hk
      have key : ∀ (fl : List Field) (m : Nat) (l : List KS), Ox (H4 T n) m (fl.map fun f => (f.type, f.offset)) = some l -> (∀ f ∈ fl, f.name ≠ "_") -> JI l (Iw ys.toList m l.length) = true ->
        (forIn fl PUnit.unit (fun (f : Field) (_ : PUnit) => ((if f.name ≠ "_" then (do
         let x <-part f.type ys f.offset
         Instr.checkKey b d f.type x
         pure (ForInStep.yield PUnit.unit))else pure (ForInStep.yield PUnit.unit)):Sem (ForInStep PUnit)))).run P w=.ok PUnit.unit w:=by
       intro fl
       induction fl with
       |nil=>intro m l _ _ _;rfl
       |cons f fl ihf=>
        intro m l hg hn hy;obtain⟨ho,a,c,ha,hc,rfl⟩:=N7 hg;rw[Ac]at hy;obtain⟨y1,y2⟩:=Tb hy;rw[Qf _ _ _ _ ch]at y1;rw[Qe,Hg]at y2;have h1:=ih f.type a ha d ch ys m y1;unfold K5 at h1;rw[List.forIn_cons];simp only[Sem.run_bind,As (hn f (Ab ..))];simp only[Sem.run_bind]at h1;rw[ho];generalize (part f.type ys m).run P w=r1 at h1⊢;cases r1 with
        |halt x w1=>cases h1
        |ok u w1=>
         simp only[Result.andThen_ok]at h1⊢;rw[h1];simp only[Result.andThen_ok,Sem.run_pure];exact ihf (m+a.length) c hc (fun f hf=>hn f (Ae _ hf)) y2
      rw[key fa.toList 0 l KP u3 hq]
      rfl
     .cases h
    .cases h
   .cases h
  .cases h
theorem nW(hs:Ij T kt=some sh)(w:World)(hx:Xd sh x=true)(hy:Xd sh y=true) :
  ∃b:Bool,(Op.equal kt x y).run P w=.ok b w/\(b=true↔x=y):=by
 unfold Ij at hs;split at hs
 .rename_i fs hk;split at hs
  .rename_i l hl;cases hs;cases x<;>simp only[Xd]at hx<;>try (cases hx;done)
   cases y<;>simp only[Xd]at hy<;>try (cases hy;done)
   rename_i xs ys;have hd:(T kt).d≠.other:=by rw[hk];simp
   have ha:Kh (T kt).d=true:=by rw[hk];rfl
   have Ca:l.length=(T kt).size:=by
    unfold H4 at hl;rw[hk]at hl;dsimp only at hl;split at hl
    .split at hl
     .split at hl
      .rename_i e;cases hl;exact AM e
      .cases hl
     .cases hl
    .cases hl
   have s0:∀zs:Array Value,JI l zs.toList=true->Iw zs.toList 0 l.length=zs.toList:=fun zs hz=>by
    have:=Md hz
    simp only[Iw,List.drop_zero];rw[AB ch]
   have ex:∀zs:Array Value,JI l zs.toList=true->zs.extract 0 (0+(T kt).size)=zs:=fun zs hz=>by
    have:=Md hz
    rw[<-Ca,<-this];simp
   obtain⟨b,b1,b2⟩:=Ya hT w 8 kt l hl 10000 ch xs ys 0 (by rw[s0 _ hx];exact hx) (by rw[s0 _ hy];exact hy);simp only[Sem.run_bind,G2 hT w hd ha,Result.andThen_ok,ex _ hx,ex _ hy]at b1;rw[s0 _ hx,s0 _ hy]at b2;refine⟨b,b1,b2.trans ⟨fun e=>by rw[OX e],fun e=>by cases e;rfl⟩⟩
  .cases hs
 .rename_i JH;split at hs
  .rename_i l hl;cases hs;have ME : JI l [x]=true:=by cases x<;>exact hx
   have hy' : JI l [y]=true:=by cases y<;>exact hy
   have single:∀k,l=[k]->Oc k x=true/\Oc k y=true:=by
    rintro k rfl
    unfold JI at ME hy';split at ME
    .split at hy'
     .exact⟨‹_›,‹_›⟩
     .cases hy'
    .cases ME
   have e9:Op.equal kt x y=Op.equalIn (9999+1) kt x y:=rfl;rw[e9];unfold H4 at hl;split at hl
   .rename_i k hk;split at hl
    .cases hl
     obtain⟨h1,h2⟩:=single _ rfl;cases x<;>simp[Oc]at h1
     cases y<;>simp[Oc]at h2
     obtain rfl:=KQ h1;obtain rfl:=KQ h2;exact⟨_,run_equalIn_int w 9999 kt _ _ _ _ (hT.int hk),by simp⟩
    .cases hl
   .rename_i hk;split at hl
    .cases hl
     obtain⟨h1,h2⟩:=single _ rfl;cases x<;>simp[Oc]at h1
     cases y<;>simp[Oc]at h2
     exact⟨_,run_equalIn_string w 9999 kt _ _ (hT.string hk),by rw[Kc];simp⟩
    .cases hl
   .rename_i hk;split at hl
    .cases hl
     obtain⟨h1,h2⟩:=single _ rfl;cases x<;>simp[Oc]at h1
     cases y<;>simp[Oc]at h2
     exact⟨_,run_equalIn_bool' w 9999 kt _ _ (hT.bool hk),by simp⟩
    .cases hl
   .rename_i fs hk;exact absurd hk (JH fs)
   .cases hl
  .cases hs
theorem Nm(hs:Ij T kt=some sh)(w:World)(b:Bool)(hx:Xd sh x=true):(Instr.checkKey b 10000 kt x).run P w=.ok () w:=by
 unfold Ij at hs;split at hs
 .rename_i fs hk;split at hs
  .rename_i l hl;cases hs;cases x<;>simp only[Xd]at hx<;>try (cases hx;done)
   rename_i xs;have hd:(T kt).d≠.other:=by rw[hk];simp
   have ha:Kh (T kt).d=true:=by rw[hk];rfl
   have Ca:l.length=(T kt).size:=by
    unfold H4 at hl;rw[hk]at hl;dsimp only at hl;split at hl
    .split at hl
     .split at hl
      .rename_i e;cases hl;exact AM e
      .cases hl
     .cases hl
    .cases hl
   have:=Md hx
   have h0:Iw xs.toList 0 l.length=xs.toList:=by
    simp only[Iw,List.drop_zero];rw[AB ch]
   have h1:=TL hT w b 8 kt l hl 10000 ch xs 0 (by rw[h0];exact hx);unfold K5 at h1;simp only[Sem.run_bind,G2 hT w hd ha,Result.andThen_ok]at h1;have ex:xs.extract 0 (0+(T kt).size)=xs:=by rw[<-Ca,<-this];simp
   rw[ex]at h1;exact h1
  .cases hs
 .rename_i JH;split at hs
  .rename_i l hl;cases hs;have key:∀d,(Instr.checkKey b (d+1) kt x).run P w=.ok () w:=by
    intro d;unfold H4 at hl;split at hl
    .rename_i k hk;simp[Instr.checkKey,run_underlying (hT.int hk)]
    .rename_i hk;simp[Instr.checkKey,run_underlying (hT.string hk)]
    .rename_i hk;simp[Instr.checkKey,run_underlying (hT.bool hk)]
    .rename_i fs hk;exact absurd hk (JH fs)
    .cases hl
   exact key 9999
  .cases hs
end
def NX(x:Value)(es:List MapEntry)(i:Nat)(r:Option (Nat×Value)):Prop:=
 (r=none/\∀e∈es,e.key≠x)\/∃(j:Nat) (e:MapEntry),r=some (i+j,e.val)/\es[j]?=some e/\e.key=x
theorem NX.here{es:List MapEntry}(h:e.key=x):NX x (e::es) i (some (i,e.val)):=
 .inr ⟨0,e,rfl,rfl,h⟩
theorem NX.there{es:List MapEntry}{r:Option (Nat×Value)}(h:e.key≠x)(k:NX x es (i+1) r):NX x (e::es) i r:=by
 rcases k with ⟨h1,h2⟩ | ⟨j,e',h1,h2,h3⟩
 .exact .inl ⟨h1,fun d hd=>(Ay.1 hd).elim (fun e'=>e'▸h) (h2 d)⟩
 .exact .inr ⟨j+1,e',by rw[h1,GX,Nat.add_comm 1 j],h2,h3⟩
theorem T4{kind:TypeDesc}{x:Value}:∀(es:List MapEntry) (i:Nat),(∀e∈es,∃b,Instr.sameNow kind x e.key=some b/\(b=true↔x=e.key))->∃r,Instr.findNow kind x es i=some r/\NX x es i r
 | [],i,_=>⟨none,rfl,.inl ⟨rfl,fun _ h=>by cases h⟩⟩
 |e::es,i,h=>by
  obtain⟨b,b1,b2⟩:=h e (Ab ..);cases b with
  |true=>exact⟨_,by simp[Instr.findNow,b1],.here (b2.1 rfl).symm⟩
  |false=>
   obtain⟨r,r1,r2⟩:=T4 es (i+1) (fun d hd=>h d (Ae _ hd));exact⟨r,by simp[Instr.findNow,b1,r1],.there (fun e'=>by have:=b2.2 e'.symm;cases this) r2⟩
section
variable {P:Program}{T:GV}(hT:Ci P T)
include hT
theorem N5{kt:Nat}{sh:EN}(hs:Ij T kt=some sh)(w:World){x:Value}(hx:Xd sh x=true) :
  ∀(es:List MapEntry) (i:Nat),(∀e∈es,Xd sh e.key=true)->∃r,(Instr.findAsking kt x es i).run P w=.ok r w/\NX x es i r
 | [],i,_=>⟨none,rfl,.inl ⟨rfl,fun _ h=>by cases h⟩⟩
 |e::es,i,h=>by
  obtain⟨b,b1,b2⟩:=nW hT hs w hx (h e (Ab ..));cases b with
  |true=>exact⟨_,by simp[Instr.findAsking,b1],.here (b2.1 rfl).symm⟩
  |false=>
   obtain⟨r,r1,r2⟩:=N5 hs w hx es (i+1) (fun d hd=>h d (Ae _ hd));exact⟨r,by simp[Instr.findAsking,b1,r1],.there (fun e'=>by have:=b2.2 e'.symm;cases this) r2⟩
theorem OQ(hs:Ij T kt=some sh)(w:World)(hx:Xd sh x=true)(es:List MapEntry)(he:∀e∈es,Xd sh e.key=true) :
  ∃r,(Instr.findKey kt x es).run P w=.ok r w/\NX x es 0 r:=by
 have sJ:∀d,P.underlying kt=some d->Instr.findNow d x es 0=none->∃r,(Instr.findKey kt x es).run P w=.ok r w/\NX x es 0 r:=by
  intro d hd hn;obtain⟨r,r1,r2⟩:=N5 hT hs w hx es 0 he;exact⟨r,by simp[Instr.findKey,run_underlying hd,hn,r1],r2⟩
 have now:∀d,P.underlying kt=some d->(∀e∈es,∃b,Instr.sameNow d x e.key=some b/\(b=true↔x=e.key))->∃r,(Instr.findKey kt x es).run P w=.ok r w/\NX x es 0 r:=by
  intro d hd hn;obtain⟨r,r1,r2⟩:=T4 es 0 hn;exact⟨r,by simp[Instr.findKey,run_underlying hd,r1],r2⟩
 have Y2:=hs;unfold Ij at Y2;split at Y2
 .rename_i fs hk;obtain⟨fa,u1,_⟩:=hT.struct hk;cases es with
  |nil=>exact⟨none,by simp[Instr.findKey,run_underlying u1,Instr.findNow],.inl ⟨rfl,fun _ h=>by cases h⟩⟩
  |cons e es=>
   refine sJ _ u1 ?_;split at Y2
   .cases Y2
    cases x<;>simp only[Xd]at hx<;>try (cases hx;done)
    simp[Instr.findNow,Instr.sameNow]
   .cases Y2
 .rename_i JH;split at Y2
  .rename_i l hl;cases Y2;have cv:∀y,Xd ⟨false,l⟩ y=true->JI l [y]=true:=fun y hy=>by cases y<;>exact hy
   have ME:=cv x hx;have he' : ∀e∈es,JI l [e.key]=true:=fun e h=>cv _ (he e h)
   clear hx he cv
   have single:∀k y,l=[k]->JI l [y]=true->Oc k y=true:=by
    rintro k y rfl h
    unfold JI at h;split at h
    .assumption
    .cases h
   unfold H4 at hl;split at hl
   .rename_i k hk;split at hl
    .cases hl
     refine now _ (hT.int hk) (fun e h=>?_);have h1:=single _ _ rfl ME;have h2:=single _ _ rfl (he' e h);generalize e.key=y at h2;cases x<;>simp[Oc]at h1
     cases y<;>simp[Oc]at h2
     obtain rfl:=KQ h1;obtain rfl:=KQ h2;exact⟨_,by simp[Instr.sameNow];rfl,by simp⟩
    .cases hl
   .rename_i hk;split at hl
    .cases hl
     refine now _ (hT.string hk) (fun e h=>?_);have h1:=single _ _ rfl ME;have h2:=single _ _ rfl (he' e h);generalize e.key=y at h2;cases x<;>simp[Oc]at h1
     cases y<;>simp[Oc]at h2
     exact⟨_,by simp[Instr.sameNow];rfl,by rw[beq_toListBytes,Kc];simp⟩
    .cases hl
   .rename_i hk;split at hl
    .cases hl
     refine now _ (hT.bool hk) (fun e h=>?_);have h1:=single _ _ rfl ME;have h2:=single _ _ rfl (he' e h);generalize e.key=y at h2;cases x<;>simp[Oc]at h1
     cases y<;>simp[Oc]at h2
     exact⟨_,by simp[Instr.sameNow];rfl,by simp⟩
    .cases hl
   .rename_i fs hk;exact absurd hk (JH fs)
   .cases hl
  .cases Y2
end
theorem Sv{P:Program}(w:World)(hx:Xd sh x=true):(Instr.keyThatStays x x).run P w=.ok x w:=by
 have scalar:∀(k:KS) (y:Value) (n:Nat),Oc k y=true->Instr.sameBits n y y=true:=by
  intro k y n h;cases k<;>cases y<;>simp[Oc]at h<;>cases n<;>simp[Instr.sameBits,beq_toListBytes]
 have lst:∀(l:List KS) (ys:List Value) (n:Nat),JI l ys=true->((ys.zip ys).all fun(a,b)=>Instr.sameBits n a b)=true:=by
  intro l ys n
  induction ys generalizing l with
  |nil=>intro _;rfl
  |cons y ys ih=>
   intro h;cases l with
   |nil=>simp[JI]at h
   |cons k l=>
    unfold JI at h;split at h
    .rename_i hk;simp only[List.zip_cons_cons,List.all_cons,scalar k y n hk,Ep];exact ih l h
    .cases h
 have h1:∀n,Instr.sameBits (n+1) x x=true:=by
  intro n;obtain⟨ag,l⟩:=sh;cases ag with
  |true=>
   cases x<;>simp only[Xd]at hx<;>try (cases hx;done)
   have:=lst l _ n hx
   simp only[Instr.sameBits,beq_self_eq_true,Ep];exact this
  |false=>
   have ME : JI l [x]=true:=by cases x<;>exact hx
   cases l with
   |nil=>simp[JI]at ME
   |cons k l=>
    unfold JI at ME;split at ME
    .rename_i hk;exact scalar k x (n+1) hk
    .cases ME
 have:=h1 9999
 simp only[Instr.keyThatStays];rw[As this]
 rfl
theorem Xs:∀{cs:List AV} {l:List Value},YU cs=some l->cs=l.map .v
 | [],l,h=>by cases h;rfl
 |a::r,l,h=>by
  cases a<;>simp only[YU]at h<;>try (cases h;done)
  split at h
  .rename_i l' hl;cases h;rw[Xs hl];rfl
  .cases h
theorem qv(h:Br g w U a x)(hk:un a=some y):x=y:=by
 unfold un at hk;split at hk
 .cases hk;exact h.v_eq
 .split at hk
  .rename_i l hl;cases hk;obtain rfl:=Xs hl;exact h.agg_vals
  .cases hk
 .cases hk
theorem NC{T:GV}{ty:Nat}{K:Value->Prop}(h:Br g w U a x)(hk:KR T ty sh a K) :
  ∃kt e,(T ty).d=.map kt e/\Ij T kt=some sh/\Xd sh x=true/\K x:=by
 unfold KR at hk;split at hk
 .rename_i kt e ht;split at hk
  .rename_i sh' hs;split at hk
   .rename_i heq;obtain rfl:=rn heq;split at hk
    .rename_i kx Qp;obtain rfl:=qv h Qp;split at hk
     .rename_i hb;exact⟨kt,e,ht,hs,hb,hk⟩
     .exact hk.elim
    .exact hk.elim
   .exact hk.elim
  .exact hk.elim
 .exact hk.elim
theorem HE.shape(h:HE sh es ck B7):∀e∈es.toList,Xd sh e.key=true:=by
 intro e he;obtain⟨h1,h2,h3,_⟩:=h;obtain⟨i,hi⟩:=Cg.1 he;have Dx:i<B7.length:=by rw[<-h1];have:=(Ar.1 hi).1;simpa using this
 rw[h2 i B7[i] e (At Dx) (by simpa using hi)];exact h3 _ (Aq Dx)
theorem HE.none(h:HE sh es ck B7)(hn:∀e∈es.toList,e.key≠x)(a:AV):(x,a)∉B7:=by
 intro hm;obtain⟨h1,h2,_⟩:=h;obtain⟨i,hi⟩:=Cg.1 hm;have Dx:i<es.size:=by rw[h1];exact(Ar.1 hi).1
 exact hn es[i] B0 (h2 i _ es[i] hi (by simp[Dx]))
theorem HE.some{sh:EN}{es:Array MapEntry}{ck:Nat}{B7:List (Value×AV)}(h:HE sh es ck B7){x:Value}{j:Nat}{e:MapEntry}(he:es.toList[j]?=some e)(hk:e.key=x) :
  ∃a,B7[j]?=some (x,a)/\(x,a)∈B7:=by
 obtain⟨h1,h2,_⟩:=h;have Dx:j<B7.length:=by rw[<-h1];have:=(Ar.1 he).1;simpa using this
 have hg:B7[j]?=Option.some B7[j]:=At Dx
 have:=h2 j B7[j] e hg (by simpa using he)
 have e2:B7[j]=(x,B7[j].2):=by rw[<-hk,this]
 exact⟨B7[j].2,by rw[hg];exact Aa _ e2,by rw[<-e2];exact Aq Dx⟩
section
variable {P:Program}{T:GV}(hT:Ci P T){h:Nat->HO}{g:Gh}{w:World}{K:AV->Prop}
section
include hT
theorem Xu{t:Nat}(hk:K3 T t K):BF P h g w (zeroValue t) K:=by
 unfold K3 at hk;split at hk
 .exact hk.elim
 .rename_i hd;obtain⟨z,z1,z2,z3⟩:=Nq hT (w:=w) hd;rw[z3]at hk;split at hk
  .rename_i cs;split at hk
   .rename_i ha;have hr:=CJ.vals (g:=g) (w:=w) (U:=AN h) ha;exact⟨_,_,z1,hk,.agg _ _ _ B0 (fun i x hx=>hr.2.1 x (Av (by simpa using hx))) (fun i av x h1 h2=>hr.2.2 i av x h1 (by simpa using h2))⟩
   .exact hk.elim
  .exact⟨_,_,z1,hk,.v _ _⟩
theorem KA{ty b:Nat}{kt e:Nat}{ck:Nat}{B7:List (Value×AV)}(ht:(T ty).d=.map kt e)(hs:Ij T kt=some sh)(hx:Xd sh x=true)(hb:w.heap[b]?=some (.map es ck))(hm:HE sh es ck B7)(hv:∀(i:Nat) (kv:Value×AV) (e:MapEntry),B7[i]?=some kv->es[i]?=some e->Br g w (AN h) kv.2 e.val)(hk:M0 T ty ok B7 x K):BF P h g w (Instr.lookup ty (.map (some b)) x ok) K:=by
 have hu:=hT.map ht;have E1:=run_getObj_map (P:=P) w b es ck hb;have Vu:=fun bb=>Nm hT hs w bb hx;obtain⟨r,r1,r2⟩:=OQ hT hs w hx es.toList hm.shape;unfold M0 at hk;rw[ht]at hk;dsimp only at hk;rcases r2 with ⟨rfl,hn⟩ | ⟨j,en,rfl,hj,hkey⟩
 .have ae:=fun a=>hm.none hn a;cases ok with
  |true=>
   obtain⟨y,av,y1,y2,y3⟩:=Xu hT (K:=fun z=>K (.tup [z,.v (.bool false)])) (P:=P) (h:=h) (g:=g) (w:=w) (hk.2 ae);refine⟨.tuple #[y,.bool false],_,?_,y2,.tup _ _ _ rfl (fun i a x h1 h2=>?_)⟩
   .simp[Instr.lookup,run_underlying hu,E1,Vu,r1,y1]
   .match i,h1,h2 with
    |0,h1,h2=>simp at h1 h2;subst h1;subst h2;exact y3
    |1,h1,h2=>simp at h1 h2;subst h1;subst h2;exact .v _ _
  |false=>
   obtain⟨y,av,y1,y2,y3⟩:=Xu hT (K:=K) (P:=P) (h:=h) (g:=g) (w:=w) (hk.2 ae);exact⟨y,av,by simp[Instr.lookup,run_underlying hu,E1,Vu,r1,y1],y2,y3⟩
 .obtain⟨a,a1,a2⟩:=hm.some hj hkey;have hr:=hv j (x,a) en a1 (by simpa using hj);cases ok with
  |true=>
   refine⟨.tuple #[en.val,.bool true],_,?_,hk.1 a a2,.tup _ _ _ rfl (fun i av y h1 h2=>?_)⟩
   .simp[Instr.lookup,run_underlying hu,E1,Vu,r1]
   .match i,h1,h2 with
    |0,h1,h2=>simp at h1 h2;subst h1;subst h2;exact hr
    |1,h1,h2=>simp at h1 h2;subst h1;subst h2;exact .v _ _
  |false=>exact⟨en.val,a,by simp[Instr.lookup,run_underlying hu,E1,Vu,r1],hk.1 a a2,hr⟩
theorem da(ho:∀r,DR g w (AN h) r (h r)){ty:Nat}{m k:AV}{vm vk:Value}(hm:Br g w (AN h) m vm)(hx:Br g w (AN h) k vk)(hk:NE T h ty m k ok K) :
  BF P h g w (Instr.lookup ty vm vk ok) K:=by
 unfold NE at hk;split at hk
 .obtain⟨kt,e,k1,k2,k3,k4⟩:=NC hx hk;cases hm with
  |cmap _ _ _ b es ck hS hb qe hv=>exact KA hT k1 k2 k3 hb qe (fun i kv e p q=>(hv i kv e p q).up _) k4
 .rename_i r;have hr:=ho r;cases hm with
  |mref _ _ b hu ht hp=>
   split at hk
   .rename_i sh B7 e;rw[e]at hr;obtain⟨_,b',es,ck,a1,a2,a3,a4,a5,a6⟩:=hr;rw[a2]at hp;cases hp;obtain⟨kt,e,k1,k2,k3,k4⟩:=NC hx hk;exact KA hT k1 k2 k3 a3 a4 (fun i kv e p q=>(a5 i kv e p q).up _) k4
   .rename_i sh B7 e;rw[e]at hr;obtain⟨_,b',es,ck,a1,a2,a3,a4,a5,a6⟩:=hr;rw[a2]at hp;cases hp;obtain⟨kt,e,k1,k2,k3,k4⟩:=NC hx hk;exact KA hT k1 k2 k3 a3 a4 a5 k4
   .rename_i sh B7 e;rw[e]at hr;obtain⟨_,b',a1,a2⟩:=hr;rw[a1]at hp;cases hp;obtain⟨kt,e,k1,k2,k3,k4⟩:=NC hx hk;cases a2 with
    |cmap _ _ _ _ es ck hS hb qe hv=>exact KA hT k1 k2 k3 hb qe (fun i kv e p q=>(hv i kv e p q).up _) k4
   .exact hk.elim
 .exact hk.elim
omit hT in
theorem PD{ty:Nat}{B7:List (Value×AV)}{kx:Value}(hk:MZ T ty ok B7 kx K):M0 T ty ok B7 kx K:=by
 unfold MZ at hk;unfold M0;split at hk
 .rename_i e;split at hk
  .rcases hk with ⟨a,⟨h1,h2⟩,h3⟩ | ⟨h1,h2⟩
   .exact⟨fun b hb=>by rw[h2 b hb];exact h3,fun hn=>absurd h1 (hn a)⟩
   .exact⟨fun b hb=>absurd hb (h1 b),fun _=>h2⟩
  .rcases hk with ⟨a,⟨h1,h2⟩,h3⟩ | ⟨h1,h2⟩
   .exact⟨fun b hb=>by rw[h2 b hb];exact h3,fun hn=>absurd h1 (hn a)⟩
   .exact⟨fun b hb=>absurd hb (h1 b),fun _=>h2⟩
 .exact hk.elim
omit hT in
theorem NA{ty:Nat}{k:AV}{A B:Value->Prop}(hk:KR T ty sh k A)(oO:∀x,A x->B x):KR T ty sh k B:=by
 unfold KR at *
 repeat' split at hk
 all_goals first | exact hk.elim | skip
 simp_all
omit hT in
theorem iP{ty:Nat}{m k:AV}(hk:ND T h ty m k ok K):NE T h ty m k ok K:=by
 unfold ND at hk;unfold NE;split at hk
 .exact NA hk fun _=>PD
 .split at hk
  .exact NA hk fun _=>PD
  .exact NA hk fun _=>PD
  .exact NA hk fun _=>PD
  .exact hk.elim
 .exact hk.elim
theorem mM(ho:∀r,DR g w (AN h) r (h r)){t ty:Nat}{x:AV}(hx:Br g w (AN h) x vx)(hk:Sg T t h x K):BF P h g w (Builtin.len_ #[t] ty #[vx]) K:=by
 unfold Sg at hk;split at hk
 .rename_i e ht;have hu:=hT.slice ht;have run:∀a n c,(Builtin.len_ #[t] ty #[.slice a n c]).run P w=.ok (.int .i64 n) w:=fun a n c=>by simp[Builtin.len_,run_underlying hu,goInt]
  split at hk
  .have hs:=hx.slice_none;cases hs with
   |snil _ a cap=>exact⟨_,_,run a 0 cap,hk,.v _ _⟩
   |slice _ _ b off sz cap val hc=>exact⟨_,_,run _ _ _,hk,.v _ _⟩
  .cases hx with
   |msl=>exact⟨_,_,run _ _ _,hk,.v _ _⟩
  .obtain rfl:=hx.v_eq;exact⟨_,_,run _ _ _,hk,.v _ _⟩
  .exact hk.elim
 .rename_i ht;split at hk
  .obtain rfl:=hx.v_eq;exact⟨_,_,by simp[Builtin.len_,run_underlying (hT.string ht),goInt],hk,.v _ _⟩
  .exact hk.elim
 .rename_i k e ht;have hu:=hT.map ht;have run:∀b es ck,w.heap[b]?=some (.map es ck)->(Builtin.len_ #[t] ty #[.map (some b)]).run P w=.ok (.int .i64 es.size) w:=fun b es ck hb=>by
   simp[Builtin.len_,run_underlying hu,goInt,run_getObj_map (P:=P) w b es ck hb]
  split at hk
  .cases hx with
   |cmap _ _ _ b es ck hS hb qe hv=>exact⟨_,_,run b es ck hb,by rw[qe.1];exact hk,.v _ _⟩
  .rename_i r;have hr:=ho r;cases hx with
   |mref _ _ b my ht' hp=>
    split at hk
    .rename_i sh B7 e;rw[e]at hr;obtain⟨_,b',es,ck,a1,a2,a3,a4,a5,a6⟩:=hr;rw[a2]at hp;cases hp;exact⟨_,_,run _ es ck a3,by rw[a4.1];exact hk,.v _ _⟩
    .rename_i sh B7 e;rw[e]at hr;obtain⟨_,b',es,ck,a1,a2,a3,a4,a5,a6⟩:=hr;rw[a2]at hp;cases hp;exact⟨_,_,run _ es ck a3,by rw[a4.1];exact hk,.v _ _⟩
    .rename_i sh B7 e;rw[e]at hr;obtain⟨_,b',a1,a2⟩:=hr;rw[a1]at hp;cases hp;cases a2 with
     |cmap _ _ _ _ es ck hS hb qe hv=>exact⟨_,_,run _ es ck hb,by rw[qe.1];exact hk,.v _ _⟩
    .exact hk.elim
  .exact hk.elim
 .exact hk.elim
end
theorem Yv(ho:∀r,DR g w (AN h) r (h r)){t:Nat->AV}(ht:∀x:Operand,Br g w (AN h) (ev t x) (ρ x)){fn:Fn}{first cap:Array Operand}(hk:Lv t h fn first.toList cap.toList K) :
  BF P h g w (Instr.makeFunc fn (first.map ρ) (cap.map ρ)) K:=by
 unfold Lv at hk;split at hk
 .rename_i f e;have hf:first=#[]:=by
   apply OX;simpa using e
  subst hf;refine⟨_,_,rfl,hk,?_⟩;have e0:Array.map ρ (#[]:Array Operand)=#[]:=by simp
  rw[e0];refine .clo _ f (cap.toList.map fun x=>rsv h (ev t x)) (cap.map ρ) B0 (fun i av x h1 h2=>?_);rw[Aw,AD]at h1;obtain⟨y,y1,rfl⟩:=h1;rw[OZ,AD]at h2;obtain⟨z,z1,rfl⟩:=h2
  have:y=z:=by
   have:=y1
   rw[AI,z1]at this;exact(BW this).symm
  subst this;exact(ht y).rsv ho
 .exact hk.elim
theorem YB{x:AV}(hx:Br g w (AN h) x vx)(hk:LA x K){pos:String}{after:Array Edge}{gd:Option (Nat×Bool)}{dst:Option Tmp}{ty:Nat}{X:Operand}(hX:ρ X=vx) :
  (execOp ρ ⟨dst,.nilCheck X,ty,pos,after,gd⟩).run P w=.ok (.value vx) w/\K x:=by
 subst hX;unfold LA at hk;split at hk
 all_goals first
  |exact hk.elim
  |(refine⟨?_,hk⟩;generalize hq:ρ X=q at hx;cases hx;simp[execOp,hq];done)
theorem gU(ho:∀r,DR g w (AN h) r (h r)){x:AV}(hx:Br g w (AN h) x vx)(hk:cu h x K):BF P h g w (Instr.entry vx) K:=by
 unfold cu at hk;split at hk
 .rename_i r;have hr:=ho r;split at hk
  .rename_i all rem kv e;rw[e]at hr;cases hx with
   |ref _ _ _ b hu ht hp=>
    obtain⟨_,b',mb,KG,seen,st,es,ck,a1,a2,a3,a4,a5,⟨sh,a6⟩,a7,a8,a9,Y9,dR,a12,sA⟩:=hr;rw[a2]at hp;cases hp;obtain⟨i,en,c1,c2,c3⟩:=a12;have xK:es.find? (fun e=>e.born == en.born)=some en:=by
     rw[Array.find?_eq_some_iff_getElem];obtain⟨Dx,he⟩:=Be.1 c2;refine⟨by simp,i,Dx,he,fun j hj=>?_⟩;have ml : j<es.size:=by omega
     simp only[Co,Jz,WN];intro e'
     have:=a6.2.2.2.2.2 j i es[j] en (by simp[ml]) c2 e'
     omega
    have hkey:=a6.2.1 i kv en c1 c2;refine⟨.tuple #[en.key,en.val],_,?_,hk,.tup _ _ _ rfl (fun k av y h1 h2=>?_)⟩
    .have VL:(getObj b).run P w=.ok (.mapIter (some mb) KG seen st) w:=by simp[getObj,Sem.run,a3]
     have kh:=run_getObj_map (P:=P) w mb es ck a5;simp[Instr.entry,VL,c3,kh,a8,xK]
    .match k,h1,h2 with
     |0,h1,h2=>simp at h1 h2;subst h1;subst h2;rw[hkey];exact .v _ _
     |1,h1,h2=>simp at h1 h2;subst h1;subst h2;exact(a9 i kv en c1 c2).up _
  .exact hk.elim
 .exact hk.elim
end
end Go.Eng
