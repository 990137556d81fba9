/- Lemmas 6. -/
import Derived.Test.YtkjhcikodmiceaaGreatDoorRA05
import Derived.Laws.IdiomStrings
import Derived.Lib.BufferRead
namespace Go.Eng
variable {x:Value}{U:Nat->Prop}{vx:Value}{w:World}{ρ:Operand->Value}{es:Array MapEntry}{sh:Er}{g:Gh}{vs:List Value}{BU:List (Value×AV)}{cs:List AV}{GI:Array TypeId}{ok:Bool}{f:Nat×Nat}{e:MapEntry}{a:AV}{b:Nat}{E:TypeId}{i kt:Nat}{vi vy y:Value}{n ck:Nat}
def G8(g:Gh)(w:World)(U:Nat->Prop)(b off:Nat)(cs:List AV):Prop:=
 ∀(j:Nat) (av:AV),cs[j]?=some av->∃x,w.cell? ⟨b,off+j,none⟩=some x/\x.oneCell'=true/\A3 g w U av x
theorem G8.drop{g:Gh}{w:World}{U:Nat->Prop}{b off:Nat}{cs:List AV}(h:G8 g w U b off cs)(n:Nat):G8 g w U b (off+n) (cs.drop n):=fun j av hj=>by
 rw[ER]at hj
 have:=h _ _ hj
 grind
theorem G8.of_cptr{off:Nat}(h:A3 g w U (.cptr cs) (.pointer (some ⟨b,off,none⟩)))(V:Nat->Prop):G8 g w V b off cs:=by
 cases h with
 |cptr _ _ _ _ val Dg DH=>exact fun j av hj=>⟨_,(Dg j av hj).2.1,(Dg j av hj).2.2,(DH j av hj).up V⟩
theorem FG{o:Nat}{vs:Array Value}(h:w.heap[b]?=some (.cells vs E f)):w.cell? ⟨b,o,none⟩=vs[o]?:=by
 simp[World.cell?,h]
theorem G8.of_row{vs:Array Value}(h:w.heap[b]?=some (.cells vs E f))(hr:Cg g w U cs vs.toList):G8 g w U b 0 cs:=fun j av hj=>by
 have BW:j<vs.toList.length:=by rw[hr.1];grind
 have hx:vs.toList[j]?=some vs.toList[j]:=Aw BW;refine⟨vs.toList[j],?_,hr.2.1 _ (Am BW),hr.2.2 j av _ hj hx⟩
 grind [FG]
theorem Up{α:Type}{j:Nat}{f:Nat->α}{x:α}(h:((List.range n).map f)[j]?=some x):j<n/\x=f j:=by
 grind
section
variable {P:Program}{T:Gf}(hT:Cb P T){h:Nat->HO}{g:Gh}{w:World}{K:AV->Prop}
include hT
theorem K5{t:Nat}{b off:Nat}(hd:(T t).d≠.other)(ha:Jg (T t).d=false)(hc:w.cell? ⟨b,off,none⟩=some x):(loadVar t ⟨b,off,none⟩).run P w=.ok x w:=by
 unfold loadVar;simp[Sem.run_bind,hT.isAgg w hd,ha,hc]
theorem Rw{t:Nat}{b off:Nat}(hd:(T t).d≠.other)(ha:Jg (T t).d=true)(hl:vs.length=(T t).size)(hc:∀j x,vs[j]?=some x->w.cell? ⟨b,off+j,none⟩=some x):(loadVar t ⟨b,off,none⟩).run P w=.ok (.agg vs.toArray) w:=by
 unfold loadVar;have hr:=run_loadCells_list (P:=P) w ⟨b,off,none⟩ vs (fun j x hj=>by grind [Addr.add_lit]);simp[Sem.run_bind,hT.isAgg w hd,ha,hT.size w hd,<-hl,hr]
theorem L1{t:Nat}{b off:Nat}{cs:List AV}(hc:G8 g w (AI h) b off cs)(hk:K4 T t cs K):Bs P h g w (loadVar t ⟨b,off,none⟩) K:=by
 have agg:Jg (T t).d=true->(T t).d≠.other->(T t).size<=cs.length->K (.agg (cs.take (T t).size))->Bs P h g w (loadVar t ⟨b,off,none⟩) K:=by
  intro ha hd Ig hk;have hex:∀j:Nat,∃x:Value,∀av,cs[j]?=some av->w.cell? ⟨b,off+j,none⟩=some x/\x.oneCell'=true/\A3 g w (AI h) av x:=fun j=>by
   cases e:cs[j]? with
   |none=>simp_all
   |some av=>obtain⟨x,hx⟩:=hc j av e<;>simp_all
  obtain⟨val,hval⟩:=Classical.axiomOfChoice hex;have i7:∀j,j<(T t).size->∃av,cs[j]?=some av:=fun j hj=>⟨_,Aw B0⟩;refine⟨_,_,Rw hT (vs:=(List.range (T t).size).map val) hd ha aa0 (fun j x hx=>?_),hk,.agg _ _ _ Wk (fun i x hx=>?_) (fun i av x hi hx=>?_)⟩
  all_goals grind
 have single:Jg (T t).d=false->(T t).d≠.other->LJ cs K->Bs P h g w (loadVar t ⟨b,off,none⟩) K:=by
  intro ha hd hk;cases cs with
  |nil=>exact hk.elim
  |cons a r=>
   obtain⟨x,x1,x2,x3⟩:=hc 0 a rfl;exact⟨x,a,K5 hT hd ha x1,hk,x3⟩
 unfold K4 at hk;split at hk
 .rename_i fs e;exact agg (by rw[e];rfl) Wk hk.1 hk.2
 .rename_i n m e;exact agg (by rw[e];rfl) Wk hk.1 hk.2
 .rename_i e;have hd:(T t).d≠.other:=Wk
  have ha:Jg (T t).d=false:=by rw[e];rfl
  cases cs with
  |nil=>exact hk.elim
  |cons a r=>
   obtain⟨x,x1,x2,x3⟩:=hc 0 a rfl;simp only[LJ]at hk;split at hk
   .obtain rfl:=x3.v_eq;rename_i bb;refine⟨_,_,K5 hT hd ha x1,?_,.v _ _⟩;cases bb<;>simp_all
   simp_all
 .simp_all
 .rename_i e1 e2 e3 e4;refine single ?_ e4 hk;cases e:(T t).d<;>first | rfl | simp_all | simp_all
def WX(g:Gh)(w:World)(U:Nat->Prop)(xs:Array Value)(off:Nat)(cs:List AV):Prop:=
 ∀(j:Nat) (av:AV),cs[j]?=some av->∃x,xs[off+j]?=some x/\x.oneCell'=true/\A3 g w U av x
omit hT in
theorem WX.of_agg{cs:List AV}{xs:Array Value}{U:Nat->Prop}(hr:A3 g w U (.agg cs) (.agg xs))(o:Nat):WX g w U xs o (cs.drop o):=by
 cases hr with
 |agg _ _ _ hs h1 hh=>
  intro j av hj;rw[ER]at hj;have BW:o+j<xs.size:=aa1
  have hx:xs[o+j]?=some xs[o+j]:=Wk
  grind
theorem Yw{t:Nat}{xs:Array Value}{off:Nat}{cs:List AV}(hc:WX g w (AI h) xs off cs)(hk:Yv T t cs K):Bs P h g w (part t xs off) K:=by
 have agg:Jg (T t).d=true->(T t).d≠.other->(T t).size<=cs.length->K (.agg (cs.take (T t).size))->Bs P h g w (part t xs off) K:=by
  intro ha hd Ig hk;have i7:∀j,j<(T t).size->∃av,cs[j]?=some av:=fun j hj=>⟨_,Aw B0⟩;have Fi:∀(j:Nat) (x:Value),(xs.extract off (off+(T t).size))[j]?=some x->j<(T t).size/\xs[off+j]?=some x:=fun j x hx=>by
   grind
  have EQ:(xs.extract off (off+(T t).size)).size=(T t).size:=by
   by_cases h0:(T t).size=0
   .grind
   .obtain⟨av,qj⟩:=i7 ((T t).size-1) B0;obtain⟨x,x1,_⟩:=hc _ _ qj<;>grind [Array.getElem?_eq_some_iff]
  refine⟨_,_,Gr hT w hd ha xs off,hk,.agg _ _ _ Wk (fun i x hx=>?_) (fun i av x hi hx=>?_)⟩
  .obtain⟨hj,PG⟩:=Fi i x hx;obtain⟨av,qj⟩:=i7 i hj;obtain⟨y,y1,y2,y3⟩:=hc i av qj<;>simp_all
  .obtain⟨hj,PG⟩:=Fi i x hx;rw[Gg hj]at hi;obtain⟨y,y1,y2,y3⟩:=hc i av hi<;>simp_all
 have single:Jg (T t).d=false->(T t).d≠.other->LJ cs K->Bs P h g w (part t xs off) K:=by
  intro ha hd hk;cases cs with
  |nil=>exact hk.elim
  |cons a r=>
   obtain⟨x,x1,x2,x3⟩:=hc 0 a rfl;exact⟨x,a,Dv hT w hd ha xs off x x1,hk,x3⟩
 unfold Yv K4 at hk;split at hk
 .rename_i fs e;exact agg (by rw[e];rfl) Wk hk.1 hk.2
 .rename_i n m e;exact agg (by rw[e];rfl) Wk hk.1 hk.2
 .rename_i e;have hd:(T t).d≠.other:=Wk
  have ha:Jg (T t).d=false:=by rw[e];rfl
  cases cs with
  |nil=>exact hk.elim
  |cons a r=>
   obtain⟨x,x1,x2,x3⟩:=hc 0 a rfl;simp only[LJ]at hk;split at hk
   .obtain rfl:=x3.v_eq;rename_i bb;refine⟨_,_,Dv hT w hd ha xs off _ x1,?_,.v _ _⟩;cases bb<;>simp_all
   simp_all
 .simp_all
 .rename_i e1 e2 e3 e4;refine single ?_ e4 hk;cases e:(T t).d<;>first | rfl | simp_all | simp_all
theorem ZV{s f:Nat}{x:AV}(hx:A3 g w (AI h) x vx)(hk:Oo T s f x K):Bs P h g w (Instr.field s vx f) K:=by
 unfold Oo at hk;split at hk
 .rename_i fs cs hs;split at hk
  .rename_i t o hf;obtain⟨fa,u1,u2,u3⟩:=hT.struct hs;cases hx with
   |agg _ _ xs a1 a2 a3=>
    have oE:∃fd,fa[f]?=some fd/\fd.type=t/\fd.offset=o:=by
     have key:∀(l:List (Nat×Nat)) (n:Nat) (p:Nat×Nat),VY l n=some p->l[n]?=some p:=by
      intro l
      induction l with
      |nil=>intro n p h;cases h
      |cons y r ih=>intro n p h;cases n<;>grind [VY]
     grind
    obtain⟨fd,e1,rfl,rfl⟩:=oE;obtain⟨y,av,p1,p2,p3⟩:=Yw hT (WX.of_agg (.agg _ _ xs a1 a2 a3) fd.offset) hk;refine⟨y,av,?_,p2,p3⟩;simp only[Instr.field,Sem.run_bind,run_underlying u1,Result.andThen_ok,e1];simpa[asAgg]using p1
  simp_all
 simp_all
theorem SD{s f:Nat}{fs:List (Nat×Nat)}{t o:Nat}(hs:(T s).d=.struct fs)(hf:VY fs f=some (t,o)):∃fa fd,P.underlying s=some (.struct fa)/\fa[f]?=some fd/\fd.type=t/\fd.offset=o:=by
 obtain⟨fa,u1,u2,u3⟩:=hT.struct hs;have key:∀(l:List (Nat×Nat)) (n:Nat) (p:Nat×Nat),VY l n=some p->l[n]?=some p:=by
  intro l
  induction l with
  |nil=>intro n p h;cases h
  |cons y r ih=>intro n p h;cases n<;>grind [VY]
 grind
theorem dL{s f:Nat}{x:AV}(hx:A3 g w (AI h) x vx)(hk:Sx T s f x K):Bs P h g w (Instr.fieldAt s vx f) K:=by
 unfold Sx at hk;split at hk
 .rename_i fs hs;split at hk
  .rename_i t o hf;obtain⟨fa,fd,u1,e1,rfl,rfl⟩:=SD hT hs hf;split at hk
   .simp_all
   .rename_i k EQ;have Cu:∀b off,(Instr.fieldAt s (.pointer (some ⟨b,off,none⟩)) f).run P w=.ok (.pointer (some ⟨b,off+fd.offset,none⟩)) w:=fun b off=>by
     simp[Instr.fieldAt,run_underlying u1,e1,Instr.sureAddr,fieldPlace,hT.size1 w EQ,Addr.add_lit]
    split at hk
    .cases hx with
     |cptr _ _ b off val Dg DH=>exact⟨_,_,Cu b off,hk,(A3.cptr _ _ b off val Dg DH).cptr_drop _⟩
    .rename_i r off;cases hx with
     |ref _ _ _ b hu ht hp=>exact⟨_,_,Cu b off,hk,.ref _ r _ b hu ht hp⟩
    .rename_i r n sz i off;cases hx with
     |eref _ _ _ _ _ _ b cap hu ht hn hp=>
      refine⟨_,_,Cu b _,hk,?_⟩
      grind [A3.eref]
    simp_all
  simp_all
 simp_all
end
section
variable {P:Program}{T:Gf}(hT:Cb P T){h:Nat->HO}{g:Gh}{w:World}{K:AV->Prop}
section
include hT
theorem Ul{t:Nat}{x ix:AV}(hx:A3 g w (AI h) x vx)(hi:A3 g w (AI h) ix vi)(hk:I2 T t x ix K):Bs P h g w (Instr.indexAt t vx vi) K:=by
 unfold I2 at hk;split at hk
 .rename_i e i ht;obtain rfl:=hi.v_eq;have hu:=hT.slice ht;split at hk
  .simp_all
  .rename_i m hm;have Cu:∀b off (len cap:Nat),0<=i->i<(len:Int)->(Instr.indexAt t (.slice (some ⟨b,off,none⟩) len cap) (.int .i64 i)).run P w=.ok (.pointer (some ⟨b,off+i.toNat*(T e).size,none⟩)) w:=fun b off len cap h0 h1=>by
    simp[Instr.indexAt,asIntOf,run_underlying hu,h0,h1,hT.size1 w hm,Addr.add_lit,hm]
   split at hk
   .rename_i tk es;obtain⟨cs,⟨h0,h1⟩,h2,hk⟩:=hk;have hs:=hx.slice_none;have BW:=(AE.1 h1).1;cases hs with
    |snil=>simp_all
    |slice _ _ b off sz cap val hc hl Dg DH=>
     have EQ:sz=(T e).size:=aa1
     subst EQ;refine⟨_,_,Cu b off es.length cap h0 B0,hk,.cptr _ cs b _ (val i.toNat) (fun j av hj=>?_) (fun j av hj=>DH _ _ _ _ h1 hj)⟩
     grind
   .rename_i r n;obtain⟨⟨h0,h1⟩,hk⟩:=hk;cases hx with
    |msl _ _ _ a cap i9 ht' hn ha PG=>
     rcases ha with rfl | ⟨b,rfl⟩
     .omega
     .refine⟨_,_,Cu b 0 n cap h0 h1,hk,?_⟩;rw[Bz];exact .eref _ r n _ _ 0 b cap i9 ht' ⟨by omega,hn⟩ (fun e=>(PG e).symm)
   simp_all
 .rename_i n e i ht;obtain rfl:=hi.v_eq;have hu:=hT.array ht;split at hk
  .simp_all
  .rename_i m hm;have Cu:∀b off,0<=i->i<(n:Int)->(Instr.indexAt t (.pointer (some ⟨b,off,none⟩)) (.int .i64 i)).run P w=.ok (.pointer (some ⟨b,off+i.toNat*(T e).size,none⟩)) w:=fun b off h0 h1=>by
    simp[Instr.indexAt,asIntOf,run_underlying hu,h0,h1,hT.size1 w hm,Addr.add_lit,hm,Instr.sureAddr]
   split at hk
   .cases hx with
    |cptr _ _ b off val Dg DH=>exact⟨_,_,Cu b off hk.1.1 hk.1.2,hk.2,(A3.cptr _ _ b off val Dg DH).cptr_drop _⟩
   .rename_i r off;cases hx with
    |ref _ _ _ b hu ht hp=>exact⟨_,_,Cu b off hk.1.1 hk.1.2,hk.2,.ref _ r _ b hu ht hp⟩
   simp_all
 simp_all
theorem eH{t:Nat}{x ix:AV}(hx:A3 g w (AI h) x vx)(hi:A3 g w (AI h) ix vi)(hk:S8 T t x ix K):Bs P h g w (Instr.index t vx vi) K:=by
 unfold S8 at hk;split at hk
 .rename_i s k i ht;obtain rfl:=hx.v_eq;obtain rfl:=hi.v_eq;obtain⟨b,⟨h0,h1⟩,hk⟩:=hk;refine Bs.val (x:=.int .u8 b.toNat) ?_ hk;have h2:s[i.toNat]?=some b:=by
   have:=(Ac.1 h1)
   obtain⟨l1,l2⟩:=this;have l1' : i.toNat<s.size:=l1;rw[getElem?_pos s i.toNat l1'];exact Ab some l2
  simp[Instr.index,asIntOf,run_underlying (hT.string ht),h0,h2]
 .rename_i n e cs i ht;obtain rfl:=hi.v_eq;obtain⟨⟨h0,h1⟩,hk⟩:=hk;cases hx with
  |agg _ _ xs a1 a2 a3=>
   have hd:(T e).d≠.other:=by
    grind [Yv,K4]
   obtain⟨y,av,p1,p2,p3⟩:=Yw hT (WX.of_agg (.agg _ _ xs a1 a2 a3) _) hk;refine⟨y,av,?_,p2,p3⟩;simp[Instr.index,asIntOf,run_underlying (hT.array ht),h0,h1,hT.size w hd,p1]
 simp_all
theorem Xg{s t:Nat}{x:AV}(hx:A3 g w (AI h) x vx)(hk:UM T s t x K):Bs P h g w (convert s t vx) K:=by
 unfold UM at hk;split at hk
 .rename_i k n h1 h2;obtain rfl:=hx.v_eq;refine Bs.val (x:=.int .i64 n) ?_ hk.2;have hw:=MM hk.1;simp[convert,run_underlying (hT.int h1),run_underlying (hT.int h2),Conv.intToInt,hw]
 .rename_i k k' m n CU h1 h2;obtain rfl:=hx.v_eq;refine Bs.val (x:=.int k' (k'.wrap n)) ?_ hk;simp[convert,run_underlying (hT.int h1),run_underlying (hT.int h2),Conv.intToInt]
 .rename_i s' h1 h2;obtain rfl:=hx.v_eq;refine Bs.val (x:=.string s') ?_ hk;simp[convert,run_underlying (hT.string h1),run_underlying (hT.string h2)]
 .rename_i e tk es h1 h2;split at hk
  .rename_i h3;obtain⟨l,rfl,hk⟩:=hk;have hr:=hx.slice_none;refine Bs.val (x:=.string ⟨l.toArray⟩) ?_ hk;generalize rM:l.map (fun b=>[AV.v (.int .u8 b.toNat)])=es at hr;cases hr with
   |snil _ a cap=>
    have hl:l=[]:=Wk
    subst hl;cases a with
    |none=>exact Lib.run_convert_nil_bytes w s t e cap (hT.slice h1) (hT.int h3) (hT.string h2)
    |some a=>exact run_convert_bytes_back w s t e a cap [] (hT.slice h1) (hT.int h3) (hT.string h2) (fun j hj=>by grind)
   |slice _ _ b off sz cap val hc hl Dg DH=>
    have CF:l.length=es.length:=aa1
    have:=run_convert_bytes_back (P:=P) w s t e ⟨b,off,none⟩ cap l (hT.slice h1) (hT.int h3) (hT.string h2) (fun j hj=>by
     have hg:es[j]?=some [AV.v (.int .u8 l[j].toNat)]:=aa1
     have Ho:sz=1:=(hl j _ hg).symm;have h4:=Dg j _ 0 _ hg rfl;have h5:=DH j _ 0 _ hg rfl
     grind [Addr.add_lit,A3.v_eq])
    simp_all
  simp_all
 simp_all
end
theorem kQ{op:UnOp}{x:AV}(hx:A3 g w (AI h) x vx)(hk:Zf op x K):Bs P h g w (Op.unary op vx) K:=by
 unfold Zf at hk;split at hk
 .unfold fy at hk;split at hk
  .obtain rfl:=hx.v_eq;exact Bs.val (x:=.bool false) (by simp[Op.unary]) hk
  .obtain rfl:=hx.v_eq;exact Bs.val (x:=.bool true) (by simp[Op.unary]) hk
  simp_all
 .rename_i a;obtain rfl:=hx.v_eq;refine Bs.val (x:=.int .i64 (-a)) ?_ hk.2
  have:=MM hk.1
  simp[Op.unary,Op.intArith,this]
 .obtain rfl:=hx.v_eq;exact Bs.val (by simp[Op.unary,Op.intBits,GV]) hk
 simp_all
theorem Yo:∀{l:List AV} {j:Nat} {a:AV},nj l j=some a->l[j]?=some a
 | [],j,a,h=>by cases h
 |b::r,0,a,h=>by grind [nj]
 |b::r,j+1,a,h=>by simpa using Yo (l:=r) (j:=j) h
theorem Xv{i:Nat}{x:AV}(hx:A3 g w (AI h) x vx)(hk:LB x i K):Bs P h g w (Instr.extract vx i) K:=by
 unfold LB at hk;split at hk
 .rename_i cs;cases hx with
  |tup _ _ vs hs hh=>
   split at hk
   .rename_i a ha;have hc:=Yo ha;have hi:i<vs.size:=aa1
    exact⟨vs[i],_,by simp[Instr.extract,hi],hk,hh _ _ _ hc Wk⟩
   simp_all
 simp_all
theorem jR{c a b:AV}{vc va vb:Value}(hc:A3 g w (AI h) c vc)(ha:A3 g w (AI h) a va)(hb:A3 g w (AI h) b vb)(hk:Yx c a b K) :
  Bs P h g w (do pure (if <-asBool vc then va else vb)) K:=by
 unfold Yx at hk;split at hk
 .obtain rfl:=hc.v_eq;exact⟨va,a,by simp[asBool],hk,ha⟩
 .obtain rfl:=hc.v_eq;exact⟨vb,b,by simp[asBool],hk,hb⟩
 simp_all
theorem mY{t:Nat}{x y:AV}(hx:A3 g w (AI h) x vx)(hy:A3 g w (AI h) y vy)(hk:m6 max x y K):Bs P h g w (Builtin.max_ GI t #[vx,vy]) K:=by
 unfold m6 at hk;split at hk
 .rename_i k a k' b;split at hk
  .obtain rfl:=hx.v_eq;obtain rfl:=hy.v_eq;refine Bs.val (x:=.int k (max a b)) ?_ hk;simp[Builtin.max_,Builtin.max2];omega
  simp_all
 simp_all
theorem m5{t:Nat}{x y:AV}(hx:A3 g w (AI h) x vx)(hy:A3 g w (AI h) y vy)(hk:m6 min x y K):Bs P h g w (Builtin.min_ GI t #[vx,vy]) K:=by
 unfold m6 at hk;split at hk
 .rename_i k a k' b;split at hk
  .obtain rfl:=hx.v_eq;obtain rfl:=hy.v_eq;refine Bs.val (x:=.int k (min a b)) ?_ hk;simp[Builtin.min_,Builtin.min2];omega
  simp_all
 simp_all
end
theorem Cg.at(h:Cg g w U cs vs){av:AV}(hi:cs[i]?=some av):∃x,vs[i]?=some x/\x.oneCell'=true/\A3 g w U av x:=by
 have BW:i<vs.length:=by rw[h.1];grind
 exact⟨vs[i],Aw BW,h.2.1 _ (Am BW),h.2.2 i av _ hi (Aw BW)⟩
theorem E1{α:Type}{n:Nat}:∀{es:List (List α)},(∀c∈es,c.length=n)->∀{i j:Nat} {c:List α},es[i]?=some c->j<n->es.flatten[i*n+j]?=c[j]?
 | [],_,i,j,c,h,_=>by simp_all
 |d::es,hl,0,j,c,h,hj=>by
  grind
 |d::es,hl,i+1,j,c,h,hj=>by
  have hd:=hl d (Ae ..);rw[By,Bf aa1];rw[show(i+1)*n+j-d.length=i*n+j by grind];exact E1 (fun c hc=>hl c (Ah _ hc)) Wk hj
theorem CZ{α:Type}{n:Nat}:∀{es:List (List α)},(∀c∈es,c.length=n)->es.flatten.length=es.length*n
 | [],_=>by simp
 |d::es,hl=>by
  rw[By,Aa,hl d (Ae ..),CZ (fun c hc=>hl c (Ah _ hc)),AF,G5,Nat.add_comm]
section
variable {P:Program}{T:Gf}(hT:Cb P T){h:Nat->HO}{g:Gh}{w:World}{K:AV->Prop}(ho:∀r,DD g w (AI h) r (h r))
include ho
theorem dn(hT:Cb P T){t:Nat}{x:AV}(hx:A3 g w (AI h) x vx){hi mx:Option Operand}(hk:ZD T h t x hi mx K):Bs P h g w (Instr.sliceAt t vx none (hi.map ρ) (mx.map ρ)) K:=by
 unfold ZD at hk;split at hk
 .rename_i n e r hd;split at hk
  .rename_i cs hs he;obtain⟨rfl,hk⟩:=hk;cases hx with
   |ref _ _ _ b hu ht hx=>
    have hr:=ho r;rw[he]at hr;obtain⟨_,b',a1,a2⟩:=hr;rw[a1]at hx;cases hx;cases a2 with
    |cptr _ _ _ off val Dg DH=>
     have ha:=hT.array hd;refine⟨.slice (some ⟨b,0,none⟩) cs.length cs.length,_,?_,hk,?_⟩
     .simp[Instr.sliceAt,Instr.sureAddr,run_underlying ha,Instr.sliceBounds,hT.size1 w hs,Addr.add_lit]
     .have q:=A3.slice (g:=g) (w:=w) (AI h) (cs.map fun c=>[c]) b 0 1 cs.length (fun i _=>val i) aa0 aa0 ?_ ?_
      all_goals grind
  simp_all
 simp_all
theorem Vb(hT:Cb P T){t:Nat}{p:AV}{vp:Value}(hp:A3 g w (AI h) p vp)(hk:I4 T h t p K):Bs P h g w (Instr.loadAt t vp) K:=by
 have bl:∀b off,Bs P h g w (loadVar t ⟨b,off,none⟩) K->Bs P h g w (Instr.loadAt t (.pointer (some ⟨b,off,none⟩))) K:=by
  grind [Instr.loadAt,Instr.sureAddr]
 unfold I4 at hk;split at hk
 .cases hp with
  |cptr _ _ b off val Dg DH=>exact bl b off (L1 hT (G8.of_cptr (.cptr DR _ b off val Dg DH) _) hk)
 .rename_i r off;have hr:=ho r;cases hp with
  |ref _ _ _ b hu ht hx=>
   split at hk
   .rename_i cs e;rw[e]at hr;obtain⟨_,b',E,vs,a1,a2,a3,a4,a5⟩:=hr;rw[a2]at hx;cases hx
    have:=(G8.of_row a3 a4).drop off
    grind [L1]
   .rename_i cs e;rw[e]at hr;obtain⟨_,b',a1,a2⟩:=hr;rw[a1]at hx;cases hx
    have:=(G8.of_cptr a2 (AI h)).drop off
    grind [L1]
   simp_all
 .rename_i r n sz i off;have hr:=ho r;cases hp with
  |eref _ _ _ _ _ _ b cap hu ht hn hx=>
   split at hk
   .rename_i GS es e;rw[e]at hr;split at hk
    .rename_i hz;obtain rfl:=AT hz;obtain⟨CF,cs,h1,hk⟩:=hk;obtain⟨t1,l1,al,a1⟩:=hr;have BW:=(AE.1 h1).1;rcases a1 with ⟨rfl,_⟩ | ⟨b',Ko,E,vs,e1,e2,e3,e4,e5,e6,e7⟩
     .simp_all
     .have:=hx (CF.trans l1.symm)
      rw[e1]at this;simp only[Value.slice.injEq,Dq,Addr.mk.injEq]at this;obtain⟨⟨rfl,_,_⟩,_,_⟩:=this;refine bl _ _ (L1 hT (cs:=cs.drop off) (fun j av hj=>?_) hk);rw[ER]at hj;have hcl:=al cs (Ax h1);have we:off+j<sz:=aa1
      have hf:=E1 al h1 we
      grind [FG,Cg.at,A3.up]
    simp_all
   .rename_i GS es i' c av e;rw[e]at hr;split at hk
    .rename_i hz;obtain rfl:=AT hz;obtain⟨⟨CF,rfl,rfl⟩,hk⟩:=hk;obtain⟨t1,l1,al,b',Ko,E,vs,e1,e2,e3,e4,e5,e6,e7,e8,x,e9,vR⟩:=hr
     have:=hx (CF.trans l1.symm)
     rw[e1]at this;simp only[Value.slice.injEq,Dq,Addr.mk.injEq]at this;obtain⟨⟨rfl,_,_⟩,_,_⟩:=this;refine bl _ _ (L1 hT (cs:=[av]) (fun j a' hj=>?_) hk);cases j with
     |succ j=>grind
     |zero=>
      simp only[Dw,Dq]at hj;subst hj;refine⟨x,by grind [FG],?_,vR⟩;have hm:x∈vs.toList.take (es.length*sz):=by
       have h9:vs.toList[i*sz+off]?=some x:=aa1
       exact Ax (by rw[Gg e8];exact h9)
      exact e6.2.1 x hm
    simp_all
   simp_all
 simp_all
end
theorem FI{α:Type}:∀(cs:List α) (o:Nat) (vs:List α),(over cs o vs).length=cs.length
 | [],_,_=>rfl
 |c::cs,o+1,vs=>by simp[over,FI cs o vs]
 |c::cs,0,[]=>rfl
 |c::cs,0,v::vs=>by simp[over,FI cs 0 vs]
theorem Gc{α:Type}:∀(cs:List α) (o:Nat) (vs:List α) (i:Nat),o+vs.length<=cs.length->(over cs o vs)[i]?=if o<=i/\i<o+vs.length then vs[i-o]? else cs[i]?
 | [],o,vs,i,h=>by
  grind [over]
 |c::cs,o+1,vs,0,h=>by simp[over]
 |c::cs,o+1,vs,i+1,h=>by
  have:=Gc cs o vs i aa1
  grind [over]
 |c::cs,0,[],i,h=>by
  have:¬(0<=i/\i<0+([]:List α).length):=aa0
  rw[AB this];rfl
 |c::cs,0,v::vs,0,h=>by simp[over]
 |c::cs,0,v::vs,i+1,h=>by
  have:=Gc cs 0 vs i Wk
  grind [over]
theorem Cg.over{g:Gh}{w:World}{U:Nat->Prop}{cs Ug:List AV}{xs vs:List Value}(h:Cg g w U cs xs)(k:Cg g w U Ug vs)(o:Nat)(Ig:o+Ug.length<=cs.length) :
  Cg g w U (Eng.over cs o Ug) (Eng.over xs o vs):=by
 have tN : o+vs.length<=xs.length:=by rw[k.1,h.1];exact Ig
 refine⟨by rw[FI,FI,h.1],fun x hx=>?_,fun i av x h1 h2=>?_⟩
 .obtain⟨i,hi⟩:=A6.1 hx;rw[Gc _ _ _ _ tN]at hi;split at hi
  .exact k.2.1 _ (Ax hi)
  .exact h.2.1 _ (Ax hi)
 .rw[Gc _ _ _ _ Ig]at h1;rw[Gc _ _ _ _ tN,k.1]at h2;split at h1
  .rename_i hc;rw[As hc]at h2;exact k.2.2 _ _ _ h1 h2
  .rename_i hc;rw[AB hc]at h2;exact h.2.2 _ _ _ h1 h2
theorem qT(h:A3 g w U a x)(h1:one a=true):x.oneCell'=true:=by
 cases h with
 |v=>exact h1
 |tok _ r sz es _ h=>cases h with
  |snil=>rfl
  |slice=>rfl
 |ver _ r sz v es _ h=>cases h with
  |snil=>rfl
  |slice=>rfl
 |full _ sz es _ h=>cases h with
  |snil=>rfl
  |slice=>rfl
 |_=>first |rfl |(cases h1;done)
theorem fE(h:x.oneCell'=true):x.cells=#[x]:=by
 cases x<;>first | rfl | grind [Value.oneCell']
theorem Mp{K:List AV->Prop}(h:A3 g w U a x)(hk:GO n a K) :
  ∃cs,K cs/\cs.length=n/\Cg g w U cs x.cells.toList:=by
 have single:one a=true->n=1->K [a]->∃cs,K cs/\cs.length=n/\Cg g w U cs x.cells.toList:=by
  intro h1 hn hk;have hx:=qT h h1;rw[fE hx];refine⟨[a],hk,hn.symm,rfl,by simp_all,fun i av y e1 e2=>?_⟩
  grind
 unfold GO at hk;split at hk
 .rename_i cs;split at hk
  .rename_i hl;cases h with
   |agg _ _ vs hs h1 hr=>
    refine⟨cs,hk,AT hl,by grind [Value.cells],fun y hy=>?_,fun i av y e1 e2=>?_⟩
    all_goals grind [List.mem_iff_getElem?,Value.cells]
  simp_all
 grind
theorem Ny:∀(vs:List Value) (k o:Nat) (cs:Array Value),o+k+vs.length<=cs.size ->
  ((vs.zipIdx k).foldl (fun(cs:Array Value) (p:Value×Nat)=>cs.setIfInBounds (o+p.2) p.1) cs).toList=over cs.toList (o+k) vs
 | [],k,o,cs,_=>by
  have:∀(l:List Value) (o:Nat),over l o []=l:=by
   intro l
   induction l with
   |nil=>intro o;rfl
   |cons c l ih=>intro o;cases o<;>grind [over]
  simp_all
 |v::vs,k,o,cs,h=>by
  simp at h;rw[List.zipIdx_cons,FX,Ny vs (k+1) o _ aa1];simp only[Array.toList_setIfInBounds];apply Cr
  grind [Gc]
theorem Sz{g:Gh}{w:World}{U:Nat->Prop}{t:Nat->AV}{ρ:Operand->Value}(ht:∀x:Operand,A3 g w U (ev t x) (ρ x)){pl pl' : Nat->Option (Nat×Nat)}(wm:∀i p,pl i=some p->pl' i=some p) :
  ∀{ps:List (Nat×Operand)} {cs:List AV} {xs:Array Value} {K:List AV->Prop},Cg g w U cs xs.toList->JV pl cs t ps K ->
   ∃Xk WQ,K Xk/\Cg g w U Xk WQ.toList/\Instr.fill pl' xs (ps.map fun(i,x)=>(i,ρ x))=some WQ
 | [],cs,xs,K,h,hk=>⟨cs,xs,hk,h,rfl⟩
 |(i,x)::ps,cs,xs,K,h,hk=>by
  unfold JV at hk;split at hk
  .simp_all
  .rename_i o n hp;obtain⟨Ug,hk,hn,hr⟩:=Mp (ht x) hk;split at hk
   .rename_i Ig;have Ig:=Ak Ig;have EQ:(ρ x).cells.size=n:=by rw[<-hn];simpa using hr.1
    have mL:cs.length=xs.size:=by simpa using h.1.symm
    have Db:=h.over hr o B0;have e:=Ny (ρ x).cells.toList 0 o xs Wk;simp only[Dp]at e;rw[<-e]at Db;obtain⟨Xk,WQ,k1,k2,k3⟩:=Sz ht wm Db hk<;>grind [Instr.fill,Array.toList_zipIdx]
   simp_all
theorem Mm:∀{l:List AV},Gu l=true->∀a∈l,one a=true
 | [],_,a,h=>by cases h
 |b::r,h,a,ha=>by
  unfold Gu at h;split at h
  .rename_i hb;rcases AM.1 ha with rfl | ha
   .exact hb
   .exact Mm h a ha
  simp_all
theorem Cg.vals(h:Gu (vs.map .v)=true):Cg g w U (vs.map .v) vs:=by
 refine⟨by simp,fun x hx=>?_,fun i av x h1 h2=>?_⟩
 .have:=Mm h (.v x) (Ar.2 ⟨x,hx,rfl⟩)
  grind [one]
 grind [A3.v]
section
variable {P:Program}{T:Gf}(hT:Cb P T){h:Nat->HO}{g:Gh}{w:World}{K:AV->Prop}
theorem Ya{α β:Type}(P:Program)(w:World)(f:α->Sem β)(f' : α->β):∀(l:List α),(∀a∈l,(f a).run P w=.ok (f' a) w)->(l.mapM f).run P w=.ok (l.map f') w
 | [],_=>rfl
 |a::l,h=>by
  have h1:=h a (Ae ..);have h2:=Ya P w f f' l (fun b hb=>h b (Ah _ hb));simp_all
theorem Qz:∀{fs:List (Nat×Nat)},N4 T fs=true->∀p∈fs,∃n,(T p.1).size=n+1
 | [],_,p,h=>by cases h
 |(t,o)::r,h,p,hp=>by
  unfold N4 at h;split at h
  .cases h
  .rename_i n hn;rcases AM.1 hp with rfl | hp
   .simp_all
   .exact Qz h p hp
include hT
theorem Ml{t:Nat}(hd:(T t).d≠.other):∃z,(zeroValue t).run P w=.ok z w/\(T t).zc=z.cells.toList/\(T t).zero=z:=by
 obtain⟨d,i,z,h1,h2,h3,h4,h5,h6,h7,h8⟩:=hT.get hd;exact⟨z,by simp[zeroValue,typeInfo,h3,h4],by rw[TI.zc_cells,h7],h7⟩
theorem Vx{t n:Nat}(h:(T t).size=n+1):∃z,(zeroValue t).run P w=.ok z w/\(T t).zc=z.cells.toList:=by
 rcases hT t with e | e
 .rw[e]at h;cases h
 unfold gp at e;split at e
 .split at e
  .rename_i d i h1 h2 _ z h3;exact⟨z,by simp[zeroValue,typeInfo,h2,h3],by rw[TI.zc_cells,e]⟩
  simp_all
 simp_all
theorem dw{ty:Nat}{t:Nat->AV}(ht:∀x:Operand,A3 g w (AI h) (ev t x) (ρ x)){ps:Array (Nat×Operand)}(hk:Pq T ty t ps.toList K) :
  Bs P h g w (Instr.build ty (ps.map fun(i,x)=>(i,ρ x))) K:=by
 unfold Pq at hk;split at hk
 .simp_all
 .rename_i Ho;have fin:∀(Xk : List AV) (WQ : Array Value),Cg g w (AI h) Xk WQ.toList->A3 g w (AI h) (.agg Xk) (.agg WQ):=fun Xk WQ hr=>
   .agg _ _ _ (by simpa using hr.1) (fun i x hx=>hr.2.1 x (Ax (by simpa using hx))) (fun i av x h1 h2=>hr.2.2 i av x h1 Wk)
  split at hk
  .rename_i fs hs;have hd:(T ty).d≠.other:=Wk
   obtain⟨z,z1,z2,_⟩:=Ml hT (w:=w) hd;split at hk
   .simp_all
   .rename_i EQ;obtain⟨fa,u1,u2,u3⟩:=hT.struct hs;have mF:(fa.mapM fun(f:Field)=>(do pure (f.offset,<-sizeOf f.type):Sem (Nat×Nat))).run P w=.ok (fa.map fun f=>(f.offset,(T f.type).size)) w:=by
     rw[Array.mapM_eq_mapM_toList]
     have:=Ya P w (fun f:Field=>(do pure (f.offset,<-sizeOf f.type):Sem (Nat×Nat))) (fun f=>(f.offset,(T f.type).size)) fa.toList (fun f hf=>by
      obtain⟨n,hn⟩:=Qz EQ (f.type,f.offset) aa1;simp[hT.size1 w hn,hn])
     simp only[Sem.run_map,this,Result.andThen_ok]
     congr 1
     apply Array.ext';simp
    rw[z2]at hk Ho;obtain⟨Xk,WQ,k1,k2,k3⟩:=Sz ht (pl':=fun i=>(fa.map fun f=>(f.offset,(T f.type).size))[i]?) (fun i p hp=>by
     split at hp
     .rename_i t' o hf;cases hp;obtain⟨fa',fd,v1,v2,rfl,rfl⟩:=SD hT hs hf<;>simp_all
     simp_all) (Cg.vals (vs:=z.cells.toList) Ho) hk
    refine⟨_,_,?_,k1,fin Xk WQ k2⟩;simp only[Instr.build,Sem.run_bind,z1,Result.andThen_ok,run_underlying u1,mF];simp_all
  .rename_i n e hs;have hd:(T ty).d≠.other:=Wk
   obtain⟨z,z1,z2,_⟩:=Ml hT (w:=w) hd;split at hk
   .simp_all
   .rename_i m hm;rw[z2]at hk Ho;obtain⟨Xk,WQ,k1,k2,k3⟩:=Sz ht (pl':=fun i=>some (i*(T e).size,(T e).size)) (fun i p hp=>hp) (Cg.vals (vs:=z.cells.toList) Ho) hk;refine⟨_,_,?_,k1,fin Xk WQ k2⟩;simp only[Instr.build,Sem.run_bind,z1,Result.andThen_ok,run_underlying (hT.array hs),hT.size1 w hm];simp_all
  simp_all
end
theorem mS{a b:KS}(h:mR a b=true):a=b:=by
 cases a<;>cases b<;>first | rfl | (simp[mR]at h;done) | grind [mR,KD]
theorem X3:∀{a b:List KS},Td a b=true->a=b
 | [],[],_=>rfl
 |x::a,y::b,h=>by
  unfold Td at h;split at h
  .rename_i e;obtain rfl:=mS e;obtain rfl:=X3 h;rfl
  simp_all
 | [],_::_,h=>by grind [Td]
 |_::_,[],h=>by grind [Td]
theorem nW{a b:Er}(h:rj a b=true):a=b:=by
 obtain⟨a1,a2⟩:=a;obtain⟨b1,b2⟩:=b<;>grind [rj,X3]
section
variable {P:Program}{T:Gf}(hT:Cb P T)
include hT
def JK(P:Program)(w:World)(b:Bool)(d t:Nat)(xs:Array Value)(o:Nat):Prop:=
 (do let a <-part t xs o;Instr.checkKey b d t a).run P w=.ok () w
theorem Si(w:World)(b:Bool):∀(n t:Nat) (l:List KS),Hf T n t=some l->∀d,n<=d->∀(xs:Array Value) (o:Nat),Je l (Ih xs.toList o l.length)=true->JK P w b d t xs o
 |0,t,l,h=>by grind [Hf]
 |n+1,t,l,h=>by
  intro d hd xs o hx;obtain⟨d,rfl⟩:∃d',d=d'+1:=⟨d-1,by omega⟩;have scalar:∀k,(T t).d≠.other->Jg (T t).d=false->l=[k]->(∀x,M5 k x=true->(Instr.checkKey b (d+1) t x).run P w=.ok () w)->JK P w b (d+1) t xs o:=by
   rintro k bN hs rfl hk
   obtain⟨x,x1,x2,x3⟩:=KO hx;unfold JK;simp[Sem.run_bind,Dv hT w bN hs xs o _ x1,hk x x2]
  unfold Hf at h;split at h
  .rename_i k hk;split at h
   .cases h
    refine scalar _ Wk (by rw[hk];rfl) rfl (fun x hx=>?_);cases x<;>simp[M5]at hx
    simp[Instr.checkKey,run_underlying (hT.int hk)]
   simp_all
  .rename_i hk;split at h
   .cases h
    refine scalar _ Wk (by rw[hk];rfl) rfl (fun x hx=>?_);cases x<;>simp[M5]at hx
    simp[Instr.checkKey,run_underlying (hT.string hk)]
   simp_all
  .rename_i hk;split at h
   .cases h
    refine scalar _ Wk (by rw[hk];rfl) rfl (fun x hx=>?_);cases x<;>simp[M5]at hx
    simp[Instr.checkKey,run_underlying (hT.bool hk)]
   simp_all
  .rename_i fs hk;split at h
   .split at h
    .rename_i l' LL;split at h
     .rename_i CF;cases h;have CF:=AT CF;have bN:(T t).d≠.other:=Wk
      have hs:Jg (T t).d=true:=by rw[hk];rfl
      obtain⟨fa,u1,u2,u3⟩:=hT.struct hk;rw[u2]at LL;have ex:(xs.extract o (o+(T t).size)).toList=Ih xs.toList o l.length:=by
       grind [Ih,Array.toList_extract]
      have s0:Ih (Ih xs.toList o l.length) 0 l.length=Ih xs.toList o l.length:=by
       grind [cL]
      unfold JK;simp only[Sem.run_bind,Gr hT w bN hs,Result.andThen_ok];have ih:=Si w b n;have hq:Je l (Ih (xs.extract o (o+(T t).size)).toList 0 l.length)=true:=Wk
      generalize xs.extract o (o+(T t).size)=ys at hq;simp only[Instr.checkKey,Sem.run_bind,run_underlying u1,Result.andThen_ok];rw[<-Array.forIn_toList]
      clear u2 hk
      have key : ∀ (fl : List Field) (m : Nat) (l : List KS), Nx (Hf T n) m (fl.map fun f => (f.type, f.offset)) = some l -> (∀ f ∈ fl, f.name ≠ "_") -> Je l (Ih ys.toList m l.length) = true ->
        (forIn fl PUnit.unit (fun (f : Field) (_ : PUnit) => ((if f.name ≠ "_" then (do
         let x <-part f.type ys f.offset
         Instr.checkKey b d f.type x
         pure (ForInStep.yield PUnit.unit))else pure (ForInStep.yield PUnit.unit)):Sem (ForInStep PUnit)))).run P w=.ok PUnit.unit w:=by
       intro fl
       induction fl with
       |nil=>simp_all
       |cons f fl ihf=>
        intro m l hg hn hy;obtain⟨ho,a,c,ha,hc,rfl⟩:=M2 hg;rw[Aa]at hy;obtain⟨y1,y2⟩:=RH hy;rw[Pc _ _ _ _ B0]at y1;rw[TQ,RQ]at y2;have h1:=ih f.type a ha d B0 ys m y1;unfold JK at h1;rw[List.forIn_cons];simp only[Sem.run_bind,As (hn f (Ae ..))];simp only[Sem.run_bind]at h1;rw[ho];generalize (part f.type ys m).run P w=r1 at h1⊢;cases r1 with
        |halt x w1=>cases h1
        |ok u w1=>
         grind [Result.andThen_ok,Sem.run_pure]
      rw[key fa.toList 0 l LL u3 hq]
      rfl
     simp_all
    simp_all
   simp_all
  simp_all
theorem ky(hs:Hy T kt=some sh)(w:World)(hx:WE sh x=true)(hy:WE sh y=true) :
  ∃b:Bool,(Op.equal kt x y).run P w=.ok b w/\(b=true↔x=y):=by
 unfold Hy at hs;split at hs
 .rename_i fs hk;split at hs
  .rename_i l hl;cases hs;cases x<;>simp only[WE]at hx<;>try (cases hx;done)
   cases y<;>simp only[WE]at hy<;>try (cases hy;done)
   rename_i xs ys;have hd:(T kt).d≠.other:=Wk
   have ha:Jg (T kt).d=true:=by rw[hk];rfl
   have CF:l.length=(T kt).size:=by
    grind [Hf,Nat.eq_of_beq_eq_true]
   have s0:∀zs:Array Value,Je l zs.toList=true->Ih zs.toList 0 l.length=zs.toList:=fun zs hz=>by
    grind [Mx,Ih,List.take_of_length_le]
   have ex:∀zs:Array Value,Je l zs.toList=true->zs.extract 0 (0+(T kt).size)=zs:=fun zs hz=>by
    have:=Mx hz
    simp_all
   obtain⟨b,b1,b2⟩:=VW hT w 8 kt l hl 10000 B0 xs ys 0 Wk Wk;simp only[Sem.run_bind,Gr hT w hd ha,Result.andThen_ok,ex _ hx,ex _ hy]at b1;rw[s0 _ hx,s0 _ hy]at b2;refine⟨b,b1,b2.trans ⟨fun e=>by simp_all,fun e=>by simp_all⟩⟩
  simp_all
 .rename_i OF;split at hs
  .rename_i l hl;cases hs;have PG : Je l [x]=true:=by cases x<;>exact hx
   have hy' : Je l [y]=true:=by cases y<;>exact hy
   have single:∀k,l=[k]->M5 k x=true/\M5 k y=true:=by
    grind [Je]
   have e9:Op.equal kt x y=Op.equalIn (9999+1) kt x y:=rfl;rw[e9];unfold Hf at hl;split at hl
   .rename_i k hk;split at hl
    .cases hl
     obtain⟨h1,h2⟩:=single _ rfl;cases x<;>simp[M5]at h1
     cases y<;>simp[M5]at h2
     obtain rfl:=KD h1;obtain rfl:=KD h2;exact⟨_,run_equalIn_int w 9999 kt _ _ _ _ (hT.int hk),by simp⟩
    simp_all
   .rename_i hk;split at hl
    .cases hl
     obtain⟨h1,h2⟩:=single _ rfl;cases x<;>simp[M5]at h1
     cases y<;>simp[M5]at h2
     exact⟨_,run_equalIn_string w 9999 kt _ _ (hT.string hk),by grind [I8]⟩
    simp_all
   .rename_i hk;split at hl
    .cases hl
     obtain⟨h1,h2⟩:=single _ rfl;cases x<;>simp[M5]at h1
     cases y<;>simp[M5]at h2
     exact⟨_,run_equalIn_bool' w 9999 kt _ _ (hT.bool hk),by simp⟩
    simp_all
   all_goals simp_all
  simp_all
theorem Mh(hs:Hy T kt=some sh)(w:World)(b:Bool)(hx:WE sh x=true):(Instr.checkKey b 10000 kt x).run P w=.ok () w:=by
 unfold Hy at hs;split at hs
 .rename_i fs hk;split at hs
  .rename_i l hl;cases hs;cases x<;>simp only[WE]at hx<;>try simp_all
   rename_i xs;have hd:(T kt).d≠.other:=Wk
   have ha:Jg (T kt).d=true:=by rw[hk];rfl
   have CF:l.length=(T kt).size:=by
    grind [Hf,Nat.eq_of_beq_eq_true]
   have:=Mx hx
   have h0:Ih xs.toList 0 l.length=xs.toList:=by
    grind [Ih]
   have h1:=Si hT w b 8 kt l hl 10000 B0 xs 0 Wk
   grind [JK,Sem.run_bind,Gr,Result.andThen_ok,Array.extract_size]
  simp_all
 .rename_i OF;split at hs
  .rename_i l hl;cases hs;have key:∀d,(Instr.checkKey b (d+1) kt x).run P w=.ok () w:=by
    intro d;unfold Hf at hl;split at hl
    .rename_i k hk;simp[Instr.checkKey,run_underlying (hT.int hk)]
    .rename_i hk;simp[Instr.checkKey,run_underlying (hT.string hk)]
    .rename_i hk;simp[Instr.checkKey,run_underlying (hT.bool hk)]
    all_goals simp_all
   simp_all
  simp_all
end
def Lp(x:Value)(es:List MapEntry)(i:Nat)(r:Option (Nat×Value)):Prop:=
 (r=none/\∀e∈es,e.key≠x)\/∃(j:Nat) (e:MapEntry),r=some (i+j,e.val)/\es[j]?=some e/\e.key=x
theorem Lp.here{es:List MapEntry}(h:e.key=x):Lp x (e::es) i (some (i,e.val)):=
 .inr ⟨0,e,rfl,rfl,h⟩
theorem Lp.there{es:List MapEntry}{r:Option (Nat×Value)}(h:e.key≠x)(k:Lp x es (i+1) r):Lp x (e::es) i r:=by
 rcases k with ⟨h1,h2⟩ | ⟨j,e',h1,h2,h3⟩
 .exact .inl ⟨h1,fun d hd=>(AM.1 hd).elim (fun e'=>e'▸h) (h2 d)⟩
 .exact .inr ⟨j+1,e',by grind,h2,h3⟩
theorem SA{kind:TypeDesc}{x:Value}:∀(es:List MapEntry) (i:Nat),(∀e∈es,∃b,Instr.sameNow kind x e.key=some b/\(b=true↔x=e.key))->∃r,Instr.findNow kind x es i=some r/\Lp x es i r
 | [],i,_=>⟨none,rfl,.inl ⟨rfl,fun _ h=>by cases h⟩⟩
 |e::es,i,h=>by
  obtain⟨b,b1,b2⟩:=h e (Ae ..);cases b with
  |true=>exact⟨_,by grind [Instr.findNow],.here (b2.1 rfl).symm⟩
  |false=>
   obtain⟨r,r1,r2⟩:=SA es (i+1) (fun d hd=>h d (Ah _ hd))<;>grind [Instr.findNow,Lp.there]
section
variable {P:Program}{T:Gf}(hT:Cb P T)
include hT
theorem M0{kt:Nat}{sh:Er}(hs:Hy T kt=some sh)(w:World){x:Value}(hx:WE sh x=true) :
  ∀(es:List MapEntry) (i:Nat),(∀e∈es,WE sh e.key=true)->∃r,(Instr.findAsking kt x es i).run P w=.ok r w/\Lp x es i r
 | [],i,_=>⟨none,rfl,.inl ⟨rfl,fun _ h=>by cases h⟩⟩
 |e::es,i,h=>by
  obtain⟨b,b1,b2⟩:=ky hT hs w hx (h e (Ae ..));cases b with
  |true=>exact⟨_,by simp[Instr.findAsking,b1],.here (b2.1 rfl).symm⟩
  |false=>
   obtain⟨r,r1,r2⟩:=M0 hs w hx es (i+1) (fun d hd=>h d (Ah _ hd));exact⟨r,by simp[Instr.findAsking,b1,r1],.there (fun e'=>by simp_all) r2⟩
theorem NS(hs:Hy T kt=some sh)(w:World)(hx:WE sh x=true)(es:List MapEntry)(he:∀e∈es,WE sh e.key=true) :
  ∃r,(Instr.findKey kt x es).run P w=.ok r w/\Lp x es 0 r:=by
 have wZ:∀d,P.underlying kt=some d->Instr.findNow d x es 0=none->∃r,(Instr.findKey kt x es).run P w=.ok r w/\Lp x es 0 r:=by
  intro d hd hn;obtain⟨r,r1,r2⟩:=M0 hT hs w hx es 0 he;exact⟨r,by simp[Instr.findKey,run_underlying hd,hn,r1],r2⟩
 have now:∀d,P.underlying kt=some d->(∀e∈es,∃b,Instr.sameNow d x e.key=some b/\(b=true↔x=e.key))->∃r,(Instr.findKey kt x es).run P w=.ok r w/\Lp x es 0 r:=by
  intro d hd hn;obtain⟨r,r1,r2⟩:=SA es 0 hn;exact⟨r,by simp[Instr.findKey,run_underlying hd,r1],r2⟩
 have ao:=hs;unfold Hy at ao;split at ao
 .rename_i fs hk;obtain⟨fa,u1,_⟩:=hT.struct hk;cases es<;>grind [Instr.findNow,Instr.sameNow]
 .rename_i OF;split at ao
  .rename_i l hl;cases ao;have cv:∀y,WE ⟨false,l⟩ y=true->Je l [y]=true:=fun y hy=>by cases y<;>exact hy
   have PG:=cv x hx;have yH : ∀e∈es,Je l [e.key]=true:=fun e h=>cv _ (he e h)
   clear hx he cv
   have single:∀k y,l=[k]->Je l [y]=true->M5 k y=true:=by
    grind [Je]
   unfold Hf at hl;split at hl
   .rename_i k hk;split at hl
    .cases hl
     refine now _ (hT.int hk) (fun e h=>?_);have h1:=single _ _ rfl PG;have h2:=single _ _ rfl (yH e h);generalize e.key=y at h2;cases x<;>simp[M5]at h1
     cases y<;>simp[M5]at h2
     obtain rfl:=KD h1;obtain rfl:=KD h2;exact⟨_,by simp[Instr.sameNow];rfl,by simp⟩
    simp_all
   .rename_i hk;split at hl
    .cases hl
     refine now _ (hT.string hk) (fun e h=>?_);have h1:=single _ _ rfl PG;have h2:=single _ _ rfl (yH e h);generalize e.key=y at h2;cases x<;>simp[M5]at h1
     cases y<;>simp[M5]at h2
     exact⟨_,by simp[Instr.sameNow];rfl,by grind [beq_toListBytes,I8]⟩
    simp_all
   .rename_i hk;split at hl
    .cases hl
     refine now _ (hT.bool hk) (fun e h=>?_);have h1:=single _ _ rfl PG;have h2:=single _ _ rfl (yH e h);generalize e.key=y at h2;cases x<;>simp[M5]at h1
     cases y<;>simp[M5]at h2
     exact⟨_,by simp[Instr.sameNow];rfl,by simp⟩
    simp_all
   all_goals simp_all
  simp_all
end
theorem Rd{P:Program}(w:World)(hx:WE sh x=true):(Instr.keyThatStays x x).run P w=.ok x w:=by
 have scalar:∀(k:KS) (y:Value) (n:Nat),M5 k y=true->Instr.sameBits n y y=true:=by
  intro k y n h;cases k<;>cases y<;>simp[M5]at h<;>cases n<;>simp[Instr.sameBits,beq_toListBytes]
 have lst:∀(l:List KS) (ys:List Value) (n:Nat),Je l ys=true->((ys.zip ys).all fun(a,b)=>Instr.sameBits n a b)=true:=by
  intro l ys n
  induction ys generalizing l with
  |nil=>simp_all
  |cons y ys ih=>
   grind [List.zip_cons_cons,Je.eq_def]
 have h1:∀n,Instr.sameBits (n+1) x x=true:=by
  intro n;obtain⟨ag,l⟩:=sh;cases ag with
  |true=>
   cases x<;>simp only[WE]at hx<;>try simp_all
   have:=lst l _ n hx
   grind [Instr.sameBits]
  |false=>
   have PG : Je l [x]=true:=by cases x<;>exact hx
   grind [Je.eq_def]
 have:=h1 9999
 simp only[Instr.keyThatStays];simp_all
theorem Vv:∀{cs:List AV} {l:List Value},WM cs=some l->cs=l.map .v
 | [],l,h=>by cases h;rfl
 |a::r,l,h=>by
  cases a<;>simp only[WM]at h<;>try (cases h;done)
  split at h
  .rename_i l' hl;cases h;rw[Vv hl];rfl
  simp_all
theorem mO(h:A3 g w U a x)(hk:qI a=some y):x=y:=by
 unfold qI at hk;split at hk
 .grind [A3.v_eq]
 .split at hk
  .rename_i l hl;cases hk;obtain rfl:=Vv hl;exact h.agg_vals
  simp_all
 simp_all
theorem Mw{T:Gf}{ty:Nat}{K:Value->Prop}(h:A3 g w U a x)(hk:JF T ty sh a K) :
  ∃kt e,(T ty).d=.map kt e/\Hy T kt=some sh/\WE sh x=true/\K x:=by
 unfold JF at hk
 grind [nW,mO]
theorem GU.shape(h:GU sh es ck BU):∀e∈es.toList,WE sh e.key=true:=by
 intro e he;obtain⟨h1,h2,h3,_⟩:=h;obtain⟨i,hi⟩:=A6.1 he;have BW:i<BU.length:=aa1
 rw[h2 i BU[i] e (Aw BW) Wk]
 grind
theorem GU.none(h:GU sh es ck BU)(hn:∀e∈es.toList,e.key≠x)(a:AV):(x,a)∉BU:=by
 intro hm;obtain⟨h1,h2,_⟩:=h;obtain⟨i,hi⟩:=A6.1 hm;have BW:i<es.size:=aa1
 exact hn es[i] aa0 (h2 i _ es[i] hi Wk)
theorem GU.some{sh:Er}{es:Array MapEntry}{ck:Nat}{BU:List (Value×AV)}(h:GU sh es ck BU){x:Value}{j:Nat}{e:MapEntry}(he:es.toList[j]?=some e)(hk:e.key=x) :
  ∃a,BU[j]?=some (x,a)/\(x,a)∈BU:=by
 obtain⟨h1,h2,_⟩:=h;have BW:j<BU.length:=aa1
 have hg:BU[j]?=Option.some BU[j]:=Aw BW
 grind
section
variable {P:Program}{T:Gf}(hT:Cb P T){h:Nat->HO}{g:Gh}{w:World}{K:AV->Prop}
section
include hT
theorem Vw{t:Nat}(hk:JH T t K):Bs P h g w (zeroValue t) K:=by
 unfold JH at hk;split at hk
 .simp_all
 .rename_i hd;obtain⟨z,z1,z2,z3⟩:=Ml hT (w:=w) hd;rw[z3]at hk;split at hk
  .rename_i cs;split at hk
   .rename_i ha;have hr:=Cg.vals (g:=g) (w:=w) (U:=AI h) ha;exact⟨_,_,z1,hk,.agg _ _ _ aa0 (fun i x hx=>hr.2.1 x (Ax (by simpa using hx))) (fun i av x h1 h2=>hr.2.2 i av x h1 Wk)⟩
   simp_all
  .exact⟨_,_,z1,hk,.v _ _⟩
theorem Jt{ty b:Nat}{kt e:Nat}{ck:Nat}{BU:List (Value×AV)}(ht:(T ty).d=.map kt e)(hs:Hy T kt=some sh)(hx:WE sh x=true)(hb:w.heap[b]?=some (.map es ck))(hm:GU sh es ck BU)(hv:∀(i:Nat) (kv:Value×AV) (e:MapEntry),BU[i]?=some kv->es[i]?=some e->A3 g w (AI h) kv.2 e.val)(hk:LF T ty ok BU x K):Bs P h g w (Instr.lookup ty (.map (some b)) x ok) K:=by
 have hu:=hT.map ht;have Fi:=run_getObj_map (P:=P) w b es ck hb;have XK:=fun bb=>Mh hT hs w bb hx;obtain⟨r,r1,r2⟩:=NS hT hs w hx es.toList hm.shape;unfold LF at hk;rw[ht]at hk;dsimp only at hk;rcases r2 with ⟨rfl,hn⟩ | ⟨j,en,rfl,hj,hkey⟩
 .have bS:=fun a=>hm.none hn a;cases ok with
  |true=>
   obtain⟨y,av,y1,y2,y3⟩:=Vw hT (K:=fun z=>K (.tup [z,.v (.bool false)])) (P:=P) (h:=h) (g:=g) (w:=w) (hk.2 bS);refine⟨.tuple #[y,.bool false],_,?_,y2,.tup _ _ _ rfl (fun i a x h1 h2=>?_)⟩
   .simp[Instr.lookup,run_underlying hu,Fi,XK,r1,y1]
   grind [A3.v]
  |false=>
   obtain⟨y,av,y1,y2,y3⟩:=Vw hT (K:=K) (P:=P) (h:=h) (g:=g) (w:=w) (hk.2 bS);exact⟨y,av,by simp[Instr.lookup,run_underlying hu,Fi,XK,r1,y1],y2,y3⟩
 .obtain⟨a,a1,a2⟩:=hm.some hj hkey;have hr:=hv j (x,a) en a1 Wk;cases ok with
  |true=>
   refine⟨.tuple #[en.val,.bool true],_,?_,hk.1 a a2,.tup _ _ _ rfl (fun i av y h1 h2=>?_)⟩
   .simp[Instr.lookup,run_underlying hu,Fi,XK,r1]
   grind [A3.v]
  |false=>exact⟨en.val,a,by simp[Instr.lookup,run_underlying hu,Fi,XK,r1],hk.1 a a2,hr⟩
theorem ax(ho:∀r,DD g w (AI h) r (h r)){ty:Nat}{m k:AV}{vm vk:Value}(hm:A3 g w (AI h) m vm)(hx:A3 g w (AI h) k vk)(hk:MA T h ty m k ok K) :
  Bs P h g w (Instr.lookup ty vm vk ok) K:=by
 unfold MA at hk;split at hk
 .obtain⟨kt,e,k1,k2,k3,k4⟩:=Mw hx hk;cases hm with
  |cmap _ _ _ b es ck hS hb hmm hv=>exact Jt hT k1 k2 k3 hb hmm (fun i kv e p q=>(hv i kv e p q).up _) k4
 .rename_i r;have hr:=ho r;cases hm with
  |mref _ _ b hu ht hp=>
   split at hk
   .rename_i sh BU e;rw[e]at hr;obtain⟨_,b',es,ck,a1,a2,a3,a4,a5,a6⟩:=hr<;>grind [Mw,Jt,A3.up]
   .rename_i sh BU e;rw[e]at hr;obtain⟨_,b',es,ck,a1,a2,a3,a4,a5,a6⟩:=hr<;>grind [Mw,Jt]
   .rename_i sh BU e;rw[e]at hr;obtain⟨_,b',a1,a2⟩:=hr;rw[a1]at hp;cases hp;obtain⟨kt,e,k1,k2,k3,k4⟩:=Mw hx hk;cases a2 with
    |cmap _ _ _ _ es ck hS hb hmm hv=>exact Jt hT k1 k2 k3 hb hmm (fun i kv e p q=>(hv i kv e p q).up _) k4
   simp_all
 simp_all
omit hT in
theorem iz{ty:Nat}{BU:List (Value×AV)}{kx:Value}(hk:LD T ty ok BU kx K):LF T ty ok BU kx K:=by
 unfold LD at hk;unfold LF;split at hk
 all_goals grind
omit hT in
theorem eP{ty:Nat}{k:AV}{A B:Value->Prop}(hk:JF T ty sh k A)(hab:∀x,A x->B x):JF T ty sh k B:=by
 grind [JF]
omit hT in
theorem fc{ty:Nat}{m k:AV}(hk:Mz T h ty m k ok K):MA T h ty m k ok K:=by
 unfold Mz at hk
 grind [MA,eP,iz]
theorem jo(ho:∀r,DD g w (AI h) r (h r)){t ty:Nat}{x:AV}(hx:A3 g w (AI h) x vx)(hk:QR T t h x K):Bs P h g w (Builtin.len_ #[t] ty #[vx]) K:=by
 unfold QR at hk;split at hk
 .rename_i e ht;have hu:=hT.slice ht;have run:∀a n c,(Builtin.len_ #[t] ty #[.slice a n c]).run P w=.ok (.int .i64 n) w:=fun a n c=>by simp[Builtin.len_,run_underlying hu,goInt]
  split at hk
  .have hs:=hx.slice_none;cases hs with
   |snil _ a cap=>exact⟨_,_,run a 0 cap,hk,.v _ _⟩
   |slice _ _ b off sz cap val hc=>exact⟨_,_,run _ _ _,hk,.v _ _⟩
  .cases hx with
   |msl=>exact⟨_,_,run _ _ _,hk,.v _ _⟩
  .obtain rfl:=hx.v_eq;exact⟨_,_,run _ _ _,hk,.v _ _⟩
  simp_all
 .rename_i ht;split at hk
  .obtain rfl:=hx.v_eq;exact⟨_,_,by simp[Builtin.len_,run_underlying (hT.string ht),goInt],hk,.v _ _⟩
  simp_all
 .rename_i k e ht;have hu:=hT.map ht;have run:∀b es ck,w.heap[b]?=some (.map es ck)->(Builtin.len_ #[t] ty #[.map (some b)]).run P w=.ok (.int .i64 es.size) w:=fun b es ck hb=>by
   simp[Builtin.len_,run_underlying hu,goInt,run_getObj_map (P:=P) w b es ck hb]
  split at hk
  .cases hx with
   |cmap _ _ _ b es ck hS hb hmm hv=>exact⟨_,_,run b es ck hb,by rw[hmm.1];exact hk,.v _ _⟩
  .rename_i r;have hr:=ho r;cases hx with
   |mref _ _ b i9 ht' hp=>
    split at hk
    .rename_i sh BU e;rw[e]at hr;obtain⟨_,b',es,ck,a1,a2,a3,a4,a5,a6⟩:=hr;rw[a2]at hp;cases hp;exact⟨_,_,run _ es ck a3,by rw[a4.1];exact hk,.v _ _⟩
    .rename_i sh BU e;rw[e]at hr;obtain⟨_,b',es,ck,a1,a2,a3,a4,a5,a6⟩:=hr;rw[a2]at hp;cases hp;exact⟨_,_,run _ es ck a3,by rw[a4.1];exact hk,.v _ _⟩
    .rename_i sh BU e;rw[e]at hr;obtain⟨_,b',a1,a2⟩:=hr;rw[a1]at hp;cases hp;cases a2 with
     |cmap _ _ _ _ es ck hS hb hmm hv=>exact⟨_,_,run _ es ck hb,by rw[hmm.1];exact hk,.v _ _⟩
    simp_all
  simp_all
 simp_all
end
theorem Wr(ho:∀r,DD g w (AI h) r (h r)){t:Nat->AV}(ht:∀x:Operand,A3 g w (AI h) (ev t x) (ρ x)){fn:Fn}{first cap:Array Operand}(hk:J4 t h fn first.toList cap.toList K) :
  Bs P h g w (Instr.makeFunc fn (first.map ρ) (cap.map ρ)) K:=by
 unfold J4 at hk;split at hk
 .rename_i f e;have hf:first=#[]:=by
   simp_all
  subst hf;refine⟨_,_,rfl,hk,?_⟩
  grind [A3.clo,A3.rsv]
 simp_all
theorem Wu{x:AV}(hx:A3 g w (AI h) x vx)(hk:J7 x K){pos:String}{after:Array Edge}{gd:Option (Nat×Bool)}{dst:Option Tmp}{ty:Nat}{X:Operand}(hX:ρ X=vx) :
  (execOp ρ ⟨dst,.nilCheck X,ty,pos,after,gd⟩).run P w=.ok (.value vx) w/\K x:=by
 subst hX;unfold J7 at hk;split at hk
 all_goals first
  |exact hk.elim
  |(refine⟨?_,hk⟩;generalize hq:ρ X=q at hx;cases hx;simp[execOp,hq];done)
theorem dJ(ho:∀r,DD g w (AI h) r (h r)){x:AV}(hx:A3 g w (AI h) x vx)(hk:ZU h x K):Bs P h g w (Instr.entry vx) K:=by
 unfold ZU at hk;split at hk
 .rename_i r;have hr:=ho r;split at hk
  .rename_i all rem kv e;rw[e]at hr;cases hx with
   |ref _ _ _ b hu ht hp=>
    obtain⟨_,b',mb,Jx,seen,st,es,ck,a1,a2,a3,a4,a5,⟨sh,a6⟩,a7,a8,a9,WY,bo,a12,po⟩:=hr;rw[a2]at hp;cases hp;obtain⟨i,en,c1,c2,c3⟩:=a12;have tE:es.find? (fun e=>e.born == en.born)=some en:=by
     rw[Array.find?_eq_some_iff_getElem];obtain⟨BW,he⟩:=Ac.1 c2;refine⟨by simp,i,BW,he,fun j hj=>?_⟩;have JE : j<es.size:=B0
     simp only[E7,beq_eq_false_iff_ne,ne_eq];intro e'
     have:=a6.2.2.2.2.2 j i es[j] en Wk c2 e'
     omega
    have hkey:=a6.2.1 i kv en c1 c2;refine⟨.tuple #[en.key,en.val],_,?_,hk,.tup _ _ _ rfl (fun k av y h1 h2=>?_)⟩
    .have bO:(getObj b).run P w=.ok (.mapIter (some mb) Jx seen st) w:=by grind [getObj,Sem.run]
     have oK:=run_getObj_map (P:=P) w mb es ck a5;simp[Instr.entry,bO,c3,oK,a8,tE]
    grind [A3.v,A3.up]
  simp_all
 simp_all
end
end Go.Eng
