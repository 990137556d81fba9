/- Lemmas 6. -/
import Derived.Test.YtkjhcikodmiceaaGreatDoorCA05
import Derived.Laws.IdiomStrings
import Derived.Lib.BufferRead
namespace Go.Eng
abbrev Ap1:=List AV
abbrev Ap2:=List MapEntry
variable {x:Value}{U:Nat->Prop}{vx:Value}{w:World}{ρ:Operand->Value}{es:Array MapEntry}{sh:Ez}{g:D}{vs:List Value}{BM:List (Value×AV)}{cs:Ap1}{Hd:Array TypeId}{ok:Bool}{f:Nat×Nat}{e:MapEntry}{a:AV}{b:Nat}{E:TypeId}{i kt:Nat}{G vy y:Value}{n ck:Nat}
def HI(g:D)(w:World)(U:Nat->Prop)(b off:Nat)(cs:Ap1):Prop:=
 ∀(j:Nat) (av:AV),cs[j]?=some av->∃x,w.cell? ⟨b,off+j,none⟩=some x/\x.oneCell'=true/\O g w U av x
theorem HI.drop{g:D}{w:World}{U:Nat->Prop}{b off:Nat}{cs:Ap1}(h:HI g w U b off cs)(n:Nat):HI g w U b (off+n) (cs.drop n):=fun j av hj=>by
 rw[FR]at hj
 have:=h _ _ hj
 grind
theorem HI.of_cptr{off:Nat}(h:O g w U (.cptr cs) (.pointer (some ⟨b,off,none⟩)))(V:Nat->Prop):HI g w V b off cs:=by
 cases h with
 |cptr _ _ _ _ val Dj DN=>exact fun j av hj=>⟨_,(Dj j av hj).2.1,(Dj j av hj).2.2,(DN j av hj).up V⟩
theorem Gt{o:Nat}{vs:Array Value}(h:w.heap[b]?=some (.cells vs E f)):w.cell? ⟨b,o,none⟩=vs[o]?:=by
 simp[World.cell?,h]
theorem HI.of_row{vs:Array Value}(h:w.heap[b]?=some (.cells vs E f))(hr:Cg g w U cs vs.toList):HI g w U b 0 cs:=fun j av hj=>by
 have CL:j<vs.toList.length:=by rw[hr.1];grind
 have hx:vs.toList[j]?=some vs.toList[j]:=AC CL;refine⟨vs.toList[j],?_,hr.2.1 _ (Am CL),hr.2.2 j av _ hj hx⟩
 grind [Gt]
theorem XE{α:Type}{j:Nat}{f:Nat->α}{x:α}(h:((List.range n).map f)[j]?=some x):j<n/\x=f j:=by
 grind
section
variable {P:Program}{T:GL}(hT:B8 P T){h:Nat->HO}{g:D}{w:World}{K:AV->Prop}
include hT
theorem Mr{t:Nat}{b off:Nat}(hd:(T t).d≠.other)(ha:J8 (T t).d=false)(hc:w.cell? ⟨b,off,none⟩=some x):(loadVar t ⟨b,off,none⟩).run P w=.ok x w:=by
 unfold loadVar;simp[Sem.run_bind,hT.isAgg w hd,ha,hc]
theorem Un{t:Nat}{b off:Nat}(hd:(T t).d≠.other)(ha:J8 (T t).d=true)(hl:vs.length=(T t).size)(hc:∀j x,vs[j]?=some x->w.cell? ⟨b,off+j,none⟩=some x):(loadVar t ⟨b,off,none⟩).run P w=.ok (.agg vs.toArray) w:=by
 unfold loadVar;have hr:=run_loadCells_list (P:=P) w ⟨b,off,none⟩ vs (fun j x hj=>by grind [Addr.add_lit]);simp[Sem.run_bind,hT.isAgg w hd,ha,hT.size w hd,<-hl,hr]
theorem QG{t:Nat}{b off:Nat}{cs:Ap1}(hc:HI g w (L h) b off cs)(hk:Ni T t cs K):Bm P h g w (loadVar t ⟨b,off,none⟩) K:=by
 have agg:J8 (T t).d=true->(T t).d≠.other->(T t).size<=cs.length->K (.agg (cs.take (T t).size))->Bm P h g w (loadVar t ⟨b,off,none⟩) K:=by
  intro ha hd Jo hk;have hex:∀j:Nat,∃x:Value,∀av,cs[j]?=some av->w.cell? ⟨b,off+j,none⟩=some x/\x.oneCell'=true/\O g w (L h) av x:=fun j=>by
   cases e:cs[j]? with
   |none=>simp_all
   |some av=>obtain⟨x,hx⟩:=hc j av e<;>simp_all
  obtain⟨val,hval⟩:=Classical.axiomOfChoice hex;have rM:∀j,j<(T t).size->∃av,cs[j]?=some av:=fun j hj=>⟨_,AC I⟩;refine⟨_,_,Un hT (vs:=(List.range (T t).size).map val) hd ha aa1 (fun j x hx=>?_),hk,.agg _ _ _ aa0 (fun i x hx=>?_) (fun i av x hi hx=>?_)⟩
  all_goals grind
 have single:J8 (T t).d=false->(T t).d≠.other->Mo cs K->Bm P h g w (loadVar t ⟨b,off,none⟩) K:=by
  intro ha hd hk;cases cs with
  |nil=>exact hk.elim
  |cons a r=>
   obtain⟨x,x1,x2,x3⟩:=hc 0 a rfl;exact⟨x,a,Mr hT hd ha x1,hk,x3⟩
 unfold Ni at hk;split at hk
 .rename_i fs e;exact agg (by rw[e];rfl) aa0 hk.1 hk.2
 .rename_i n m e;exact agg (by rw[e];rfl) aa0 hk.1 hk.2
 .rename_i e;have hd:(T t).d≠.other:=aa0
  have ha:J8 (T t).d=false:=by rw[e];rfl
  cases cs with
  |nil=>exact hk.elim
  |cons a r=>
   obtain⟨x,x1,x2,x3⟩:=hc 0 a rfl;simp only[Mo]at hk;split at hk
   .obtain rfl:=x3.v_eq;rename_i bb;refine⟨_,_,Mr hT hd ha x1,?_,.v _ _⟩;cases bb<;>simp_all
   simp_all
 .simp_all
 .rename_i e1 e2 e3 e4;refine single ?_ e4 hk;cases e:(T t).d<;>first | rfl | simp_all | simp_all
def bW(g:D)(w:World)(U:Nat->Prop)(xs:Array Value)(off:Nat)(cs:Ap1):Prop:=
 ∀(j:Nat) (av:AV),cs[j]?=some av->∃x,xs[off+j]?=some x/\x.oneCell'=true/\O g w U av x
omit hT in
theorem bW.of_agg{cs:Ap1}{xs:Array Value}{U:Nat->Prop}(hr:O g w U (.agg cs) (.agg xs))(o:Nat):bW g w U xs o (cs.drop o):=by
 cases hr with
 |agg _ _ _ hs h1 hh=>
  intro j av hj;rw[FR]at hj;have CL:o+j<xs.size:=aa2
  have hx:xs[o+j]?=some xs[o+j]:=aa0
  grind
theorem ff{t:Nat}{xs:Array Value}{off:Nat}{cs:Ap1}(hc:bW g w (L h) xs off cs)(hk:fc T t cs K):Bm P h g w (part t xs off) K:=by
 have agg:J8 (T t).d=true->(T t).d≠.other->(T t).size<=cs.length->K (.agg (cs.take (T t).size))->Bm P h g w (part t xs off) K:=by
  intro ha hd Jo hk;have rM:∀j,j<(T t).size->∃av,cs[j]?=some av:=fun j hj=>⟨_,AC I⟩;have FA:∀(j:Nat) (x:Value),(xs.extract off (off+(T t).size))[j]?=some x->j<(T t).size/\xs[off+j]?=some x:=fun j x hx=>by
   grind
  have EC:(xs.extract off (off+(T t).size)).size=(T t).size:=by
   by_cases h0:(T t).size=0
   .grind
   .obtain⟨av,hav⟩:=rM ((T t).size-1) I;obtain⟨x,x1,_⟩:=hc _ _ hav<;>grind [Array.getElem?_eq_some_iff]
  refine⟨_,_,GK hT w hd ha xs off,hk,.agg _ _ _ aa0 (fun i x hx=>?_) (fun i av x hi hx=>?_)⟩
  .obtain⟨hj,Uh⟩:=FA i x hx;obtain⟨av,hav⟩:=rM i hj;obtain⟨y,y1,y2,y3⟩:=hc i av hav<;>simp_all
  .obtain⟨hj,Uh⟩:=FA i x hx;rw[List.getElem?_take_of_lt hj]at hi;obtain⟨y,y1,y2,y3⟩:=hc i av hi<;>simp_all
 have single:J8 (T t).d=false->(T t).d≠.other->Mo cs K->Bm P h g w (part t xs off) K:=by
  intro ha hd hk;cases cs with
  |nil=>exact hk.elim
  |cons a r=>
   obtain⟨x,x1,x2,x3⟩:=hc 0 a rfl;exact⟨x,a,Du hT w hd ha xs off x x1,hk,x3⟩
 unfold fc Ni at hk;split at hk
 .rename_i fs e;exact agg (by rw[e];rfl) aa0 hk.1 hk.2
 .rename_i n m e;exact agg (by rw[e];rfl) aa0 hk.1 hk.2
 .rename_i e;have hd:(T t).d≠.other:=aa0
  have ha:J8 (T t).d=false:=by rw[e];rfl
  cases cs with
  |nil=>exact hk.elim
  |cons a r=>
   obtain⟨x,x1,x2,x3⟩:=hc 0 a rfl;simp only[Mo]at hk;split at hk
   .obtain rfl:=x3.v_eq;rename_i bb;refine⟨_,_,Du hT w hd ha xs off _ x1,?_,.v _ _⟩;cases bb<;>simp_all
   simp_all
 .simp_all
 .rename_i e1 e2 e3 e4;refine single ?_ e4 hk;cases e:(T t).d<;>first | rfl | simp_all | simp_all
theorem g9{s f:Nat}{x:AV}(hx:O g w (L h) x vx)(hk:Qo T s f x K):Bm P h g w (Instr.field s vx f) K:=by
 unfold Qo at hk;split at hk
 .rename_i fs cs hs;split at hk
  .rename_i t o hf;obtain⟨fa,u1,u2,u3⟩:=hT.struct hs;cases hx with
   |agg _ _ xs a1 a2 a3=>
    have zC:∃fd,fa[f]?=some fd/\fd.type=t/\fd.offset=o:=by
     have key:∀(l:List (Nat×Nat)) (n:Nat) (p:Nat×Nat),ab l n=some p->l[n]?=some p:=by
      intro l
      induction l with
      |nil=>intro n p h;cases h
      |cons y r ih=>intro n p h;cases n<;>grind [ab]
     grind
    obtain⟨fd,e1,rfl,rfl⟩:=zC;obtain⟨y,av,p1,p2,p3⟩:=ff hT (bW.of_agg (.agg _ _ xs a1 a2 a3) fd.offset) hk;refine⟨y,av,?_,p2,p3⟩;simp only[Instr.field,Sem.run_bind,run_underlying u1,Result.andThen_ok,e1];simpa[asAgg]using p1
  simp_all
 simp_all
theorem Vx{s f:Nat}{fs:List (Nat×Nat)}{t o:Nat}(hs:(T s).d=.struct fs)(hf:ab fs f=some (t,o)):∃fa fd,P.underlying s=some (.struct fa)/\fa[f]?=some fd/\fd.type=t/\fd.offset=o:=by
 obtain⟨fa,u1,u2,u3⟩:=hT.struct hs;have key:∀(l:List (Nat×Nat)) (n:Nat) (p:Nat×Nat),ab l n=some p->l[n]?=some p:=by
  intro l
  induction l with
  |nil=>intro n p h;cases h
  |cons y r ih=>intro n p h;cases n<;>grind [ab]
 grind
theorem nh{s f:Nat}{x:AV}(hx:O g w (L h) x vx)(hk:Vq T s f x K):Bm P h g w (Instr.fieldAt s vx f) K:=by
 unfold Vq at hk;split at hk
 .rename_i fs hs;split at hk
  .rename_i t o hf;obtain⟨fa,fd,u1,e1,rfl,rfl⟩:=Vx hT hs hf;split at hk
   .simp_all
   .rename_i k EC;have CV:∀b off,(Instr.fieldAt s (.pointer (some ⟨b,off,none⟩)) f).run P w=.ok (.pointer (some ⟨b,off+fd.offset,none⟩)) w:=fun b off=>by
     simp[Instr.fieldAt,run_underlying u1,e1,Instr.sureAddr,fieldPlace,hT.size1 w EC,Addr.add_lit]
    split at hk
    .cases hx with
     |cptr _ _ b off val Dj DN=>exact⟨_,_,CV b off,hk,(O.cptr _ _ b off val Dj DN).cptr_drop _⟩
    .rename_i r off;cases hx with
     |ref _ _ _ b hu ht hp=>exact⟨_,_,CV b off,hk,.ref _ r _ b hu ht hp⟩
    .rename_i r n sz i off;cases hx with
     |eref _ _ _ _ _ _ b cap hu ht hn hp=>
      refine⟨_,_,CV b _,hk,?_⟩
      grind [O.eref]
    simp_all
  simp_all
 simp_all
end
section
variable {P:Program}{T:GL}(hT:B8 P T){h:Nat->HO}{g:D}{w:World}{K:AV->Prop}
section
include hT
theorem Xv{t:Nat}{x ix:AV}(hx:O g w (L h) x vx)(hi:O g w (L h) ix G)(hk:JL T t x ix K):Bm P h g w (Instr.indexAt t vx G) K:=by
 unfold JL at hk;split at hk
 .rename_i e i ht;obtain rfl:=hi.v_eq;have hu:=hT.slice ht;split at hk
  .simp_all
  .rename_i m hm;have CV:∀b off (len cap:Nat),0<=i->i<(len:Int)->(Instr.indexAt t (.slice (some ⟨b,off,none⟩) len cap) (.int .i64 i)).run P w=.ok (.pointer (some ⟨b,off+i.toNat*(T e).size,none⟩)) w:=fun b off len cap h0 h1=>by
    simp[Instr.indexAt,asIntOf,run_underlying hu,h0,h1,hT.size1 w hm,Addr.add_lit,hm]
   split at hk
   .rename_i tk es;obtain⟨cs,⟨h0,h1⟩,h2,hk⟩:=hk;have hs:=hx.slice_none;have CL:=(AN.1 h1).1;cases hs with
    |snil=>simp_all
    |slice _ _ b off sz cap val hc hl Dj DN=>
     have EC:sz=(T e).size:=aa2
     subst EC;refine⟨_,_,CV b off es.length cap h0 I,hk,.cptr _ cs b _ (val i.toNat) (fun j av hj=>?_) (fun j av hj=>DN _ _ _ _ h1 hj)⟩
     grind
   .rename_i r n;obtain⟨⟨h0,h1⟩,hk⟩:=hk;cases hx with
    |msl _ _ _ a cap rO ht' hn ha Uh=>
     rcases ha with rfl | ⟨b,rfl⟩
     .omega
     .refine⟨_,_,CV b 0 n cap h0 h1,hk,?_⟩;rw[Dp];exact .eref _ r n _ _ 0 b cap rO ht' ⟨by omega,hn⟩ (fun e=>(Uh e).symm)
   simp_all
 .rename_i n e i ht;obtain rfl:=hi.v_eq;have hu:=hT.array ht;split at hk
  .simp_all
  .rename_i m hm;have CV:∀b off,0<=i->i<(n:Int)->(Instr.indexAt t (.pointer (some ⟨b,off,none⟩)) (.int .i64 i)).run P w=.ok (.pointer (some ⟨b,off+i.toNat*(T e).size,none⟩)) w:=fun b off h0 h1=>by
    simp[Instr.indexAt,asIntOf,run_underlying hu,h0,h1,hT.size1 w hm,Addr.add_lit,hm,Instr.sureAddr]
   split at hk
   .cases hx with
    |cptr _ _ b off val Dj DN=>exact⟨_,_,CV b off hk.1.1 hk.1.2,hk.2,(O.cptr _ _ b off val Dj DN).cptr_drop _⟩
   .rename_i r off;cases hx with
    |ref _ _ _ b hu ht hp=>exact⟨_,_,CV b off hk.1.1 hk.1.2,hk.2,.ref _ r _ b hu ht hp⟩
   simp_all
 simp_all
theorem nQ{t:Nat}{x ix:AV}(hx:O g w (L h) x vx)(hi:O g w (L h) ix G)(hk:VT T t x ix K):Bm P h g w (Instr.index t vx G) K:=by
 unfold VT at hk;split at hk
 .rename_i s k i ht;obtain rfl:=hx.v_eq;obtain rfl:=hi.v_eq;obtain⟨b,⟨h0,h1⟩,hk⟩:=hk;refine Bm.val (x:=.int .u8 b.toNat) ?_ hk;have h2:s[i.toNat]?=some b:=by
   have:=(Ag.1 h1)
   obtain⟨l1,l2⟩:=this;have l1' : i.toNat<s.size:=l1;rw[getElem?_pos s i.toNat l1'];exact Aa some l2
  simp[Instr.index,asIntOf,run_underlying (hT.string ht),h0,h2]
 .rename_i n e cs i ht;obtain rfl:=hi.v_eq;obtain⟨⟨h0,h1⟩,hk⟩:=hk;cases hx with
  |agg _ _ xs a1 a2 a3=>
   have hd:(T e).d≠.other:=by
    grind [fc,Ni]
   obtain⟨y,av,p1,p2,p3⟩:=ff hT (bW.of_agg (.agg _ _ xs a1 a2 a3) _) hk;refine⟨y,av,?_,p2,p3⟩;simp[Instr.index,asIntOf,run_underlying (hT.array ht),h0,h1,hT.size w hd,p1]
 simp_all
theorem cD{s t:Nat}{x:AV}(hx:O g w (L h) x vx)(hk:X7 T s t x K):Bm P h g w (convert s t vx) K:=by
 unfold X7 at hk;split at hk
 .rename_i k n h1 h2;obtain rfl:=hx.v_eq;refine Bm.val (x:=.int .i64 n) ?_ hk.2;have hw:=Od hk.1;simp[convert,run_underlying (hT.int h1),run_underlying (hT.int h2),Conv.intToInt,hw]
 .rename_i k k' m n Ec h1 h2;obtain rfl:=hx.v_eq;refine Bm.val (x:=.int k' (k'.wrap n)) ?_ hk;simp[convert,run_underlying (hT.int h1),run_underlying (hT.int h2),Conv.intToInt]
 .rename_i s' h1 h2;obtain rfl:=hx.v_eq;refine Bm.val (x:=.string s') ?_ hk;simp[convert,run_underlying (hT.string h1),run_underlying (hT.string h2)]
 .rename_i e tk es h1 h2;split at hk
  .rename_i h3;obtain⟨l,rfl,hk⟩:=hk;have hr:=hx.slice_none;refine Bm.val (x:=.string ⟨l.toArray⟩) ?_ hk;generalize hes:l.map (fun b=>[AV.v (.int .u8 b.toNat)])=es at hr;cases hr with
   |snil _ a cap=>
    have hl:l=[]:=aa0
    subst hl;cases a with
    |none=>exact Lib.run_convert_nil_bytes w s t e cap (hT.slice h1) (hT.int h3) (hT.string h2)
    |some a=>exact run_convert_bytes_back w s t e a cap [] (hT.slice h1) (hT.int h3) (hT.string h2) (fun j hj=>by grind)
   |slice _ _ b off sz cap val hc hl Dj DN=>
    have CN:l.length=es.length:=aa2
    have:=run_convert_bytes_back (P:=P) w s t e ⟨b,off,none⟩ cap l (hT.slice h1) (hT.int h3) (hT.string h2) (fun j hj=>by
     have hg:es[j]?=some [AV.v (.int .u8 l[j].toNat)]:=aa2
     have IZ:sz=1:=(hl j _ hg).symm;have h4:=Dj j _ 0 _ hg rfl;have h5:=DN j _ 0 _ hg rfl
     grind [Addr.add_lit,O.v_eq])
    simp_all
  simp_all
 simp_all
end
theorem uz{op:UnOp}{x:AV}(hx:O g w (L h) x vx)(hk:fQ op x K):Bm P h g w (Op.unary op vx) K:=by
 unfold fQ at hk;split at hk
 .unfold oz at hk;split at hk
  .obtain rfl:=hx.v_eq;exact Bm.val (x:=.bool false) (by simp[Op.unary]) hk
  .obtain rfl:=hx.v_eq;exact Bm.val (x:=.bool true) (by simp[Op.unary]) hk
  simp_all
 .rename_i a;obtain rfl:=hx.v_eq;refine Bm.val (x:=.int .i64 (-a)) ?_ hk.2
  have:=Od hk.1
  simp[Op.unary,Op.intArith,this]
 .obtain rfl:=hx.v_eq;exact Bm.val (by simp[Op.unary,Op.intBits,Dv]) hk
 simp_all
theorem eJ:∀{l:Ap1} {j:Nat} {a:AV},xI l j=some a->l[j]?=some a
 | [],j,a,h=>by cases h
 |b::r,0,a,h=>by grind [xI]
 |b::r,j+1,a,h=>by simpa using eJ (l:=r) (j:=j) h
theorem cS{i:Nat}{x:AV}(hx:O g w (L h) x vx)(hk:M2 x i K):Bm P h g w (Instr.extract vx i) K:=by
 unfold M2 at hk;split at hk
 .rename_i cs;cases hx with
  |tup _ _ vs hs hh=>
   split at hk
   .rename_i a ha;have hc:=eJ ha;have hi:i<vs.size:=aa2
    exact⟨vs[i],_,by simp[Instr.extract,hi],hk,hh _ _ _ hc aa0⟩
   simp_all
 simp_all
theorem tt{c a b:AV}{vc va Q:Value}(hc:O g w (L h) c vc)(ha:O g w (L h) a va)(hb:O g w (L h) b Q)(hk:fg c a b K) :
  Bm P h g w (do pure (if <-asBool vc then va else Q)) K:=by
 unfold fg at hk;split at hk
 .obtain rfl:=hc.v_eq;exact⟨va,a,by simp[asBool],hk,ha⟩
 .obtain rfl:=hc.v_eq;exact⟨Q,b,by simp[asBool],hk,hb⟩
 simp_all
theorem xw{t:Nat}{x y:AV}(hx:O g w (L h) x vx)(hy:O g w (L h) y vy)(hk:xA max x y K):Bm P h g w (Builtin.max_ Hd t #[vx,vy]) K:=by
 unfold xA at hk;split at hk
 .rename_i k a k' b;split at hk
  .obtain rfl:=hx.v_eq;obtain rfl:=hy.v_eq;refine Bm.val (x:=.int k (max a b)) ?_ hk;simp[Builtin.max_,Builtin.max2];omega
  simp_all
 simp_all
theorem xz{t:Nat}{x y:AV}(hx:O g w (L h) x vx)(hy:O g w (L h) y vy)(hk:xA min x y K):Bm P h g w (Builtin.min_ Hd t #[vx,vy]) K:=by
 unfold xA at hk;split at hk
 .rename_i k a k' b;split at hk
  .obtain rfl:=hx.v_eq;obtain rfl:=hy.v_eq;refine Bm.val (x:=.int k (min a b)) ?_ hk;simp[Builtin.min_,Builtin.min2];omega
  simp_all
 simp_all
end
theorem Cg.at(h:Cg g w U cs vs){av:AV}(hi:cs[i]?=some av):∃x,vs[i]?=some x/\x.oneCell'=true/\O g w U av x:=by
 have CL:i<vs.length:=by rw[h.1];grind
 exact⟨vs[i],AC CL,h.2.1 _ (Am CL),h.2.2 i av _ hi (AC CL)⟩
theorem Ff{α:Type}{n:Nat}:∀{es:List (List α)},(∀c∈es,c.length=n)->∀{i j:Nat} {c:List α},es[i]?=some c->j<n->es.flatten[i*n+j]?=c[j]?
 | [],_,i,j,c,h,_=>by simp_all
 |d::es,hl,0,j,c,h,hj=>by
  grind
 |d::es,hl,i+1,j,c,h,hj=>by
  have hd:=hl d (Ad ..);rw[BQ,Ba aa2];rw[show(i+1)*n+j-d.length=i*n+j by grind];exact Ff (fun c hc=>hl c (Aj _ hc)) aa0 hj
theorem EK{α:Type}{n:Nat}:∀{es:List (List α)},(∀c∈es,c.length=n)->es.flatten.length=es.length*n
 | [],_=>by simp
 |d::es,hl=>by
  rw[BQ,Ac,hl d (Ad ..),EK (fun c hc=>hl c (Aj _ hc)),AK,Nat.succ_mul,Nat.add_comm]
section
variable {P:Program}{T:GL}(hT:B8 P T){h:Nat->HO}{g:D}{w:World}{K:AV->Prop}(ho:∀r,DE g w (L h) r (h r))
include ho
theorem mP(hT:B8 P T){t:Nat}{x:AV}(hx:O g w (L h) x vx){hi mx:Option Operand}(hk:gG T h t x hi mx K):Bm P h g w (Instr.sliceAt t vx none (hi.map ρ) (mx.map ρ)) K:=by
 unfold gG at hk;split at hk
 .rename_i n e r hd;split at hk
  .rename_i cs hs he;obtain⟨rfl,hk⟩:=hk;cases hx with
   |ref _ _ _ b hu ht hx=>
    have hr:=ho r;rw[he]at hr;obtain⟨_,b',a1,a2⟩:=hr;rw[a1]at hx;cases hx;cases a2 with
    |cptr _ _ _ off val Dj DN=>
     have ha:=hT.array hd;refine⟨.slice (some ⟨b,0,none⟩) cs.length cs.length,_,?_,hk,?_⟩
     .simp[Instr.sliceAt,Instr.sureAddr,run_underlying ha,Instr.sliceBounds,hT.size1 w hs,Addr.add_lit]
     .have q:=O.slice (g:=g) (w:=w) (L h) (cs.map fun c=>[c]) b 0 1 cs.length (fun i _=>val i) aa1 aa1 ?_ ?_
      all_goals grind
  simp_all
 simp_all
theorem Yx(hT:B8 P T){t:Nat}{p:AV}{vp:Value}(hp:O g w (L h) p vp)(hk:JN T h t p K):Bm P h g w (Instr.loadAt t vp) K:=by
 have uO:∀b off,Bm P h g w (loadVar t ⟨b,off,none⟩) K->Bm P h g w (Instr.loadAt t (.pointer (some ⟨b,off,none⟩))) K:=by
  grind [Instr.loadAt,Instr.sureAddr]
 unfold JN at hk;split at hk
 .cases hp with
  |cptr _ _ b off val Dj DN=>exact uO b off (QG hT (HI.of_cptr (.cptr DS _ b off val Dj DN) _) hk)
 .rename_i r off;have hr:=ho r;cases hp with
  |ref _ _ _ b hu ht hx=>
   split at hk
   .rename_i cs e;rw[e]at hr;obtain⟨_,b',E,vs,a1,a2,a3,a4,a5⟩:=hr;rw[a2]at hx;cases hx
    have:=(HI.of_row a3 a4).drop off
    grind [QG]
   .rename_i cs e;rw[e]at hr;obtain⟨_,b',a1,a2⟩:=hr;rw[a1]at hx;cases hx
    have:=(HI.of_cptr a2 (L h)).drop off
    grind [QG]
   simp_all
 .rename_i r n sz i off;have hr:=ho r;cases hp with
  |eref _ _ _ _ _ _ b cap hu ht hn hx=>
   split at hk
   .rename_i HG es e;rw[e]at hr;split at hk
    .rename_i hz;obtain rfl:=A5 hz;obtain⟨CN,cs,h1,hk⟩:=hk;obtain⟨t1,l1,al,a1⟩:=hr;have CL:=(AN.1 h1).1;rcases a1 with ⟨rfl,_⟩ | ⟨b',P0,E,vs,e1,e2,e3,e4,e5,e6,e7⟩
     .simp_all
     .have:=hx (CN.trans l1.symm)
      rw[e1]at this;simp only[Value.slice.injEq,Ey,Addr.mk.injEq]at this;obtain⟨⟨rfl,_,_⟩,_,_⟩:=this;refine uO _ _ (QG hT (cs:=cs.drop off) (fun j av hj=>?_) hk);rw[FR]at hj;have hcl:=al cs (Ax h1);have wX:off+j<sz:=aa2
      have hf:=Ff al h1 wX
      grind [Gt,Cg.at,O.up]
    simp_all
   simp_all
 simp_all
end
theorem IQ{α:Type}:∀(cs:List α) (o:Nat) (vs:List α),(over cs o vs).length=cs.length
 | [],_,_=>rfl
 |c::cs,o+1,vs=>by simp[over,IQ cs o vs]
 |c::cs,0,[]=>rfl
 |c::cs,0,v::vs=>by simp[over,IQ cs 0 vs]
theorem H7{α:Type}:∀(cs:List α) (o:Nat) (vs:List α) (i:Nat),o+vs.length<=cs.length->(over cs o vs)[i]?=if o<=i/\i<o+vs.length then vs[i-o]? else cs[i]?
 | [],o,vs,i,h=>by
  grind [over]
 |c::cs,o+1,vs,0,h=>by simp[over]
 |c::cs,o+1,vs,i+1,h=>by
  have:=H7 cs o vs i aa2
  grind [over]
 |c::cs,0,[],i,h=>by
  have:¬(0<=i/\i<0+([]:List α).length):=aa1
  rw[AB this];rfl
 |c::cs,0,v::vs,0,h=>by simp[over]
 |c::cs,0,v::vs,i+1,h=>by
  have:=H7 cs 0 vs i aa0
  grind [over]
theorem Cg.over{g:D}{w:World}{U:Nat->Prop}{cs Xo:Ap1}{xs vs:List Value}(h:Cg g w U cs xs)(k:Cg g w U Xo vs)(o:Nat)(Jo:o+Xo.length<=cs.length) :
  Cg g w U (Eng.over cs o Xo) (Eng.over xs o vs):=by
 have Afg : o+vs.length<=xs.length:=by rw[k.1,h.1];exact Jo
 refine⟨by rw[IQ,IQ,h.1],fun x hx=>?_,fun i av x h1 h2=>?_⟩
 .obtain⟨i,hi⟩:=B4.1 hx;rw[H7 _ _ _ _ Afg]at hi;split at hi
  .exact k.2.1 _ (Ax hi)
  .exact h.2.1 _ (Ax hi)
 .rw[H7 _ _ _ _ Jo]at h1;rw[H7 _ _ _ _ Afg,k.1]at h2;split at h1
  .rename_i hc;rw[AO hc]at h2;exact k.2.2 _ _ _ h1 h2
  .rename_i hc;rw[AB hc]at h2;exact h.2.2 _ _ _ h1 h2
theorem Acg(h:O g w U a x)(h1:one a=true):x.oneCell'=true:=by
 cases h with
 |v=>exact h1
 |tok _ r sz es _ h=>cases h with
  |snil=>rfl
  |slice=>rfl
 |ver _ r sz v es _ h=>cases h with
  |snil=>rfl
  |slice=>rfl
 |full _ sz es _ h=>cases h with
  |snil=>rfl
  |slice=>rfl
 |_=>first |rfl |(cases h1;done)
theorem oG(h:x.oneCell'=true):x.cells=#[x]:=by
 cases x<;>first | rfl | grind [Value.oneCell']
theorem NM{K:Ap1->Prop}(h:O g w U a x)(hk:Hf n a K) :
  ∃cs,K cs/\cs.length=n/\Cg g w U cs x.cells.toList:=by
 have single:one a=true->n=1->K [a]->∃cs,K cs/\cs.length=n/\Cg g w U cs x.cells.toList:=by
  intro h1 hn hk;have hx:=Acg h h1;rw[oG hx];refine⟨[a],hk,hn.symm,rfl,by simp_all,fun i av y e1 e2=>?_⟩
  grind
 unfold Hf at hk;split at hk
 .rename_i cs;split at hk
  .rename_i hl;cases h with
   |agg _ _ vs hs h1 hr=>
    refine⟨cs,hk,A5 hl,by grind [Value.cells],fun y hy=>?_,fun i av y e1 e2=>?_⟩
    all_goals grind [List.mem_iff_getElem?,Value.cells]
  simp_all
 grind
theorem Pb:∀(vs:List Value) (k o:Nat) (cs:Array Value),o+k+vs.length<=cs.size ->
  ((vs.zipIdx k).foldl (fun(cs:Array Value) (p:Value×Nat)=>cs.setIfInBounds (o+p.2) p.1) cs).toList=over cs.toList (o+k) vs
 | [],k,o,cs,_=>by
  have:∀(l:List Value) (o:Nat),over l o []=l:=by
   intro l
   induction l with
   |nil=>intro o;rfl
   |cons c l ih=>intro o;cases o<;>grind [over]
  simp_all
 |v::vs,k,o,cs,h=>by
  simp at h;rw[List.zipIdx_cons,Gl,Pb vs (k+1) o _ aa2];simp only[Array.toList_setIfInBounds];apply Cu
  grind [H7]
theorem Vs{g:D}{w:World}{U:Nat->Prop}{t:Nat->AV}{ρ:Operand->Value}(ht:∀x:Operand,O g w U (ev t x) (ρ x)){pl pl' : Nat->Option (Nat×Nat)}(hpl:∀i p,pl i=some p->pl' i=some p) :
  ∀{ps:List (Nat×Operand)} {cs:Ap1} {xs:Array Value} {K:Ap1->Prop},Cg g w U cs xs.toList->KW pl cs t ps K ->
   ∃ZU bO,K ZU/\Cg g w U ZU bO.toList/\Instr.fill pl' xs (ps.map fun(i,x)=>(i,ρ x))=some bO
 | [],cs,xs,K,h,hk=>⟨cs,xs,hk,h,rfl⟩
 |(i,x)::ps,cs,xs,K,h,hk=>by
  unfold KW at hk;split at hk
  .simp_all
  .rename_i o n hp;obtain⟨Xo,hk,hn,hr⟩:=NM (ht x) hk;split at hk
   .rename_i Jo;have Jo:=By Jo;have EC:(ρ x).cells.size=n:=by rw[<-hn];simpa using hr.1
    have xk:cs.length=xs.size:=by simpa using h.1.symm
    have EY:=h.over hr o I;have e:=Pb (ρ x).cells.toList 0 o xs aa0;simp only[FF]at e;rw[<-e]at EY;obtain⟨ZU,bO,k1,k2,k3⟩:=Vs ht hpl EY hk<;>grind [Instr.fill,Array.toList_zipIdx]
   simp_all
theorem NH:∀{l:Ap1},HP l=true->∀a∈l,one a=true
 | [],_,a,h=>by cases h
 |b::r,h,a,ha=>by
  unfold HP at h;split at h
  .rename_i hb;rcases AJ.1 ha with rfl | ha
   .exact hb
   .exact NH h a ha
  simp_all
theorem Cg.vals(h:HP (vs.map .v)=true):Cg g w U (vs.map .v) vs:=by
 refine⟨by simp,fun x hx=>?_,fun i av x h1 h2=>?_⟩
 .have:=NH h (.v x) (Ap.2 ⟨x,hx,rfl⟩)
  grind [one]
 grind [O.v]
section
variable {P:Program}{T:GL}(hT:B8 P T){h:Nat->HO}{g:D}{w:World}{K:AV->Prop}
theorem dT{α β:Type}(P:Program)(w:World)(f:α->Sem β)(f' : α->β):∀(l:List α),(∀a∈l,(f a).run P w=.ok (f' a) w)->(l.mapM f).run P w=.ok (l.map f') w
 | [],_=>rfl
 |a::l,h=>by
  have h1:=h a (Ad ..);have h2:=dT P w f f' l (fun b hb=>h b (Aj _ hb));simp_all
theorem Ti:∀{fs:List (Nat×Nat)},PT T fs=true->∀p∈fs,∃n,(T p.1).size=n+1
 | [],_,p,h=>by cases h
 |(t,o)::r,h,p,hp=>by
  unfold PT at h;split at h
  .cases h
  .rename_i n hn;rcases AJ.1 hp with rfl | hp
   .simp_all
   .exact Ti h p hp
include hT
theorem Rp{t:Nat}(hd:(T t).d≠.other):∃z,(zeroValue t).run P w=.ok z w/\(T t).zc=z.cells.toList/\(T t).zero=z:=by
 obtain⟨d,i,z,h1,h2,h3,h4,h5,h6,h7,h8⟩:=hT.get hd;exact⟨z,by simp[zeroValue,typeInfo,h3,h4],by rw[TI.zc_cells,h7],h7⟩
theorem pO{t n:Nat}(h:(T t).size=n+1):∃z,(zeroValue t).run P w=.ok z w/\(T t).zc=z.cells.toList:=by
 rcases hT t with e | e
 .rw[e]at h;cases h
 unfold pF at e;split at e
 .split at e
  .rename_i d i h1 h2 _ z h3;exact⟨z,by simp[zeroValue,typeInfo,h2,h3],by rw[TI.zc_cells,e]⟩
  simp_all
 simp_all
theorem mU{ty:Nat}{t:Nat->AV}(ht:∀x:Operand,O g w (L h) (ev t x) (ρ x)){ps:Array (Nat×Operand)}(hk:RE T ty t ps.toList K) :
  Bm P h g w (Instr.build ty (ps.map fun(i,x)=>(i,ρ x))) K:=by
 unfold RE at hk;split at hk
 .simp_all
 .rename_i IZ;have fin:∀(ZU : Ap1) (bO : Array Value),Cg g w (L h) ZU bO.toList->O g w (L h) (.agg ZU) (.agg bO):=fun ZU bO hr=>
   .agg _ _ _ (by simpa using hr.1) (fun i x hx=>hr.2.1 x (Ax (by simpa using hx))) (fun i av x h1 h2=>hr.2.2 i av x h1 aa0)
  split at hk
  .rename_i fs hs;have hd:(T ty).d≠.other:=aa0
   obtain⟨z,z1,z2,_⟩:=Rp hT (w:=w) hd;split at hk
   .simp_all
   .rename_i EC;obtain⟨fa,u1,u2,u3⟩:=hT.struct hs;have xe:(fa.mapM fun(f:Field)=>(do pure (f.offset,<-sizeOf f.type):Sem (Nat×Nat))).run P w=.ok (fa.map fun f=>(f.offset,(T f.type).size)) w:=by
     rw[Array.mapM_eq_mapM_toList]
     have:=dT P w (fun f:Field=>(do pure (f.offset,<-sizeOf f.type):Sem (Nat×Nat))) (fun f=>(f.offset,(T f.type).size)) fa.toList (fun f hf=>by
      obtain⟨n,hn⟩:=Ti EC (f.type,f.offset) aa2;simp[hT.size1 w hn,hn])
     simp only[Sem.run_map,this,Result.andThen_ok]
     congr 1
     apply Array.ext';simp
    rw[z2]at hk IZ;obtain⟨ZU,bO,k1,k2,k3⟩:=Vs ht (pl':=fun i=>(fa.map fun f=>(f.offset,(T f.type).size))[i]?) (fun i p hp=>by
     split at hp
     .rename_i t' o hf;cases hp;obtain⟨fa',fd,v1,v2,rfl,rfl⟩:=Vx hT hs hf<;>simp_all
     simp_all) (Cg.vals (vs:=z.cells.toList) IZ) hk
    refine⟨_,_,?_,k1,fin ZU bO k2⟩;simp only[Instr.build,Sem.run_bind,z1,Result.andThen_ok,run_underlying u1,xe];simp_all
  .rename_i n e hs;have hd:(T ty).d≠.other:=aa0
   obtain⟨z,z1,z2,_⟩:=Rp hT (w:=w) hd;split at hk
   .simp_all
   .rename_i m hm;rw[z2]at hk IZ;obtain⟨ZU,bO,k1,k2,k3⟩:=Vs ht (pl':=fun i=>some (i*(T e).size,(T e).size)) (fun i p hp=>hp) (Cg.vals (vs:=z.cells.toList) IZ) hk;refine⟨_,_,?_,k1,fin ZU bO k2⟩;simp only[Instr.build,Sem.run_bind,z1,Result.andThen_ok,run_underlying (hT.array hs),hT.size1 w hm];simp_all
  simp_all
end
theorem xu{a b:KS}(h:xt a b=true):a=b:=by
 cases a<;>cases b<;>first | rfl | (simp[xt]at h;done) | grind [xt,LY]
theorem dM:∀{a b:List KS},VY a b=true->a=b
 | [],[],_=>rfl
 |x::a,y::b,h=>by
  unfold VY at h;split at h
  .rename_i e;obtain rfl:=xu e;obtain rfl:=dM h;rfl
  simp_all
 | [],_::_,h=>by grind [VY]
 |_::_,[],h=>by grind [VY]
theorem yw{a b:Ez}(h:AcE a b=true):a=b:=by
 obtain⟨a1,a2⟩:=a;obtain⟨b1,b2⟩:=b<;>grind [AcE,dM]
section
variable {P:Program}{T:GL}(hT:B8 P T)
include hT
def KL(P:Program)(w:World)(b:Bool)(d t:Nat)(xs:Array Value)(o:Nat):Prop:=
 (do let a <-part t xs o;Instr.checkKey b d t a).run P w=.ok () w
theorem Va(w:World)(b:Bool):∀(n t:Nat) (l:List KS),HY T n t=some l->∀d,n<=d->∀(xs:Array Value) (o:Nat),J3 l (IU xs.toList o l.length)=true->KL P w b d t xs o
 |0,t,l,h=>by grind [HY]
 |n+1,t,l,h=>by
  intro d hd xs o hx;obtain⟨d,rfl⟩:∃d',d=d'+1:=⟨d-1,by omega⟩;have scalar:∀k,(T t).d≠.other->J8 (T t).d=false->l=[k]->(∀x,OE k x=true->(Instr.checkKey b (d+1) t x).run P w=.ok () w)->KL P w b (d+1) t xs o:=by
   rintro k kF hs rfl hk
   obtain⟨x,x1,x2,x3⟩:=Mb hx;unfold KL;simp[Sem.run_bind,Du hT w kF hs xs o _ x1,hk x x2]
  unfold HY at h;split at h
  .rename_i k hk;split at h
   .cases h
    refine scalar _ aa0 (by rw[hk];rfl) rfl (fun x hx=>?_);cases x<;>simp[OE]at hx
    simp[Instr.checkKey,run_underlying (hT.int hk)]
   simp_all
  .rename_i hk;split at h
   .cases h
    refine scalar _ aa0 (by rw[hk];rfl) rfl (fun x hx=>?_);cases x<;>simp[OE]at hx
    simp[Instr.checkKey,run_underlying (hT.string hk)]
   simp_all
  .rename_i hk;split at h
   .cases h
    refine scalar _ aa0 (by rw[hk];rfl) rfl (fun x hx=>?_);cases x<;>simp[OE]at hx
    simp[Instr.checkKey,run_underlying (hT.bool hk)]
   simp_all
  .rename_i fs hk;split at h
   .split at h
    .rename_i l' MJ;split at h
     .rename_i CN;cases h;have CN:=A5 CN;have kF:(T t).d≠.other:=aa0
      have hs:J8 (T t).d=true:=by rw[hk];rfl
      obtain⟨fa,u1,u2,u3⟩:=hT.struct hk;rw[u2]at MJ;have ex:(xs.extract o (o+(T t).size)).toList=IU xs.toList o l.length:=by
       grind [IU,Array.toList_extract]
      have s0:IU (IU xs.toList o l.length) 0 l.length=IU xs.toList o l.length:=by
       grind [lZ]
      unfold KL;simp only[Sem.run_bind,GK hT w kF hs,Result.andThen_ok];have ih:=Va w b n;have hq:J3 l (IU (xs.extract o (o+(T t).size)).toList 0 l.length)=true:=aa0
      generalize xs.extract o (o+(T t).size)=ys at hq;simp only[Instr.checkKey,Sem.run_bind,run_underlying u1,Result.andThen_ok];rw[<-Array.forIn_toList]
      clear u2 hk
      have key : ∀ (fl : List Field) (m : Nat) (l : List KS), Pa (HY T n) m (fl.map fun f => (f.type, f.offset))=some l -> (∀ f ∈ fl, f.name ≠ "_") -> J3 l (IU ys.toList m l.length)=true ->
        (forIn fl PUnit.unit (fun (f : Field) (_ : PUnit) => ((if f.name ≠ "_" then (do
         let x <-part f.type ys f.offset
         Instr.checkKey b d f.type x
         pure (ForInStep.yield PUnit.unit))else pure (ForInStep.yield PUnit.unit)):Sem (ForInStep PUnit)))).run P w=.ok PUnit.unit w:=by
       intro fl
       induction fl with
       |nil=>simp_all
       |cons f fl ihf=>
        intro m l hg hn hy;obtain⟨ho,a,c,ha,hc,rfl⟩:=Oy hg;rw[Ac]at hy;obtain⟨y1,y2⟩:=UA hy;rw[Re _ _ _ _ I]at y1;rw[WK,Nat.add_sub_cancel_left]at y2;have h1:=ih f.type a ha d I ys m y1;unfold KL at h1;rw[List.forIn_cons];simp only[Sem.run_bind,AO (hn f (Ad ..))];simp only[Sem.run_bind]at h1;rw[ho];generalize (part f.type ys m).run P w=r1 at h1⊢;cases r1 with
        |halt x w1=>cases h1
        |ok u w1=>
         grind [Result.andThen_ok,Sem.run_pure]
      rw[key fa.toList 0 l MJ u3 hq]
      rfl
     simp_all
    simp_all
   simp_all
  simp_all
theorem ud(hs:Ig T kt=some sh)(w:World)(hx:bt sh x=true)(hy:bt sh y=true) :
  ∃b:Bool,(Op.equal kt x y).run P w=.ok b w/\(b=true↔x=y):=by
 unfold Ig at hs;split at hs
 .rename_i fs hk;split at hs
  .rename_i l hl;cases hs;cases x<;>simp only[bt]at hx<;>try (cases hx;done)
   cases y<;>simp only[bt]at hy<;>try (cases hy;done)
   rename_i xs ys;have hd:(T kt).d≠.other:=aa0
   have ha:J8 (T kt).d=true:=by rw[hk];rfl
   have CN:l.length=(T kt).size:=by
    grind [HY,Nat.eq_of_beq_eq_true]
   have s0:∀zs:Array Value,J3 l zs.toList=true->IU zs.toList 0 l.length=zs.toList:=fun zs hz=>by
    grind [NW,IU,List.take_of_length_le]
   have ex:∀zs:Array Value,J3 l zs.toList=true->zs.extract 0 (0+(T kt).size)=zs:=fun zs hz=>by
    have:=NW hz
    simp_all
   obtain⟨b,b1,b2⟩:=Z0 hT w 8 kt l hl 10000 I xs ys 0 aa0 aa0;simp only[Sem.run_bind,GK hT w hd ha,Result.andThen_ok,ex _ hx,ex _ hy]at b1;rw[s0 _ hx,s0 _ hy]at b2;refine⟨b,b1,b2.trans ⟨fun e=>by simp_all,fun e=>by simp_all⟩⟩
  simp_all
 .rename_i OB;split at hs
  .rename_i l hl;cases hs;have Uh : J3 l [x]=true:=by cases x<;>exact hx
   have hy' : J3 l [y]=true:=by cases y<;>exact hy
   have single:∀k,l=[k]->OE k x=true/\OE k y=true:=by
    grind [J3]
   have e9:Op.equal kt x y=Op.equalIn (9999+1) kt x y:=rfl;rw[e9];unfold HY at hl;split at hl
   .rename_i k hk;split at hl
    .cases hl
     obtain⟨h1,h2⟩:=single _ rfl;cases x<;>simp[OE]at h1
     cases y<;>simp[OE]at h2
     obtain rfl:=LY h1;obtain rfl:=LY h2;exact⟨_,run_equalIn_int w 9999 kt _ _ _ _ (hT.int hk),by simp⟩
    simp_all
   .rename_i hk;split at hl
    .cases hl
     obtain⟨h1,h2⟩:=single _ rfl;cases x<;>simp[OE]at h1
     cases y<;>simp[OE]at h2
     exact⟨_,run_equalIn_string w 9999 kt _ _ (hT.string hk),by grind [JV]⟩
    simp_all
   .rename_i hk;split at hl
    .cases hl
     obtain⟨h1,h2⟩:=single _ rfl;cases x<;>simp[OE]at h1
     cases y<;>simp[OE]at h2
     exact⟨_,run_equalIn_bool' w 9999 kt _ _ (hT.bool hk),by simp⟩
    simp_all
   all_goals simp_all
  simp_all
theorem NC(hs:Ig T kt=some sh)(w:World)(b:Bool)(hx:bt sh x=true):(Instr.checkKey b 10000 kt x).run P w=.ok () w:=by
 unfold Ig at hs;split at hs
 .rename_i fs hk;split at hs
  .rename_i l hl;cases hs;cases x<;>simp only[bt]at hx<;>try simp_all
   rename_i xs;have hd:(T kt).d≠.other:=aa0
   have ha:J8 (T kt).d=true:=by rw[hk];rfl
   have CN:l.length=(T kt).size:=by
    grind [HY,Nat.eq_of_beq_eq_true]
   have:=NW hx
   have h0:IU xs.toList 0 l.length=xs.toList:=by
    grind [IU]
   have h1:=Va hT w b 8 kt l hl 10000 I xs 0 aa0
   grind [KL,Sem.run_bind,GK,Result.andThen_ok,Array.extract_size]
  simp_all
 .rename_i OB;split at hs
  .rename_i l hl;cases hs;have key:∀d,(Instr.checkKey b (d+1) kt x).run P w=.ok () w:=by
    intro d;unfold HY at hl;split at hl
    .rename_i k hk;simp[Instr.checkKey,run_underlying (hT.int hk)]
    .rename_i hk;simp[Instr.checkKey,run_underlying (hT.string hk)]
    .rename_i hk;simp[Instr.checkKey,run_underlying (hT.bool hk)]
    all_goals simp_all
   simp_all
  simp_all
end
def ML(x:Value)(es:Ap2)(i:Nat)(r:Option (Nat×Value)):Prop:=
 (r=none/\∀e∈es,e.key≠x)\/∃(j:Nat) (e:MapEntry),r=some (i+j,e.val)/\es[j]?=some e/\e.key=x
theorem ML.here{es:Ap2}(h:e.key=x):ML x (e::es) i (some (i,e.val)):=
 .inr ⟨0,e,rfl,rfl,h⟩
theorem ML.there{es:Ap2}{r:Option (Nat×Value)}(h:e.key≠x)(k:ML x es (i+1) r):ML x (e::es) i r:=by
 rcases k with ⟨h1,h2⟩ | ⟨j,e',h1,h2,h3⟩
 .exact .inl ⟨h1,fun d hd=>(AJ.1 hd).elim (fun e'=>e'▸h) (h2 d)⟩
 .exact .inr ⟨j+1,e',by grind,h2,h3⟩
theorem Vt{kind:TypeDesc}{x:Value}:∀(es:Ap2) (i:Nat),(∀e∈es,∃b,Instr.sameNow kind x e.key=some b/\(b=true↔x=e.key))->∃r,Instr.findNow kind x es i=some r/\ML x es i r
 | [],i,_=>⟨none,rfl,.inl ⟨rfl,fun _ h=>by cases h⟩⟩
 |e::es,i,h=>by
  obtain⟨b,b1,b2⟩:=h e (Ad ..);cases b with
  |true=>exact⟨_,by grind [Instr.findNow],.here (b2.1 rfl).symm⟩
  |false=>
   obtain⟨r,r1,r2⟩:=Vt es (i+1) (fun d hd=>h d (Aj _ hd))<;>grind [Instr.findNow,ML.there]
section
variable {P:Program}{T:GL}(hT:B8 P T)
include hT
theorem Ow{kt:Nat}{sh:Ez}(hs:Ig T kt=some sh)(w:World){x:Value}(hx:bt sh x=true) :
  ∀(es:Ap2) (i:Nat),(∀e∈es,bt sh e.key=true)->∃r,(Instr.findAsking kt x es i).run P w=.ok r w/\ML x es i r
 | [],i,_=>⟨none,rfl,.inl ⟨rfl,fun _ h=>by cases h⟩⟩
 |e::es,i,h=>by
  obtain⟨b,b1,b2⟩:=ud hT hs w hx (h e (Ad ..));cases b with
  |true=>exact⟨_,by simp[Instr.findAsking,b1],.here (b2.1 rfl).symm⟩
  |false=>
   obtain⟨r,r1,r2⟩:=Ow hs w hx es (i+1) (fun d hd=>h d (Aj _ hd));exact⟨r,by simp[Instr.findAsking,b1,r1],.there (fun e'=>by simp_all) r2⟩
theorem PE(hs:Ig T kt=some sh)(w:World)(hx:bt sh x=true)(es:Ap2)(he:∀e∈es,bt sh e.key=true) :
  ∃r,(Instr.findKey kt x es).run P w=.ok r w/\ML x es 0 r:=by
 have Aii:∀d,P.underlying kt=some d->Instr.findNow d x es 0=none->∃r,(Instr.findKey kt x es).run P w=.ok r w/\ML x es 0 r:=by
  intro d hd hn;obtain⟨r,r1,r2⟩:=Ow hT hs w hx es 0 he;exact⟨r,by simp[Instr.findKey,run_underlying hd,hn,r1],r2⟩
 have now:∀d,P.underlying kt=some d->(∀e∈es,∃b,Instr.sameNow d x e.key=some b/\(b=true↔x=e.key))->∃r,(Instr.findKey kt x es).run P w=.ok r w/\ML x es 0 r:=by
  intro d hd hn;obtain⟨r,r1,r2⟩:=Vt es 0 hn;exact⟨r,by simp[Instr.findKey,run_underlying hd,r1],r2⟩
 have iw:=hs;unfold Ig at iw;split at iw
 .rename_i fs hk;obtain⟨fa,u1,_⟩:=hT.struct hk;cases es<;>grind [Instr.findNow,Instr.sameNow]
 .rename_i OB;split at iw
  .rename_i l hl;cases iw;have cv:∀y,bt ⟨false,l⟩ y=true->J3 l [y]=true:=fun y hy=>by cases y<;>exact hy
   have Uh:=cv x hx;have he' : ∀e∈es,J3 l [e.key]=true:=fun e h=>cv _ (he e h)
   clear hx he cv
   have single:∀k y,l=[k]->J3 l [y]=true->OE k y=true:=by
    grind [J3]
   unfold HY at hl;split at hl
   .rename_i k hk;split at hl
    .cases hl
     refine now _ (hT.int hk) (fun e h=>?_);have h1:=single _ _ rfl Uh;have h2:=single _ _ rfl (he' e h);generalize e.key=y at h2;cases x<;>simp[OE]at h1
     cases y<;>simp[OE]at h2
     obtain rfl:=LY h1;obtain rfl:=LY h2;exact⟨_,by simp[Instr.sameNow];rfl,by simp⟩
    simp_all
   .rename_i hk;split at hl
    .cases hl
     refine now _ (hT.string hk) (fun e h=>?_);have h1:=single _ _ rfl Uh;have h2:=single _ _ rfl (he' e h);generalize e.key=y at h2;cases x<;>simp[OE]at h1
     cases y<;>simp[OE]at h2
     exact⟨_,by simp[Instr.sameNow];rfl,by grind [beq_toListBytes,JV]⟩
    simp_all
   .rename_i hk;split at hl
    .cases hl
     refine now _ (hT.bool hk) (fun e h=>?_);have h1:=single _ _ rfl Uh;have h2:=single _ _ rfl (he' e h);generalize e.key=y at h2;cases x<;>simp[OE]at h1
     cases y<;>simp[OE]at h2
     exact⟨_,by simp[Instr.sameNow];rfl,by simp⟩
    simp_all
   all_goals simp_all
  simp_all
end
theorem T5{P:Program}(w:World)(hx:bt sh x=true):(Instr.keyThatStays x x).run P w=.ok x w:=by
 have scalar:∀(k:KS) (y:Value) (n:Nat),OE k y=true->Instr.sameBits n y y=true:=by
  intro k y n h;cases k<;>cases y<;>simp[OE]at h<;>cases n<;>simp[Instr.sameBits,beq_toListBytes]
 have lst:∀(l:List KS) (ys:List Value) (n:Nat),J3 l ys=true->((ys.zip ys).all fun(a,b)=>Instr.sameBits n a b)=true:=by
  intro l ys n
  induction ys generalizing l with
  |nil=>simp_all
  |cons y ys ih=>
   grind [List.zip_cons_cons,J3.eq_def]
 have h1:∀n,Instr.sameBits (n+1) x x=true:=by
  intro n;obtain⟨ag,l⟩:=sh;cases ag with
  |true=>
   cases x<;>simp only[bt]at hx<;>try simp_all
   have:=lst l _ n hx
   grind [Instr.sameBits]
  |false=>
   have Uh : J3 l [x]=true:=by cases x<;>exact hx
   grind [J3.eq_def]
 have:=h1 9999
 simp only[Instr.keyThatStays];simp_all
theorem ZA:∀{cs:Ap1} {l:List Value},bH cs=some l->cs=l.map .v
 | [],l,h=>by cases h;rfl
 |a::r,l,h=>by
  cases a<;>simp only[bH]at h<;>try (cases h;done)
  split at h
  .rename_i l' hl;cases h;rw[ZA hl];rfl
  simp_all
theorem xo(h:O g w U a x)(hk:AbW a=some y):x=y:=by
 unfold AbW at hk;split at hk
 .grind [O.v_eq]
 .split at hk
  .rename_i l hl;cases hk;obtain rfl:=ZA hl;exact h.agg_vals
  simp_all
 simp_all
theorem NV{T:GL}{ty:Nat}{K:Value->Prop}(h:O g w U a x)(hk:KB T ty sh a K) :
  ∃kt e,(T ty).d=.map kt e/\Ig T kt=some sh/\bt sh x=true/\K x:=by
 unfold KB at hk
 grind [yw,xo]
theorem Hl.shape(h:Hl sh es ck BM):∀e∈es.toList,bt sh e.key=true:=by
 intro e he;obtain⟨h1,h2,h3,_⟩:=h;obtain⟨i,hi⟩:=B4.1 he;have CL:i<BM.length:=aa2
 rw[h2 i BM[i] e (AC CL) aa0]
 grind
theorem Hl.none(h:Hl sh es ck BM)(hn:∀e∈es.toList,e.key≠x)(a:AV):(x,a)∉BM:=by
 intro hm;obtain⟨h1,h2,_⟩:=h;obtain⟨i,hi⟩:=B4.1 hm;have CL:i<es.size:=aa2
 exact hn es[i] aa1 (h2 i _ es[i] hi aa0)
theorem Hl.some{sh:Ez}{es:Array MapEntry}{ck:Nat}{BM:List (Value×AV)}(h:Hl sh es ck BM){x:Value}{j:Nat}{e:MapEntry}(he:es.toList[j]?=some e)(hk:e.key=x) :
  ∃a,BM[j]?=some (x,a)/\(x,a)∈BM:=by
 obtain⟨h1,h2,_⟩:=h;have CL:j<BM.length:=aa2
 have hg:BM[j]?=Option.some BM[j]:=AC CL
 grind
section
variable {P:Program}{T:GL}(hT:B8 P T){h:Nat->HO}{g:D}{w:World}{K:AV->Prop}
section
include hT
theorem ZC{t:Nat}(hk:KG T t K):Bm P h g w (zeroValue t) K:=by
 unfold KG at hk;split at hk
 .simp_all
 .rename_i hd;obtain⟨z,z1,z2,z3⟩:=Rp hT (w:=w) hd;rw[z3]at hk;split at hk
  .rename_i cs;split at hk
   .rename_i ha;have hr:=Cg.vals (g:=g) (w:=w) (U:=L h) ha;exact⟨_,_,z1,hk,.agg _ _ _ aa1 (fun i x hx=>hr.2.1 x (Ax (by simpa using hx))) (fun i av x h1 h2=>hr.2.2 i av x h1 aa0)⟩
   simp_all
  .exact⟨_,_,z1,hk,.v _ _⟩
theorem Ko{ty b:Nat}{kt e:Nat}{ck:Nat}{BM:List (Value×AV)}(ht:(T ty).d=.map kt e)(hs:Ig T kt=some sh)(hx:bt sh x=true)(hb:w.heap[b]?=some (.map es ck))(hm:Hl sh es ck BM)(hv:∀(i:Nat) (kv:Value×AV) (e:MapEntry),BM[i]?=some kv->es[i]?=some e->O g w (L h) kv.2 e.val)(hk:M6 T ty ok BM x K):Bm P h g w (Instr.lookup ty (.map (some b)) x ok) K:=by
 have hu:=hT.map ht;have FA:=run_getObj_map (P:=P) w b es ck hb;have aw:=fun bb=>NC hT hs w bb hx;obtain⟨r,r1,r2⟩:=PE hT hs w hx es.toList hm.shape;unfold M6 at hk;rw[ht]at hk;dsimp only at hk;rcases r2 with ⟨rfl,hn⟩ | ⟨j,en,rfl,hj,hkey⟩
 .have nI:=fun a=>hm.none hn a;cases ok with
  |true=>
   obtain⟨y,av,y1,y2,y3⟩:=ZC hT (K:=fun z=>K (.tup [z,.v (.bool false)])) (P:=P) (h:=h) (g:=g) (w:=w) (hk.2 nI);refine⟨.tuple #[y,.bool false],_,?_,y2,.tup _ _ _ rfl (fun i a x h1 h2=>?_)⟩
   .simp[Instr.lookup,run_underlying hu,FA,aw,r1,y1]
   grind [O.v]
  |false=>
   obtain⟨y,av,y1,y2,y3⟩:=ZC hT (K:=K) (P:=P) (h:=h) (g:=g) (w:=w) (hk.2 nI);exact⟨y,av,by simp[Instr.lookup,run_underlying hu,FA,aw,r1,y1],y2,y3⟩
 .obtain⟨a,a1,a2⟩:=hm.some hj hkey;have hr:=hv j (x,a) en a1 aa0;cases ok with
  |true=>
   refine⟨.tuple #[en.val,.bool true],_,?_,hk.1 a a2,.tup _ _ _ rfl (fun i av y h1 h2=>?_)⟩
   .simp[Instr.lookup,run_underlying hu,FA,aw,r1]
   grind [O.v]
  |false=>exact⟨en.val,a,by simp[Instr.lookup,run_underlying hu,FA,aw,r1],hk.1 a a2,hr⟩
theorem iG(ho:∀r,DE g w (L h) r (h r)){ty:Nat}{m k:AV}{vm vk:Value}(hm:O g w (L h) m vm)(hx:O g w (L h) k vk)(hk:N0 T h ty m k ok K) :
  Bm P h g w (Instr.lookup ty vm vk ok) K:=by
 unfold N0 at hk;split at hk
 .obtain⟨kt,e,k1,k2,k3,k4⟩:=NV hx hk;cases hm with
  |cmap _ _ _ b es ck hS hb wZ hv=>exact Ko hT k1 k2 k3 hb wZ (fun i kv e p q=>(hv i kv e p q).up _) k4
 .rename_i r;have hr:=ho r;cases hm with
  |mref _ _ b hu ht hp=>
   split at hk
   .rename_i sh BM e;rw[e]at hr;obtain⟨_,b',es,ck,a1,a2,a3,a4,a5,a6⟩:=hr<;>grind [NV,Ko,O.up]
   .rename_i sh BM e;rw[e]at hr;obtain⟨_,b',es,ck,a1,a2,a3,a4,a5,a6⟩:=hr<;>grind [NV,Ko]
   .rename_i sh BM e;rw[e]at hr;obtain⟨_,b',a1,a2⟩:=hr;rw[a1]at hp;cases hp;obtain⟨kt,e,k1,k2,k3,k4⟩:=NV hx hk;cases a2 with
    |cmap _ _ _ _ es ck hS hb wZ hv=>exact Ko hT k1 k2 k3 hb wZ (fun i kv e p q=>(hv i kv e p q).up _) k4
   simp_all
 simp_all
omit hT in
theorem qV{ty:Nat}{BM:List (Value×AV)}{kx:Value}(hk:M5 T ty ok BM kx K):M6 T ty ok BM kx K:=by
 unfold M5 at hk;unfold M6;split at hk
 all_goals grind
omit hT in
theorem nV{ty:Nat}{k:AV}{A B:Value->Prop}(hk:KB T ty sh k A)(hab:∀x,A x->B x):KB T ty sh k B:=by
 grind [KB]
omit hT in
theorem oc{ty:Nat}{m k:AV}(hk:NZ T h ty m k ok K):N0 T h ty m k ok K:=by
 unfold NZ at hk
 grind [N0,nV,qV]
theorem r9(ho:∀r,DE g w (L h) r (h r)){t ty:Nat}{x:AV}(hx:O g w (L h) x vx)(hk:TO T t h x K):Bm P h g w (Builtin.len_ #[t] ty #[vx]) K:=by
 unfold TO at hk;split at hk
 .rename_i e ht;have hu:=hT.slice ht;have run:∀a n c,(Builtin.len_ #[t] ty #[.slice a n c]).run P w=.ok (.int .i64 n) w:=fun a n c=>by simp[Builtin.len_,run_underlying hu,goInt]
  split at hk
  .have hs:=hx.slice_none;cases hs with
   |snil _ a cap=>exact⟨_,_,run a 0 cap,hk,.v _ _⟩
   |slice _ _ b off sz cap val hc=>exact⟨_,_,run _ _ _,hk,.v _ _⟩
  .cases hx with
   |msl=>exact⟨_,_,run _ _ _,hk,.v _ _⟩
  .obtain rfl:=hx.v_eq;exact⟨_,_,run _ _ _,hk,.v _ _⟩
  simp_all
 .rename_i ht;split at hk
  .obtain rfl:=hx.v_eq;exact⟨_,_,by simp[Builtin.len_,run_underlying (hT.string ht),goInt],hk,.v _ _⟩
  simp_all
 .rename_i k e ht;have hu:=hT.map ht;have run:∀b es ck,w.heap[b]?=some (.map es ck)->(Builtin.len_ #[t] ty #[.map (some b)]).run P w=.ok (.int .i64 es.size) w:=fun b es ck hb=>by
   simp[Builtin.len_,run_underlying hu,goInt,run_getObj_map (P:=P) w b es ck hb]
  split at hk
  .cases hx with
   |cmap _ _ _ b es ck hS hb wZ hv=>exact⟨_,_,run b es ck hb,by rw[wZ.1];exact hk,.v _ _⟩
  .rename_i r;have hr:=ho r;cases hx with
   |mref _ _ b rO ht' hp=>
    split at hk
    .rename_i sh BM e;rw[e]at hr;obtain⟨_,b',es,ck,a1,a2,a3,a4,a5,a6⟩:=hr;rw[a2]at hp;cases hp;exact⟨_,_,run _ es ck a3,by rw[a4.1];exact hk,.v _ _⟩
    .rename_i sh BM e;rw[e]at hr;obtain⟨_,b',es,ck,a1,a2,a3,a4,a5,a6⟩:=hr;rw[a2]at hp;cases hp;exact⟨_,_,run _ es ck a3,by rw[a4.1];exact hk,.v _ _⟩
    .rename_i sh BM e;rw[e]at hr;obtain⟨_,b',a1,a2⟩:=hr;rw[a1]at hp;cases hp;cases a2 with
     |cmap _ _ _ _ es ck hS hb wZ hv=>exact⟨_,_,run _ es ck hb,by rw[wZ.1];exact hk,.v _ _⟩
    simp_all
  simp_all
 simp_all
end
theorem aN(ho:∀r,DE g w (L h) r (h r)){t:Nat->AV}(ht:∀x:Operand,O g w (L h) (ev t x) (ρ x)){fn:Fn}{first cap:Array Operand}(hk:K9 t h fn first.toList cap.toList K) :
  Bm P h g w (Instr.makeFunc fn (first.map ρ) (cap.map ρ)) K:=by
 unfold K9 at hk;split at hk
 .rename_i f e;have hf:first=#[]:=by
   simp_all
  subst hf;refine⟨_,_,rfl,hk,?_⟩
  grind [O.clo,O.rsv]
 simp_all
theorem aU{x:AV}(hx:O g w (L h) x vx)(hk:Lc x K){pos:String}{after:Array Edge}{gd:Option (Nat×Bool)}{dst:Option Tmp}{ty:Nat}{X:Operand}(hX:ρ X=vx) :
  (execOp ρ ⟨dst,.nilCheck X,ty,pos,after,gd⟩).run P w=.ok (.value vx) w/\K x:=by
 subst hX;unfold Lc at hk;split at hk
 all_goals first
  |exact hk.elim
  |(refine⟨?_,hk⟩;generalize hq:ρ X=q at hx;cases hx;simp[execOp,hq];done)
theorem na(ho:∀r,DE g w (L h) r (h r)){x:AV}(hx:O g w (L h) x vx)(hk:g8 h x K):Bm P h g w (Instr.entry vx) K:=by
 unfold g8 at hk;split at hk
 .rename_i r;have hr:=ho r;split at hk
  .rename_i all rem kv e;rw[e]at hr;cases hx with
   |ref _ _ _ b hu ht hp=>
    obtain⟨_,b',mb,Ku,seen,st,es,ck,a1,a2,a3,a4,a5,⟨sh,a6⟩,a7,a8,a9,bY,jK,a12,a13⟩:=hr;rw[a2]at hp;cases hp;obtain⟨i,en,c1,c2,c3⟩:=a12;have Af4:es.find? (fun e=>e.born == en.born)=some en:=by
     rw[Array.find?_eq_some_iff_getElem];obtain⟨CL,he⟩:=Ag.1 c2;refine⟨by simp,i,CL,he,fun j hj=>?_⟩;have nH : j<es.size:=I
     simp only[Fp,beq_eq_false_iff_ne,ne_eq];intro e'
     have:=a6.2.2.2.2.2 j i es[j] en aa0 c2 e'
     omega
    have hkey:=a6.2.1 i kv en c1 c2;refine⟨.tuple #[en.key,en.val],_,?_,hk,.tup _ _ _ rfl (fun k av y h1 h2=>?_)⟩
    .have kG:(getObj b).run P w=.ok (.mapIter (some mb) Ku seen st) w:=by grind [getObj,Sem.run]
     have hg2:=run_getObj_map (P:=P) w mb es ck a5;simp[Instr.entry,kG,c3,hg2,a8,Af4]
    grind [O.v,O.up]
  simp_all
 simp_all
end
end Go.Eng
