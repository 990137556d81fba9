/- Lemmas 3. -/
import Derived.Test.YtkjhcikodmiceaaGreatDoorUA02
namespace Go.Eng
variable {x:List Rl}{p:ByteArray}{dec:List Cd}{roots:List Rq}{D:List Sl}{t:List Tm}{c:Cd}{d:List (List Tm)}{s:SS}{n:Nd}{S:List Sl}{k:Nat}{E:List Cd}{needs:List Nd}{v v':Ver}{s':SS}{r:Rl}{q:Rq}
theorem Od(f:Rq->Nat->Nd):∀(l:List Rq) (i k:Nat),(Lq f i l)[k]?=(l[k]?).map fun q=>f q (i+k)
 | [],i,k=>by simp[Lq]
 |q::l,i,0=>by simp[Lq]
 |q::l,i,k+1=>by
  have h:=Od f l (i+1) k
  grind [Lq]
theorem Lr(f:Rq->Nat->Nd):∀(l:List Rq) (i:Nat),(Lq f i l).length=l.length
 | [],_=>rfl
 |_::l,i=>by simp[Lq,Lr f l (i+1)]
theorem Oe{f:Rq->Nat->Nd}{l:List Rq}(h:n∈Lq f 0 l):∃k q,l[k]?=some q/\n=f q k:=by
 grind [List.mem_iff_getElem?,Od]
theorem QI{f:Rq->Nat->Nd}(hf:∀q i,(f q i).rq=q):∀(l:List Rq) (i:Nat),(Lq f i l).map (·.rq)=l
 | [],_=>rfl
 |q::l,i=>by simp[Lq,hf,QI hf l (i+1)]
abbrev Gt(roots:List Rq)(dec:List Cd):List Rq:=roots++(dec.map fun c=>c.rel.reqs).flatten
theorem In(roots:List Rq)(dec:List Cd):(CI roots dec).map (·.rq)=Gt roots dec:=by
 unfold CI XP;rw[Bm,QI (fun _ _=>rfl),List.map_flatten,Bx]
 congr 2
 exact BK fun c _=>QI (fun _ _=>rfl) _ _
theorem FN(dec:List Cd)(p:ByteArray):BU (At dec) p=CO dec p:=by
 grind [BU,CO,List.any_map]
theorem IB(before:List Sl):∀{l:List Rq} {a p:ByteArray},Cc before l (some a)=some p->p=a\/EL p a=true
 | [],a,p,h=>by cases h<;>simp_all
 |q::l,a,p,h=>by
  unfold Cc at h;split at h
  .exact IB before h
  .dsimp only at h;split at h
   .rename_i hb;rcases IB before h with e | e<;>grind [DG]
   .exact IB before h
theorem HH(before:List Sl):∀{l:List Rq} {a:ByteArray},Cc before l (some a)≠none
 | [],a=>by simp[Cc]
 |q::l,a=>by
  unfold Cc;split
  .exact HH before
  .dsimp only;split<;>exact HH before
theorem LZ(dec:List Cd):∀(L:List Nd) (a:ByteArray×List Nd),(a.2≠[]->CO dec a.1=false) ->
  L.foldl (DK dec) a=match Cc (At dec) (L.map (·.rq)) (if a.2=[]then none else some a.1)with
   |none=>a
   |some p=>(p,(if a.2≠[]/\a.1=p then a.2 else [])++L.filter fun n=>decide (n.rq.path=p))
 | [],a,h=>by
  grind [Cc]
 |n::L,a,h=>by
  obtain⟨p0,o⟩:=a;rw[FC,Bb];have zY:∀(acc:Option ByteArray) (l:List Rq),(∀p,acc=some p->CO dec p=false)->∀p,Cc (At dec) l acc=some p->CO dec p=false:=fun acc l ha p hp=>by
   grind [I0,FN]
  cases hd:CO dec n.rq.path with
  |true=>
   have e1:DK dec (p0,o) n=(p0,o):=by grind [DK]
   have e2:Cc (At dec) (n.rq::L.map (·.rq)) (if o=[]then none else some p0)=Cc (At dec) (L.map (·.rq)) (if o=[]then none else some p0):=by
    grind [Cc,FN]
   rw[e1,e2,LZ dec L (p0,o) h];dsimp only;cases hg:Cc (At dec) (L.map (·.rq)) (if o=[]then none else some p0)<;>grind [Cc]
  |false=>
   have RP:BU (At dec) n.rq.path=false:=by grind [FN]
   by_cases ho:o=[]
   .subst ho;have e1:DK dec (p0,[]) n=(n.rq.path,[n]):=by
     grind [DK]
    have e2:Cc (At dec) (n.rq::L.map (·.rq)) none=Cc (At dec) (L.map (·.rq)) (some n.rq.path):=by
     grind [Cc]
    rw[e1,LZ dec L (n.rq.path,[n]) (fun _=>hd),A1 rfl,e2]
    grind [HH]
   .have hif:(if o=[]then none else some p0)=some p0:=AO ho;rw[hif];cases hb:EL p0 n.rq.path with
    |true=>
     have e1:DK dec (p0,o) n=(p0,o):=by grind [DK]
     have gg:EL n.rq.path p0=false:=TT hb;have e2:Cc (At dec) (n.rq::L.map (·.rq)) (some p0)=Cc (At dec) (L.map (·.rq)) (some p0):=by
      grind [Cc]
     rw[e1,e2,LZ dec L (p0,o) h]
     grind [IB]
    |false=>
     cases gg:EL n.rq.path p0 with
     |true=>
      have e1:DK dec (p0,o) n=(n.rq.path,[n]):=by
       grind [DK]
      have e2:Cc (At dec) (n.rq::L.map (·.rq)) (some p0)=Cc (At dec) (L.map (·.rq)) (some n.rq.path):=by
       grind [Cc]
      rw[e1,e2,LZ dec L (n.rq.path,[n]) (fun _=>hd),AO B0]
      grind [HH,IB]
     |false=>
      have e0:n.rq.path=p0:=Ht gg hb;have e1:DK dec (p0,o) n=(p0,o++[n]):=by
       grind [DK]
      have e2:Cc (At dec) (n.rq::L.map (·.rq)) (some p0)=Cc (At dec) (L.map (·.rq)) (some p0):=by
       grind [Cc]
      rw[e1,e2,LZ dec L (p0,o++[n]) (fun _=>by simp_all),AO B0];cases hg:Cc (At dec) (L.map (·.rq)) (some p0)<;>grind [HH]
theorem Sj(roots:List Rq)(dec:List Cd):Ea roots dec=match E9 (Gt roots dec) (At dec)with
  |none=>(mt,[])
  |some p=>(p,(CI roots dec).filter fun n=>decide (n.rq.path=p)):=by
 grind [Ea,E9,LZ,In]
theorem Sm:(Ea roots dec).2=[]↔E9 (Gt roots dec) (At dec)=none:=by
 rw[Sj];cases h:E9 (Gt roots dec) (At dec)with
 |none=>simp
 |some p=>
  simp only[reduceCtorEq,iff_false];obtain⟨_,q,hq,e⟩:=GE h;rw[<-In]at hq;obtain⟨n,hn,rfl⟩:=Ak.1 hq;exact List.ne_nil_of_mem (DE.2 ⟨hn,by simp_all⟩)
structure V6(roots:List Rq)(dec:List Cd)(p:ByteArray)(l:List Nd):Prop where
 next:E9 (Gt roots dec) (At dec)=some p
 undone:CO dec p=false
 mem:∀n,n∈l↔n∈CI roots dec/\n.rq.path=p
theorem Kc{n0:Nd}{l:List Nd}(h:(Ea roots dec).2=n0::l):V6 roots dec (Ea roots dec).1 (n0::l):=by
 rw[<-h];rw[Sj]at *
 cases hp:E9 (Gt roots dec) (At dec)with
 |none=>simp_all
 |some p=>
  dsimp only;refine⟨hp,by rw[<-FN];grind [GE],fun n=>?_⟩
  grind
theorem JT:c∈Bn x p↔∃r∈x,r.path=p/\r.yanked=false/\c=⟨plc r.ver,r⟩:=by
 grind [Bn]
theorem L6{i:Nf}:∀{l:List Nf} {k m:Nat},KK i k l=some m->∃j,m=k+j/\l[j]?=some i
 | [],_,_,h=>by cases h
 |y::l,k,m,h=>by
  unfold KK at h;split at h
  .simp_all
  .obtain⟨j,h1,h2⟩:=L6 h;exact⟨j+1,by omega,h2⟩
theorem Pe{i:Nf}:∀{l:List Nf} {k:Nat},KK i k l=none->i∉l
 | [],_,_=>by simp
 |y::l,k,h=>by
  unfold KK at h;split at h
  .cases h
  .rename_i e
   have:=Pe h
   grind
theorem XB{α:Type}{d d' : List α}{i:Int}{a:α}(h:El d i=some a)(hp:d <+: d'):El d' i=some a:=by
 unfold El at *
 split at h
 .cases h
 .rename_i hi;rw[AO hi];obtain⟨t,rfl⟩:=hp<;>grind
theorem Xb{d':List (List Tm)}{i:Nf}{o:List Tm}(h:Bo x roots d i=some o)(hp:d <+: d'):Bo x roots d' i=some o:=by
 grind [Bo,XB]
structure D4(x:List Rl)(roots:List Rq)(s:SS):Prop where
 der:BA x roots s.infs []=some s.drv
 len:s.infs.length<=65536
theorem D4.dlen(h:D4 x roots s):s.drv.length=s.infs.length:=by simpa using G1 h.der
theorem D4.nil(x:List Rl)(roots:List Rq):D4 x roots tb:=⟨rfl,by simp⟩
theorem D4.at{x:List Rl}{roots:List Rq}{s:SS}(h:D4 x roots s){k:Nat}{i:Nf}(hk:s.infs[k]?=some i):Bo x roots s.drv i=some (s.drv.getD k []):=by
 have h1:=I6 h.der (k+1);have h0:=I6 h.der k;have Ez:=(AZ.1 hk).1;rw[FL,hk,EG,h0]at h1
 grind [BA,List.take_succ_eq_append_getElem,List.append_cancel_left,Xb]
structure Grow(s s' : SS):Prop where
 pre:s.drv <+: s'.drv
 preI:s.infs <+: s'.infs
 full:s.full=true->s'.full=true
theorem Grow.refl(s:SS):Grow s s:=⟨List.prefix_rfl,List.prefix_rfl,id⟩
theorem Grow.trans{a b c:SS}(h:Grow a b)(k:Grow b c):Grow a c:=⟨h.pre.trans k.pre,h.preI.trans k.preI,fun e=>k.full (h.full e)⟩
theorem Grow.at(h:Grow s s')(hk:k<s.drv.length):DF s' k=DF s k:=by
 obtain⟨t,e⟩:=h.pre<;>grind
theorem Grow.len(h:Grow s s'):s.drv.length<=s'.drv.length:=h.pre.length_le
theorem Jp(s:SS)(i:Nf)(l:List Tm):Grow s (Dw s i l).2:=by
 grind [Dw,Grow.mk]
theorem Jo(h:D4 x roots s){i:Nf}{l:List Tm}(hi:Bo x roots s.drv i=some l) :
  D4 x roots (Dw s i l).2/\(Dw s i l).1<(Dw s i l).2.drv.length/\((Dw s i l).2.full=false->DF (Dw s i l).2 (Dw s i l).1=l):=by
 grind [Dw,L6,BA,EG,D4.dlen,D4.at,D4.mk,D4.der,D4.len]
theorem Yf(s:SS)(i:Nf)(l:List Tm):(Dw s i l).2.infs.length<=s.infs.length+1:=by
 grind [Dw]
theorem Wc(i:Nf)(l:List Tm)(hf:s.full=false)(hc:s.infs.length<65536):(Dw s i l).2.full=false:=by
 grind [Dw]
theorem Rr(S:List Sl):∀{l:List (List Tm)} {i k:Nat},NE S i l=some k->∃j,k=i+j/\∃t,l[j]?=some t/\BG t S=true
 | [],_,_,h=>by cases h
 |t::l,i,k,h=>by
  unfold NE at h;split at h
  .simp_all
  .obtain⟨j,h1,t',h2,h3⟩:=Rr S h;exact⟨j+1,by omega,t',h2,h3⟩
theorem Js(h:MM d S=some k):k<d.length/\BG (d.getD k []) S=true:=by
 obtain⟨j,h1,t,h2,h3⟩:=Rr S h<;>grind
theorem KU:∀{l:List Rq} {b:Option ByteArray},Ff b l=0->∀q∈l,q.set≠[]/\D3 q.set
 | [],_,_,q,hq=>by cases hq
 |r::l,b,h,q,hq=>by
  unfold Ff at h;split at h
  .rename_i e;rcases AA.1 hq with rfl | hq
   .unfold Hq at e
    grind [BN]
   .exact KU h q hq
  omega
theorem JU{l:List Rq}(h:A8 l=0):∀q∈l,q.set≠[]/\D3 q.set:=by
 grind [A8,KU]
abbrev ZJ(k:Int):Ver:=⟨0,k / 1000,k % 1000⟩
theorem GG(k:Int):place (ZJ k)=k:=by grind [place]
theorem Et{k:Int}(h:0<=k/\k<1000000):Cf (ZJ k)=true:=by
 grind [Cf,okPart]
structure Tb(D:List Sl)(p:ByteArray)(S:List Sl):Prop where
 val:Fx S
 same:∀q,q≠p->A4 S q=A4 D q
abbrev Lu(D:List Sl)(p:ByteArray)(v:Ver):List Sl:=D++[⟨p,v⟩]
theorem Tn(a b:List Sl)(p:ByteArray):A4 (a++b) p=(A4 a p).or (A4 b p):=by
 grind [A4]
theorem G4{s:List Sl}(h:BU s p=false):A4 s p=none:=by
 grind [IV,A4]
theorem Tb.self(h:Fx D):Tb D p D:=⟨h,fun _ _=>rfl⟩
theorem Tb.ver(h:Fx D)(hv:Cf v=true):Tb D p (Lu D p v):=by
 refine⟨fun y hy=>?_,fun q hq=>?_⟩
 .rcases Bc.1 hy with hy | hy
  .exact h y hy
  simp_all
 grind [A4]
theorem Iq(hp:BU D p=false)(v:Ver):A4 (Lu D p v) p=some ⟨p,v⟩:=by
 grind [Tn,G4,A4]
theorem W2(hp:BU D p=false)(hv:Cf v=true)(rW : Cf v'=true)(e:place v=place v')(q:ByteArray)(t:Tm) :
  Cu t (A4 (Lu D p v) q)=Cu t (A4 (Lu D p v') q):=by
 by_cases hq:q=p
 .subst hq;rw[Iq hp,Iq hp];show(Cf v&&has t.set (place v))=(Cf v'&&has t.set (place v'));simp_all
 grind [A4]
theorem ZI(hp:BU D p=false)(hv:Cf v=true)(rW : Cf v'=true)(e:place v=place v')(t:List Tm):AN t (Lu D p v)=AN t (Lu D p v'):=by
 grind [Bf,W2]
theorem JN{S':List Sl}(h:Tb D p S)(h' : Tb D p S')(ht:∀u∈t,u.path≠p):AN t S=AN t S':=by
 rw[CN,Bf,Bf];exact⟨fun k u hu=>by rw[h'.same _ (ht u hu),<-h.same _ (ht u hu)];simp_all,fun k u hu=>by rw[h.same _ (ht u hu),<-h'.same _ (ht u hu)];simp_all⟩
theorem IR(h:CY t p=false):∀u∈t,u.path≠p:=fun u hu e=>by
 grind [CY]
theorem Ri(h:CY t p=true):∃u∈t,u.path=p:=by
 grind [CY]
theorem SZ(hf:Form t)(hc:CY t p=true):∃u r,EO t p=some (u,r)/\u.path=p/\∀v∈r,v.path≠p:=by
 obtain⟨u,hu,e⟩:=Ri hc;have hs:=Eg hf;have pP:=(FQ hs).1 hu;rw[e]at pP;refine⟨u,Fr t p,?_,e,fun v hv=>?_⟩
 .unfold EO;rw[show Ck t=some t from hf];simp_all
 .have:=(DE.1 hv).2
  simp_all
theorem VL{b:List Tm}(dZ:Form t)(jt:Form b)(hct:CY t p=true)(wm:CY b p=true){S1 S2:List Sl}(h1:Tb D p S1)(v1:AN t S1=true)(h2:Tb D p S2)(v2:AN b S2=true) :
  (AX t b p).2=0/\∀S,Tb D p S->AN t S=true\/AN b S=true->AN (AX t b p).1 S=true:=by
 obtain⟨u,r,e1,pu,nr⟩:=SZ dZ hct;obtain⟨w,m,e2,pw,nm⟩:=SZ jt wm;have key:∀S,Tb D p S->AN t S=true\/AN b S=true->AN (r++m++[CD u w]) S=true:=fun S hS hv=>by
  have r1:AN r S=true:=by
   rw[JN hS h1 nr];rw[(FX h1.val e1).1,Ag]at v1;simp_all
  have m1:AN m S=true:=by
   rw[JN hS h2 nm];rw[(FX h2.val e2).1,Ag]at v2;simp_all
  rw[GA,GA,r1,m1]
  grind [Bf,CD,Mq,FX,Tb.val]
 unfold AX
 grind [Cy,Tb.val]
theorem ib(hp:BU D p=false)(hf:Form t)(h0:AN t D=true)(hk:∀k:Int,0<=k->k<1000000->AN t (Lu D p (ZJ k))=true):CY t p=false:=by
 rw[A0];intro hc;obtain⟨u,hu,e⟩:=Ri hc;have ha:u.absent=true:=by
  have:=Bf.1 h0 u hu
  rw[e,G4 hp]at this;exact this
 have hs:∀k:Int,0<=k->k<1000000->has u.set k=true:=fun k k0 k1=>by
  grind [Bf,Iq,Cu,GG]
 have zl:D3 u.set:=By.canon (Eg hf) u hu;have mE:u.set=[(0,1000000)]:=by
  refine G0 zl ⟨by decide,by decide,by decide,trivial⟩ fun k=>?_;rw[CN];constructor
  .intro h
   have:=OQ h
   grind [has,BE]
  grind [OQ]
 have ze:Gx u=true:=by grind [Gx]
 have hf2:Ck t=some t:=hf
 grind [Ck]
structure CT(x:List Rl)(dec:List Cd):Prop where
 cand:∀c∈dec,c.rel∈x/\c.rel.yanked=false/\c.place=plc c.rel.ver
 nodup:(dec.map fun c=>c.rel.path).Nodup
theorem CT.nil(x:List Rl):CT x []:=⟨fun _ h=>(by cases h),Jj⟩
theorem Sv(h:Is r):r.path≠mt:=fun e=>by
 have:=h.maj
 rw[e]at this;have h2:Bw mt=none:=by decide
 simp_all
theorem Is.set{r:Rl}(h:Is r):∀q∈r.reqs,q.set≠[]/\D3 q.set:=JU h.reqs
theorem Kb(dec:List Cd):(At dec).map (·.path)=dec.map fun c=>c.rel.path:=by simp_all
theorem MN:∀{D:List Sl},(D.map (·.path)).Nodup->∀{y:Sl},y∈D->A4 D y.path=some y
 | [],_,y,h=>by cases h
 |z::D,hn,y,h=>by
  simp only[Bb,FG]at hn;unfold A4;rw[II];rcases AA.1 h with rfl | h
  .simp_all
  .have:z.path≠y.path:=fun e=>hn.1 (Ak.2 ⟨y,h,e.symm⟩)
   rw[Av this];exact MN hn.2 h
theorem CT.find(h:CT x dec)(hc:c∈dec):A4 (At dec) c.rel.path=some (OV c):=
 MN (by rw[Kb];exact h.nodup) (y:=OV c) (Ak.2 ⟨c,hc,rfl⟩)
theorem CT.valid(hx:AC x=0)(h:CT x dec):Fx (At dec):=fun y hy=>by
 obtain⟨c,hc,rfl⟩:=Ak.1 hy;exact((Bz hx).1 _ (h.cand c hc).1).val
theorem CT.snoc(h:CT x dec)(hc:c.rel∈x/\c.rel.yanked=false/\c.place=plc c.rel.ver)(hd:CO dec c.rel.path=false):CT x (dec++[c]):=by
 refine⟨fun d hd=>?_,?_⟩
 all_goals grind [CO,CT.cand,CT.nodup]
theorem Ll(h:n∈CI roots E):(∃k q,roots[k]?=some q/\n=⟨q,mt,0,(k:Nat)⟩)\/∃c∈E,∃k q,c.rel.reqs[k]?=some q/\n=⟨q,c.rel.path,c.place,(k:Nat)⟩:=by
 unfold CI at h;rcases Bc.1 h with h | h
 .obtain⟨k,q,h1,h2⟩:=Oe h<;>grind [Oe]
 .obtain⟨l,hl,hn⟩:=Fc.1 h;obtain⟨c,hc,rfl⟩:=Ak.1 hl;obtain⟨k,q,h1,h2⟩:=Oe hn<;>grind [Oe]
theorem M3(h:n∈CI roots dec):n∈CI roots (dec++[c]):=by
 grind [CI]
theorem LY(h:n∈Pi c):n∈CI roots (dec++[c]):=by
 grind [CI]
def Mg(n:Nd):List Tm:=if n.path=mt then [CU n.rq]else [⟨n.path,false,[(n.place,n.place+1)]⟩,CU n.rq]
theorem NY(n:Nd):Ho n=Pb (Mg n):=by grind [Ho,Mg,Gc,Co]
theorem bc{s:AS}(h:s≠[])(hc:D3 s):∃k,has s k=true:=by
 match s,h,hc with
 |x::r,_,hc=>
  have:=DY.low hc x (Ad ..)
  refine⟨x.1,?_⟩
  grind [has,BE]
theorem PY{o:Option Sl}(h:o=none\/∃y,o=some y/\Cf y.ver=true/\has q.set (place y.ver)=false):Cu (CU q) o=true:=by
 rcases h with rfl | ⟨y,rfl,hv,hq⟩
 .rfl
 .show(Cf y.ver&&has (Eh q.set) (place y.ver))=true
  grind [ID,Ft,Qs]
theorem Su{y:Sl}(hq:has q.set (place y.ver)=true):Cu (CU q) (some y)=false:=by
 show(Cf y.ver&&has (Eh q.set) (place y.ver))=false
 grind [Ft]
structure qc(x:List Rl)(roots:List Rq)(S:List Sl)(n:Nd):Prop where
 inf:∀d,Bo x roots d (NZ n)=some (Ho n)
 viol:AN (Ho n) S=true
 raw:∀S',Fx S'->AN (Ho n) S'=AN (Mg n) S'
 form:Form (Ho n)
 inU:∀U:List ByteArray,(n.path≠mt->n.path∈U)->n.rq.path∈U->Qh U (Ho n)
 path:n.path≠mt->BU S n.path=true
theorem QA(hx:AC x=0)(hr:A8 roots=0)(hE:CT x E)(hn:n∈CI roots E)(hv:A4 (At E) n.rq.path=none\/∃y,A4 (At E) n.rq.path=some y/\has n.rq.set (place y.ver)=false):qc x roots (At E) n:=by
 have hV:=hE.valid hx;have oD:Cu (CU n.rq) (A4 (At E) n.rq.path)=true:=PY (hv.imp id fun⟨y,h1,h2⟩=>⟨y,h1,hV y (Ds h1),h2⟩)
 -- the raw list is AN here,and not elsewhere
 have MS:n.rq.set≠[]/\D3 n.rq.set:=by
  rcases Ll hn with ⟨k,q,h1,rfl⟩ | ⟨c,hc,k,q,h1,rfl⟩
  .grind [JU]
  .exact((Bz hx).1 _ (hE.cand c hc).1).set q (Aq h1)
 have gx:AN (Mg n) (At E)=true/\(n.path≠mt->BU (At E) n.path=true):=by
  rcases Ll hn with ⟨k,q,h1,rfl⟩ | ⟨c,hc,k,q,h1,rfl⟩
  .refine⟨?_,fun h=>absurd rfl h⟩;unfold Mg;rw[A1 rfl,Bf];intro u hu;rw[AB.1 hu];exact oD
  .have DT:=Sv ((Bz hx).1 _ (hE.cand c hc).1);refine⟨?_,fun _=>by grind [IV,CT.find]⟩;unfold Mg;rw[AO DT,Bf];intro u hu;rcases AA.1 hu with rfl | hu
   .show Cu _ (A4 (At E) c.rel.path)=true;rw[hE.find hc];show(Cf c.rel.ver&&has [(c.place,c.place+1)] (place c.rel.ver))=true;have F5:=(Bz hx).1 _ (hE.cand c hc).1;have hp:=ID F5.val;rw[F5.val,(hE.cand c hc).2.2,F5.plc]
    grind [has,BE]
   .rw[AB.1 hu];exact oD
 have wV:∃S',Fx S'/\AN (Mg n) S'=false:=by
  unfold Mg;split
  .obtain⟨k,hk⟩:=bc MS.1 MS.2;have ox:=OQ hk;refine⟨[⟨n.rq.path,ZJ k⟩],fun y hy=>by grind [Et],?_⟩;rw[A0];intro h
   have:=Bf.1 h (CU n.rq) (AB.2 rfl)
   grind [CU,A4,Su,GG]
  .refine⟨[],fun y hy=>(by cases hy),?_⟩;rw[A0];intro h
   have:=Bf.1 h _ (Ad ..)
   cases this
 obtain⟨gx,mK⟩:=gx;have DT:Pb (Mg n)≠[]:=by
  obtain⟨S',v',n'⟩:=wV;have c1:=Cy (l:=Mg n) hV;have c2:=Cy (l:=Mg n) v';unfold Pb;cases hc:Ck (Mg n)with
  |none=>simp_all
  |some c=>
   rw[hc,n']at c2;intro e;have e:c=[]:=e;rw[e]at c2;cases c2
 have rP:∀S',Fx S'->AN (Ho n) S'=AN (Mg n) S':=fun S' v=>by grind [NY,Pc]
 refine⟨fun d=>?_,by simp_all,rP,by grind [NY,Ls],fun U h1 h2=>?_,mK⟩
 .rcases Ll hn with ⟨k,q,h1,rfl⟩ | ⟨c,hc,k,q,h1,rfl⟩
  .show Bo x roots d (if(mt:ByteArray)=mt then⟨0,mt,0,(k:Nat),0,0⟩else _)=some (if(mt:ByteArray)=mt then Gc q else _);rw[A1 rfl,A1 rfl];show(if mt=mt/\(0:Int)=0/\(0:Int)=0/\(0:Int)=0 then(El roots (k:Nat)).map Gc else none)=some (Gc q)
   grind [El]
  .have F5:=(Bz hx).1 _ (hE.cand c hc).1;have aw:=Sv F5;have gy:E2 x c.rel.path c.place=some c.rel:=by
    unfold E2;cases hf:x.find? fun r=>decide (r.path=c.rel.path)&&decide (plc r.ver=c.place)with
    |none=>
     grind [CT.cand]
    |some r=>
     have h2:=GY hf;simp only[Ag,A5]at h2;have gw:=BO hf;have wY:=(Bz hx).1 r gw;rw[VM (Bz hx) gw (hE.cand c hc).1 h2.1 (by rw[<-wY.plc,h2.2,(hE.cand c hc).2.2,F5.plc])]
   grind [NZ,Ho,Bo,El,QG,NY]
 .rw[NY];refine Sr fun u hu=>?_;unfold Mg at hu;split at hu
  .rw[AB.1 hu];exact h2
  .rename_i hm;rcases AA.1 hu with rfl | hu
   .simp_all
   .rw[AB.1 hu];exact h2
structure Yc(D:List Sl)(U:List ByteArray)(p:ByteArray)(t:List Tm)(C:Int->Prop):Prop where
 form:Form t
 inU:Qh U t
 conc:CY t p=true
 one:∃S,Tb D p S/\AN t S=true
 cov:∀k:Int,0<=k->k<1000000->C k->AN t (Lu D p (ZJ k))=true
structure X7(D:List Sl)(U:List ByteArray)(p:ByteArray)(t:List Tm)(C:Int->Prop):Prop where
 form:Form t
 inU:Qh U t
 none_:AN t D=true
 cov:∀k:Int,0<=k->k<1000000->C k->AN t (Lu D p (ZJ k))=true
theorem D4.forms(h:D4 x roots s):∀k,Form (DF s k):=fun k=>by
 unfold DF;rw[List.getD_eq_getElem?_getD];cases e:s.drv[k]? with
 |none=>exact RC
 |some t=>exact Mj (fun _ h=>by cases h) h.der t (Aq e)
theorem Uf{r:Nat}(hk:k<d.length)(hr:r<d.length)(h0:(AX (d.getD k []) (d.getD r []) p).2=0) :
  Bo x roots d ⟨3,p,0,0,(k:Nat),(r:Nat)⟩=some (AX (d.getD k []) (d.getD r []) p).1:=by
 grind [El,Int.toNat_natCast,Bo]
theorem MY{x:List Rl}{roots:List Rq}{D:List Sl}{U:List ByteArray}{p:ByteArray}(hD:Fx D):∀(l:List (Nat×(Int->Prop))) {k:Nat} {s:SS} {C:Int->Prop},D4 x roots s->k<s.drv.length->(∀y∈l,y.1<s.drv.length) ->
  (s.full=false->X7 D U p (DF s k) C/\∀y∈l,Yc D U p (DF s y.1) y.2) ->
  D4 x roots (BL p (l.map (·.1)) k s).2/\Grow s (BL p (l.map (·.1)) k s).2/\(BL p (l.map (·.1)) k s).1<(BL p (l.map (·.1)) k s).2.drv.length /\
  ((BL p (l.map (·.1)) k s).2.full=false->∃C',X7 D U p (DF (BL p (l.map (·.1)) k s).2 (BL p (l.map (·.1)) k s).1) C' /\
   (CY (DF (BL p (l.map (·.1)) k s).2 (BL p (l.map (·.1)) k s).1) p=false\/∀j,C j\/(∃y∈l,y.2 j)->C' j))
 | [],k,s,C,hd,hk,_,hA=>⟨hd,.refl s,hk,fun hf=>⟨C,(hA hf).1,.inr fun j hj=>hj.elim id fun⟨y,hy,_⟩=>(by cases hy)⟩⟩
 |y::l,k,s,C,hd,hk,hl,hA=>by
  rw[Bb]
  by_cases h1:s.full=true\/CY (DF s k) p=false
  .grind [BL.eq_def,Grow.refl]
  simp only[not_or,KA,Bool.not_eq_false]at h1;obtain⟨hf,WU⟩:=h1;obtain⟨mv,co⟩:=hA hf;have hy:=co y (Ad ..);have hi:¬(s.full=true\/CY (DF s k) p=false):=by simp_all
  by_cases h2:y.1=k
  .have e:BL p (y.1::l.map (·.1)) k s=BL p (l.map (·.1)) k s:=by grind [BL]
   rw[e];have oc : X7 D U p (DF s k) fun j=>C j\/y.2 j:=⟨mv.form,mv.inU,mv.none_,fun j j0 j1 hj=>hj.elim (mv.cov j j0 j1) fun h=>by grind [Yc.cov]⟩;obtain⟨i1,i2,i3,i4⟩:=MY hD l hd hk (fun z hz=>hl z (Af _ hz)) (fun _=>⟨oc,fun z hz=>co z (Af _ hz)⟩);refine⟨i1,i2,i3,fun hf=>?_⟩;obtain⟨C',j1,j2⟩:=i4 hf;refine⟨C',j1,j2.imp id fun h j hj=>h j ?_⟩;rcases hj with hj | ⟨z,hz,hj⟩<;>grind
  .obtain⟨S2,o2,v2⟩:=hy.one;obtain⟨r1,r2⟩:=VL mv.form hy.form WU hy.conc (.self hD) mv.none_ o2 v2;have e:BL p (y.1::l.map (·.1)) k s=BL p (l.map (·.1)) (Dw s ⟨3,p,0,0,k,y.1⟩ (AX (DF s k) (DF s y.1) p).1).1 (Dw s ⟨3,p,0,0,k,y.1⟩ (AX (DF s k) (DF s y.1) p).1).2:=by
    grind [BL]
   rw[e];have hy1:=hl y (Ad ..);obtain⟨a1,a2,a3⟩:=Jo hd (Uf (x:=x) (roots:=roots) hk hy1 r1);have hg:=Jp s ⟨3,p,0,0,(k:Nat),(y.1:Nat)⟩ (AX (DF s k) (DF s y.1) p).1;generalize cA : Dw s ⟨3,p,0,0,(k:Nat),(y.1:Nat)⟩ (AX (DF s k) (DF s y.1) p).1=s' at *
   have a3:s'.2.full=false->DF s'.2 s'.1=(AX (DF s k) (DF s y.1) p).1:=a3;obtain⟨i1,i2,i3,i4⟩:=MY hD (C:=fun j=>C j\/y.2 j) l a1 a2 (fun z hz=>AR (hl z (Af _ hz)) hg.len) (fun pO=>by
    refine⟨?_,fun z hz=>by rw[hg.at (hl z (Af _ hz))];exact co z (Af _ hz)⟩
    grind [Mz,Qb,Et,X7.mk,X7.inU,Yc.inU,Tb.self,X7.none_,Tb.ver,X7.cov,Yc.cov])
   refine⟨i1,hg.trans i2,i3,fun hf=>?_⟩;obtain⟨C',j1,j2⟩:=i4 hf;refine⟨C',j1,j2.imp id fun h j hj=>h j ?_⟩;rcases hj with hj | ⟨z,hz,hj⟩<;>grind
def HZ(roots:List Rq)(dec:List Cd):Prop:=∀q∈Gt roots dec,∀d∈dec,d.rel.path=q.path->has q.set d.place=true
theorem HZ.nil(roots:List Rq):HZ roots []:=fun _ _ d h=>by cases h
theorem SF(roots:List Rq)(dec:List Cd)(c:Cd):Gt roots (dec++[c])=Gt roots dec++c.rel.reqs:=by
 simp_all
theorem lN(c:Cd):(Pi c).map (·.rq)=c.rel.reqs:=QI (fun _ _=>rfl) _ _
theorem Yt(h:Dq dec c=none):∀q∈c.rel.reqs,∀d∈dec++[c],d.rel.path=q.path->has q.set d.place=true:=fun q hq d hd e=>by
 grind [lN,Dq,aG]
theorem JV(h:Dq dec c=some n):n∈Pi c/\∃d∈dec++[c],d.rel.path=n.rq.path/\has n.rq.set d.place=false:=by
 grind [Dq,aG]
theorem HZ.snoc(h:HZ roots dec)(hN:V6 roots dec p needs)(hc:c.rel.path=p)(hn:∀n∈needs,has n.rq.set c.place=true)(hk:Dq dec c=none):HZ roots (dec++[c]):=by
 intro q hq d hd e;rw[SF]at hq;rcases Bc.1 hq with hq | hq
 .rcases Bc.1 hd with hd | hd
  .exact h q hq d hd e
  .rw[AB.1 hd]at e⊢;rw[<-In]at hq
   grind [V6.mem]
 grind [Yt]
def Tt(y:Sl):List Sl->List Sl
 | []=>[y]
 |z::l=>if EL y.path z.path then y::z::l else z::Tt y l
def Ed:List Sl->List Sl
 | []=>[]
 |y::l=>Tt y (Ed l)
theorem RX{y z:Sl}:∀{l:List Sl},z∈Tt y l↔z=y\/z∈l
 | []=>by simp[Tt]
 |u::l=>by
  unfold Tt;split
  .simp
  .rw[AA,RX,AA]
   grind
theorem Fu{z:Sl}:∀{l:List Sl},z∈Ed l↔z∈l
 | []=>by simp[Ed]
 |u::l=>by unfold Ed;rw[RX,Fu,AA]
theorem Xc{y:Sl}:∀{l:List Sl},Ox l->(∀z∈l,z.path≠y.path)->Ox (Tt y l)
 | [],_,_=>by grind [Tt]
 |u::l,h,hn=>by
  obtain⟨h1,h2⟩:=Dh.1 h;unfold Tt;split
  .grind [List.pairwise_cons,DG]
  .rename_i hb;refine Dh.2 ⟨fun z hz=>?_,Xc h2 fun z hz=>hn z (Af _ hz)⟩
   grind [RX,Ht]
theorem Pr:∀{l:List Sl},(l.map (·.path)).Nodup->Ox (Ed l)
 | [],_=>List.Pairwise.nil
 |y::l,h=>by
  simp only[Bb,FG]at h;exact Xc (Pr h.2) fun z hz e=>h.1 (Ak.2 ⟨z,Fu.1 hz,e⟩)
theorem RV:∀{l:List Sl} {b:Option ByteArray},Ox l->(∀c,b=some c->∀y∈l,EL c y.path=true)->Ld b l=true
 | [],_,_,_=>by unfold Ld;rfl
 |y::l,b,h,hb=>by
  obtain⟨h1,h2⟩:=Dh.1 h;unfold Ld;cases b with
  |none=>simpa using RV h2 fun c e z hz=>by simp_all
  |some c=>
   have:=hb c rfl y (Ad ..)
   simp only[this,Bool.true_and];exact RV h2 fun c e z hz=>by simp_all
theorem YW{l:List Sl}(h:Ox l):Cq l=true:=RV h fun _ e=>by cases e
theorem Ju(hx:AC x=0)(hr:r∈x):Bg x (Dd r)=some r:=by
 unfold Bg;rw[AO (fun h=>h hx)];cases h:x.find? fun s=>decide (Dd s=Dd r)with
 |none=>
  grind
 |some s=>
  have h1:=GY h;simp only[A5]at h1;rw[RY (Bz hx).2 (BO h) hr h1]
theorem CT.sorted(h:CT x dec):Ox (Ed (At dec)):=Pr (by rw[Kb];exact h.nodup)
theorem CT.findS(h:CT x dec)(hc:c∈dec):A4 (Ed (At dec)) c.rel.path=some (OV c):=
 Mn h.sorted (y:=OV c) (Fu.2 (Ak.2 ⟨c,hc,rfl⟩))
theorem Xj(hx:AC x=0)(h:CT x dec)(hs:HZ roots dec)(hl:E9 (Gt roots dec) (At dec)=none):V7 x roots (Ed (At dec)):=by
 have Gr:∀q∈Gt roots dec,∃y,A4 (Ed (At dec)) q.path=some y/\has q.set (place y.ver)=true:=fun q hq=>by
  have:=Sn hl q hq
  rw[J7]at this;obtain⟨y,hy,e⟩:=this;obtain⟨d,hd,rfl⟩:=Ak.1 hy;have e:d.rel.path=q.path:=e;refine⟨OV d,by grind [CT.findS],?_⟩;have h1:=hs q hq d hd e;have F5:=(Bz hx).1 _ (h.cand d hd).1;rw[(h.cand d hd).2.2,F5.plc]at h1;exact h1
 refine⟨hx,YW h.sorted,fun y hy=>?_,fun q hq=>Gr q (Bj _ hq),fun y hy r hr q hq=>?_⟩
 .obtain⟨d,hd,rfl⟩:=Ak.1 (Fu.1 hy);exact⟨d.rel,Ju hx (h.cand d hd).1,(h.cand d hd).2.1⟩
 .obtain⟨d,hd,rfl⟩:=Ak.1 (Fu.1 hy)
  have:Bg x (OV d)=some d.rel:=Ju hx (h.cand d hd).1
  rw[this]at hr;cases hr;exact Gr q (BP _ (Fc.2 ⟨_,Ak.2 ⟨d,hd,rfl⟩,hq⟩))
def dj(dec:List Cd)(needs:List Nd)(c:Cd):Bool:=(needs.all fun n=>has n.rq.set c.place)&&(Dq dec c).isNone
def MZ(x:List Rl)(roots:List Rq):Nat->List Cd->List (List Cd)
 |0,_=>[]
 |n+1,dec=>match(Ea roots dec).2 with
  | []=>[dec]
  |n0::l=>((Bn x (Ea roots dec).1).map fun c=>if dj dec (n0::l) c then MZ x roots n (dec++[c])else []).flatten
structure Lf(x:List Rl)(roots:List Rq)(dec d:List Cd):Prop where
 pre:dec <+: d
 ok:CT x d
 sat:HZ roots d
 stop:E9 (Gt roots d) (At d)=none
theorem Gy(h:c∈Bn x p):c.rel.path=p/\(c.rel∈x/\c.rel.yanked=false/\c.place=plc c.rel.ver):=by
 grind [JT]
theorem Of:dj dec needs c=true↔(∀n∈needs,has n.rq.set c.place=true)/\Dq dec c=none:=by
 grind [dj,Option.isNone_iff_eq_none]
theorem Um{x:List Rl}{roots:List Rq}:∀{n:Nat} {dec:List Cd},CT x dec->HZ roots dec->∀d∈MZ x roots n dec,Lf x roots dec d
 |0,_,_,_,d,hd=>by cases hd
 |n+1,dec,h,hs,d,hd=>by
  unfold MZ at hd;split at hd
  .grind [Sm,Lf.mk]
  .rename_i n0 l e;have hN:=Kc e;obtain⟨L,hL,hd⟩:=Fc.1 hd;obtain⟨c,hc,rfl⟩:=Ak.1 hL;split at hd
   .rename_i F5;obtain⟨h1,h2⟩:=Of.1 F5;obtain⟨c1,c2⟩:=Gy hc;have cr:CO dec c.rel.path=false:=by grind [V6.undone]
    have:=Um (n:=n) (h.snoc c2 cr) (hs.snoc hN c1 h1 h2) d hd
    grind [List.prefix_append,Lf.mk,Lf.pre,Lf.ok,Lf.sat,Lf.stop]
   simp_all
theorem Lf.sol(hx:AC x=0){d:List Cd}(h:Lf x roots dec d):V7 x roots (Ed (At d)):=Xj hx h.ok h.sat h.stop
theorem lu(hx:AC x=0)(hd:D4 x roots s)(hk:k<s.drv.length){d:List Cd}(he:BG (DF s k) (At dec)=true)(h:Lf x roots dec d):False:=by
 have hS:=h.sol hx;have hv:=NG (s:=Ed (At d)) hS.inc (fun y hy=>Fu.2 (by
  obtain⟨c,hc,rfl⟩:=Ak.1 hy;obtain⟨t,e⟩:=h.pre<;>grind)) he
 have hn:=Iv hS (d:=[]) (fun _ h=>by cases h) hd.der (DF s k) (by
  simp_all)
 simp_all
theorem oN(h:AC x=0):x.length<=256:=by
 grind [AC]
theorem ge{l:List Rl}{k:Int}:(l.map fun r=>(plc r.ver,plc r.ver+1)).any (BE k)=true↔∃r∈l,plc r.ver=k:=by
 rw[Ci];constructor
 .grind [DJ]
 .rintro⟨r,hr,rfl⟩
  exact⟨_,Ak.2 ⟨r,hr,rfl⟩,DJ.2 ⟨B6 _,by omega⟩⟩
theorem TQ(hx:AC x=0){k:Int}:has (Br x p) k=true↔∃c∈Bn x p,c.place=k:=by
 unfold Br;rw[GN];unfold has Kg;rw[AO (fun h=>h hx)];simp only[Ag,A5];rw[ge];constructor
 .rintro⟨_,r,hr,rfl⟩
  simp only[DE,A5,EQ]at hr;exact⟨⟨plc r.ver,r⟩,JT.2 ⟨r,hr.1.1,hr.1.2,hr.2,rfl⟩,rfl⟩
 .rintro⟨c,hc,rfl⟩
  obtain⟨r,h1,h2,h3,rfl⟩:=JT.1 hc;have F5:=(Bz hx).1 r h1
  have:=ID F5.val
  grind [Is.plc]
theorem bm(hx:AC x=0)(p:ByteArray):∃k:Int,0<=k/\k<1000000/\has (Br x p) k=false:=by
 apply AP;intro hn;have Gr:∀k∈(List.range 257).map fun i:Nat=>(i:Int),k∈x.map fun r=>plc r.ver:=by
  intro k hk;obtain⟨i,hi,rfl⟩:=Ak.1 hk;have hi:=List.mem_range.1 hi;have hh:has (Br x p) (i:Int)=true:=by
   grind
  grind [TQ,JT]
 have:=Cz (Jk.2 (List.nodup_range.imp fun h e=>h (Int.ofNat.inj e))) Gr
 grind [oN]
theorem RZ(dec:List Cd)(c:Cd):At (dec++[c])=Lu (At dec) c.rel.path c.rel.ver:=by simp_all
theorem J0:BG t S=true↔AN t S=true/\∀u∈t,BU S u.path=true:=by
 grind [BG]
section
variable {x:List Rl}{roots:List Rq}{dec:List Cd}{p:ByteArray}{needs:List Nd}
abbrev Zn(p:ByteArray)(dec:List Cd):List ByteArray:=p::(At dec).map (·.path)
theorem kb{c:Cd}{t:List Tm}(hf:Form t)(he:BG t (At (dec++[c]))=true):Qh (Zn c.rel.path dec) t:=by
 refine⟨Eg hf,fun u hu=>?_⟩
 grind [J0,Dy]
theorem fI(hx:AC x=0)(hd:CT x dec){c:Cd}(hc:c.rel∈x){t:List Tm}(he:BG t (At (dec++[c]))=true)(hn:CY t c.rel.path=false):BG t (At dec)=true:=by
 obtain⟨h1,h2⟩:=J0.1 he;have DT:=IR hn;rw[RZ]at h1 h2;refine J0.2 ⟨?_,fun u hu=>?_⟩
 .rw[JN (.self (hd.valid hx)) (.ver (hd.valid hx) ((Bz hx).1 _ hc).val) DT];exact h1
 grind [J7]
theorem dF(hx:AC x=0)(hd:CT x dec){c:Cd}(hc:c.rel∈x/\c.rel.yanked=false/\c.place=plc c.rel.ver)(hu:CO dec c.rel.path=false){t:List Tm}(hf:Form t)(he:BG t (At (dec++[c]))=true)(hn:CY t c.rel.path=true) :
  Yc (At dec) (Zn c.rel.path dec) c.rel.path t fun k=>k=c.place:=by
 have F5:=(Bz hx).1 _ hc.1;have hV:=hd.valid hx;have h1:=(J0.1 he).1;rw[RZ]at h1;refine⟨hf,kb hf he,hn,⟨_,.ver hV F5.val,h1⟩,fun k k0 k1 e=>?_⟩
 grind [ZI,FN,Et,GG,Is.val,Is.plc]
theorem N5(hx:AC x=0)(hr:A8 roots=0){E:List Cd}(hE:CT x E){n:Nd}(hn:n∈CI roots E)(hv:∃d∈E,d.rel.path=n.rq.path/\has n.rq.set d.place=false) :
  (∀d,Bo x roots d (NZ n)=some (Ho n))/\BG (Ho n) (At E)=true/\Form (Ho n):=by
 obtain⟨d,hd,e,hs⟩:=hv;have F5:=(Bz hx).1 _ (hE.cand d hd).1;have hf:=hE.find hd;have hI:=QA hx hr hE hn (.inr ⟨OV d,by simp_all,by rw[show(OV d).ver=d.rel.ver from rfl,<-F5.plc,<-(hE.cand d hd).2.2];exact hs⟩);refine⟨hI.inf,J0.2 ⟨hI.viol,fun u hu=>?_⟩,hI.form⟩
 have:=(hI.inU ((At E).map (·.path)) (fun h=>Dy.1 (hI.path h)) (Dy.1 (by grind [IV]))).2 u hu
 exact Dy.2 this
theorem cY(hx:AC x=0)(hr:A8 roots=0)(hd:CT x dec)(hN:V6 roots dec p needs){c:Cd}(hc:c∈Bn x p){n:Nd}(hn:n∈needs)(hs:has n.rq.set c.place=false):CY (Ho n) p=true:=by
 obtain⟨c1,c2⟩:=Gy hc;have hu:CO dec c.rel.path=false:=by grind [V6.undone]
 have hE:=hd.snoc c2 hu;obtain⟨ju,wP⟩:=(hN.mem n).1 hn;have F5:=(Bz hx).1 _ c2.1;have hI:=QA hx hr hE (M3 ju) (.inr ⟨OV c,by grind [CT.find],by grind [Is.plc]⟩);cases pL:CY (Ho n) p with
 |true=>rfl
 |false=>
  exfalso
  have MS:n.rq.set≠[]/\D3 n.rq.set:=by
   rcases Ll ju with ⟨k,q,h1,rfl⟩ | ⟨c,hc,k,q,h1,rfl⟩
   .grind [JU]
   .exact((Bz hx).1 _ (hd.cand c hc).1).set q (Aq h1)
  obtain⟨k,hk⟩:=bc MS.1 MS.2;have ox:=OQ hk;have hV:=hd.valid hx;have o1:Tb (At dec) p (Lu (At dec) p (ZJ k)):=.ver hV (Et ox);have o2:Tb (At dec) p (At (dec++[c])):=by grind [Tb.ver,Is.val]
  have h1:=JN o1 o2 (IR pL);rw[hI.viol,hI.raw _ o1.val,Bf]at h1
  have:=h1 (CU n.rq) (by grind [Mg])
  grind [CU,Iq,FN,Su,GG]
theorem cN(hx:AC x=0)(hr:A8 roots=0)(hd:CT x dec)(hN:V6 roots dec p needs){n0:Nd}(h0:n0∈needs)(L:List (Nat×Cd))(hL:L.map (·.2)=Bn x p)(hs:D4 x roots s)(Ez:∀y∈L,y.1<s.drv.length)(rQ:s.full=false->∀y∈L,BG (DF s y.1) (At (dec++[y.2]))=true/\CY (DF s y.1) p=true) :
  D4 x roots (CR x p n0 (L.map (·.1)) s).2/\Grow s (CR x p n0 (L.map (·.1)) s).2/\(CR x p n0 (L.map (·.1)) s).1<(CR x p n0 (L.map (·.1)) s).2.drv.length /\
  ((CR x p n0 (L.map (·.1)) s).2.full=false->BG (DF (CR x p n0 (L.map (·.1)) s).2 (CR x p n0 (L.map (·.1)) s).1) (At dec)=true):=by
 have hV:=hd.valid hx;have w8:BU (At dec) p=false:=by rw[FN];exact hN.undone
 obtain⟨tY,w6⟩:=(hN.mem n0).1 h0;have hI:=QA hx hr hd tY (.inl (by grind [G4]));unfold CR;obtain⟨a1,a2,a3⟩:=Jo hs (hI.inf s.drv);have ag:=Jp s (NZ n0) (Ho n0);have a3:(Bk s n0).2.full=false->DF (Bk s n0).2 (Bk s n0).1=Ho n0:=a3
 change D4 x roots (Bk s n0).2 at a1
 change (Bk s n0).1<(Bk s n0).2.drv.length at a2
 change Grow s (Bk s n0).2 at ag
 generalize Bk s n0=s1 at *
 -- the incompatibility of the places that are not available
 obtain⟨u,u0,u1,hu⟩:=bm hx p;have gx:∀k:Int,0<=k->k<1000000->has (Br x p) k=false->AN [(⟨p,false,Eh (Br x p)⟩:Tm)] (Lu (At dec) p (ZJ k))=true:=fun k k0 k1 hk=>by
  grind [Bf,Cu,Iq,Et,GG,Ft,Qs]
 have mN:AN [(⟨p,false,Eh (Br x p)⟩:Tm)] (At dec)=false:=by
  rw[A0];intro h
  have:=Bf.1 h _ (Ad ..)
  rw[show(⟨p,false,Eh (Br x p)⟩:Tm).path=p from rfl,G4 w8]at this;cases this
 have ou:Tb (At dec) p (Lu (At dec) p (ZJ u)):=.ver hV (Et ⟨u0,u1⟩);have DT:EK p (Br x p)≠[]:=by
  have c1:=Cy (l:=[(⟨p,false,Eh (Br x p)⟩:Tm)]) ou.val;have c2:=Cy (l:=[(⟨p,false,Eh (Br x p)⟩:Tm)]) hV;rw[gx u u0 u1 hu]at c1;rw[mN]at c2;unfold EK Pb;cases hc:Ck [(⟨p,false,Eh (Br x p)⟩:Tm)]with
  |none=>grind
  |some c=>
   rw[hc]at c2;intro e;have e:c=[]:=e;rw[e]at c2;cases c2
 have PP:∀S,Fx S->AN (EK p (Br x p)) S=AN [(⟨p,false,Eh (Br x p)⟩:Tm)] S:=fun S v=>Pc v DT;have rp:CY (EK p (Br x p)) p=true:=by
  cases h:CY (EK p (Br x p)) p with
  |true=>rfl
  |false=>
   have:=JN ou (.self hV) (IR h)
   rw[PP _ ou.val,PP _ hV,gx u u0 u1 hu,mN]at this;simp_all
 have WY:Bo x roots s1.2.drv ⟨2,p,0,0,0,0⟩=some (EK p (Br x p)):=by
  unfold Bo;rw[AO (show ¬((2:Int)=0) by decide),AO (show ¬((2:Int)=1) by decide),A1 rfl,A1 ⟨rfl,rfl,rfl,rfl⟩];unfold QG;simp_all
 obtain⟨b1,b2,b3⟩:=Jo a1 WY;have bg:=Jp s1.2 ⟨2,p,0,0,0,0⟩ (EK p (Br x p));have b3:(DL x p s1.2).2.full=false->DF (DL x p s1.2).2 (DL x p s1.2).1=EK p (Br x p):=b3
 change D4 x roots (DL x p s1.2).2 at b1
 change (DL x p s1.2).1<(DL x p s1.2).2.drv.length at b2
 change Grow s1.2 (DL x p s1.2).2 at bg
 generalize DL x p s1.2=s2 at *
 have re:s2.2.full=false->s1.2.full=false/\s.full=false:=fun h=>by
  have h1:s1.2.full=false:=by
   cases e:s1.2.full with
   |false=>rfl
   |true=>rw[bg.full e]at h;cases h
  refine⟨h1,?_⟩;cases e:s.full with
  |false=>rfl
  |true=>rw[ag.full e]at h1;cases h1
 have main:=MY (D:=At dec) (U:=Zn p dec) (p:=p) hV ((s2.1,fun k=>has (Br x p) k=false)::L.map fun y=>(y.1,fun k=>k=y.2.place)) (C:=fun k=>has n0.rq.set k=false) b1 (AR a2 bg.len)
  (fun y hy=>by
   rcases AA.1 hy with rfl | hy
   .exact b2
   .obtain⟨z,hz,rfl⟩:=Ak.1 hy;exact AR (Ez z hz) (ag.trans bg).len) (fun hf=>by
   obtain⟨f1,f0⟩:=re hf;refine⟨?_,fun y hy=>?_⟩
   .rw[bg.at a2,a3 f1];refine⟨hI.form,hI.inU _ (fun h=>Af _ (Dy.1 (hI.path h))) (by simp_all),hI.viol,fun k k0 k1 hk=>?_⟩;have ok:Tb (At dec) p (Lu (At dec) p (ZJ k)):=.ver hV (Et ⟨k0,k1⟩);rw[hI.raw _ ok.val,Bf];intro t ht;have YQ:=Bf.1 ((hI.raw _ hV).symm.trans hI.viol) t ht;unfold Mg at ht;have oD:Cu (CU n0.rq) (A4 (Lu (At dec) p (ZJ k)) (CU n0.rq).path)=true:=by
     rw[show(CU n0.rq).path=p from w6,Iq w8];exact PY (.inr ⟨_,rfl,Et ⟨k0,k1⟩,by rw[show(⟨p,ZJ k⟩:Sl).ver=ZJ k from rfl,GG];exact hk⟩)
    split at ht
    .simp_all
    .rename_i hm;rcases AA.1 ht with rfl | ht
     .have DT:n0.path≠p:=fun e=>by
       have:=hI.path hm
       simp_all
      rw[show(⟨n0.path,false,[(n0.place,n0.place+1)]⟩:Tm).path=n0.path from rfl]at YQ⊢;rw[ok.same _ DT];omega
     simp_all
   .rcases AA.1 hy with rfl | hy
    .show Yc _ _ p (DF s2.2 s2.1) _;rw[b3 hf];refine⟨Ls _,Sr (fun t ht=>by simp_all),rp,⟨_,ou,by rw[PP _ ou.val];simp_all⟩,fun k k0 k1 hk=>?_⟩;rw[PP _ (Tb.ver hV (Et ⟨k0,k1⟩)).val];simp_all
    .obtain⟨z,hz,rfl⟩:=Ak.1 hy;show Yc _ _ p (DF s2.2 z.1) _;rw[(ag.trans bg).at (Ez z hz)];obtain⟨e1,e2⟩:=rQ f0 z hz;have hzc:z.2∈Bn x p:=by grind
     obtain⟨c1,c2⟩:=Gy hzc
     have:=dF hx hd c2 (by rw[c1];exact hN.undone) (hs.forms z.1) e1 (by simp_all)
     simp_all)
 have wO:((s2.1,fun k=>has (Br x p) k=false)::L.map fun y=>(y.1,fun k=>k=y.2.place)).map (·.1)=s2.1::L.map (·.1):=by
  simp_all
 rw[wO]at main;obtain⟨m1,m2,m3,m4⟩:=main;refine⟨m1,(ag.trans bg).trans m2,m3,fun hf=>?_⟩;obtain⟨C',q1,q2⟩:=m4 hf;have hnc:CY (DF (BL p (s2.1::L.map (·.1)) s1.1 s2.2).2 (BL p (s2.1::L.map (·.1)) s1.1 s2.2).1) p=false:=by
  rcases q2 with q2 | q2
  .exact q2
  .refine ib w8 q1.form q1.none_ fun k k0 k1=>q1.cov k k0 k1 (q2 k ?_);cases pQ:has n0.rq.set k with
   |false=>simp_all
   |true=>
    cases ha:has (Br x p) k with
    |false=>simp_all
    |true=>
     obtain⟨c,hc,e⟩:=(TQ hx).1 ha;rw[<-hL]at hc;obtain⟨z,hz,rfl⟩:=Ak.1 hc;exact .inr ⟨_,Af _ (Ak.2 ⟨z,hz,rfl⟩),e.symm⟩
 refine J0.2 ⟨q1.none_,fun t ht=>?_⟩
 have:=q1.inU.2 t ht
 rcases AA.1 this with e | h
 .exact absurd e (IR hnc t ht)
 .exact Dy.2 h
end
def Fz(s:SS)(b:List Cd)(p:ByteArray)(needs:List Nd):List Cd->List Sk->Prop
 | [],sk=>sk=[]
 |c::cs,sk=>if(needs.all fun n=>has n.rq.set c.place)=true then ∃(k:Nat) (rest:List Sk),sk=⟨p,c.place,k⟩::rest/\(k<s.drv.length/\BG (DF s k) (At (b++[c]))=true)/\Fz s b p needs cs rest
  else Fz s b p needs cs sk
section
variable {s s' : SS}{b:List Cd}{p:ByteArray}{needs:List Nd}
theorem Fz.out{c:Cd}(hc:¬(needs.all fun n=>has n.rq.set c.place)=true):∀{cs:List Cd} {sk:List Sk},Fz s b p needs cs sk->Fz s b p needs (cs++[c]) sk
 | [],sk,h=>by
  show(if _ then _ else _)
  grind
 |d::cs,sk,h=>by
  have h:if(needs.all fun n=>has n.rq.set d.place)=true then _ else _:=h
  show(if _ then _ else _)
  by_cases hd:(needs.all fun n=>has n.rq.set d.place)=true
  .rw[A1 hd]at h⊢;obtain⟨k,rest,h1,h2,h3⟩:=h;exact⟨k,rest,h1,h2,Fz.out hc h3⟩
  .rw[AO hd]at h⊢;exact Fz.out hc h
theorem Fz.add{c:Cd}(hc:(needs.all fun n=>has n.rq.set c.place)=true){k:Nat}(hk:k<s.drv.length/\BG (DF s k) (At (b++[c]))=true):∀{cs:List Cd} {sk:List Sk},Fz s b p needs cs sk->Fz s b p needs (cs++[c]) (sk++[⟨p,c.place,k⟩])
 | [],sk,h=>by
  have h:sk=[]:=h;subst h;show(if _ then _ else _);rw[A1 hc];exact⟨k,[],rfl,hk,rfl⟩
 |d::cs,sk,h=>by
  have h:if(needs.all fun n=>has n.rq.set d.place)=true then _ else _:=h
  show(if _ then _ else _)
  by_cases hd:(needs.all fun n=>has n.rq.set d.place)=true
  .rw[A1 hd]at h⊢;obtain⟨j,rest,rfl,h2,h3⟩:=h;exact⟨j,_,rfl,h2,Fz.add hc hk h3⟩
  .rw[AO hd]at h⊢;exact Fz.add hc hk h
theorem Fz.mono(hg:Grow s s'):∀{cs:List Cd} {sk:List Sk},Fz s b p needs cs sk->Fz s' b p needs cs sk
 | [],_,h=>h
 |d::cs,sk,h=>by
  have h:if(needs.all fun n=>has n.rq.set d.place)=true then _ else _:=h
  show(if _ then _ else _)
  by_cases hd:(needs.all fun n=>has n.rq.set d.place)=true
  .rw[A1 hd]at h⊢;obtain⟨j,rest,rfl,h2,h3⟩:=h;exact⟨j,rest,rfl,⟨AR h2.1 hg.len,by grind [Grow.at]⟩,h3.mono hg⟩
  .rw[AO hd]at h⊢;exact h.mono hg
end
structure nj(x:List Rl)(roots:List Rq)(s:SS)(b:List Cd)(c:Cd)(sk:List Sk)(p:ByteArray)(needs:List Nd)(pre post:List Cd):Prop where
 next:V6 roots b p needs
 cands:Bn x p=pre++c::post
 fit:∀n∈needs,has n.rq.set c.place=true
 noclash:Dq b c=none
 skips:Fz s b p needs pre sk
def Jf(x:List Rl)(roots:List Rq)(s:SS):List Cd->List Cd->List (List Sk)->Prop
 |b,[],[]=>E9 (Gt roots b) (At b)=none
 |b,c::t,sk::st=>(∃p needs pre post,nj x roots s b c sk p needs pre post)/\Jf x roots s (b++[c]) t st
 |_,_,_=>False
structure MG(x:List Rl)(roots:List Rq)(ls:List (List Cd))(dec:List Cd)(s:SS)(st:List (List Sk))(o:Jm):Prop where
 der:D4 x roots o.ss
 grow:Grow s o.ss
 no:o.found=false->o.dec=dec/\o.stack=st/\(o.ss.full=false->o.res<o.ss.drv.length/\BG (DF o.ss o.res) (At dec)=true)
 yes:o.found=true->o.ss.full=false/\∃t sl,o.dec=dec++t/\o.stack=st++sl/\Jf x roots o.ss dec t sl/\ls.head?=some o.dec
section
variable {rec:List Cd->SS->List (List Sk)->Jm}{x:List Rl}{roots:List Rq}{p:ByteArray}{needs:List Nd}{n0:Nd}{dec:List Cd}{st:List (List Sk)}
def Hz(rec:List Cd->SS->List (List Sk)->Jm)(x:List Rl)(p:ByteArray)(needs:List Nd)(n0:Nd)(dec:List Cd)(st:List (List Sk))(c:Cd)(cs:List Cd)(reasons:List Nat)(skips:List Sk)(k:Nat)(s:SS):Jm:=
 if CY (DF s k) p=false then⟨k,false,s,dec,st⟩else Dg rec x p needs n0 dec st cs s (reasons++[k]) (skips++[⟨p,c.place,k⟩])
theorem E6(c:Cd)(cs:List Cd)(s:SS)(reasons:List Nat)(skips:List Sk):Dg rec x p needs n0 dec st (c::cs) s reasons skips =
  if s.full=true then⟨0,false,s,dec,st⟩
  else match needs.find? fun n=>!has n.rq.set c.place with
   |some n=>Dg rec x p needs n0 dec st cs (Bk s n).2 (reasons++[(Bk s n).1]) skips
   |none=>match MM s.drv (At (dec++[c]))with
    |some k=>Hz rec x p needs n0 dec st c cs reasons skips k s
    |none=>match Dq dec c with
     |some n=>Hz rec x p needs n0 dec st c cs reasons skips (Bk s n).1 (Bk s n).2
     |none=>if(rec (dec++[c]) s (st++[skips])).found=true then⟨0,true,(rec (dec++[c]) s (st++[skips])).ss,(rec (dec++[c]) s (st++[skips])).dec,(rec (dec++[c]) s (st++[skips])).stack⟩
      else if(rec (dec++[c]) s (st++[skips])).ss.full=true then⟨0,false,(rec (dec++[c]) s (st++[skips])).ss,dec,st⟩
      else Hz rec x p needs n0 dec st c cs reasons skips (rec (dec++[c]) s (st++[skips])).res (rec (dec++[c]) s (st++[skips])).ss:=rfl
theorem az{s:SS}(hs:D4 x roots s){n:Nd}(h:∀d,Bo x roots d (NZ n)=some (Ho n)):D4 x roots (Bk s n).2/\(Bk s n).1<(Bk s n).2.drv.length/\((Bk s n).2.full=false->DF (Bk s n).2 (Bk s n).1=Ho n)/\Grow s (Bk s n).2:=by
 obtain⟨a1,a2,a3⟩:=Jo hs (h s.drv);exact⟨a1,a2,a3,Jp _ _ _⟩
theorem MG.grown{ls:List (List Cd)}{s s' : SS}{o:Jm}(hg:Grow s s')(h:MG x roots ls dec s' st o):MG x roots ls dec s st o:=⟨h.der,hg.trans h.grow,h.no,h.yes⟩
theorem TV(hx:AC x=0)(hr:A8 roots=0)(hd:CT x dec)(cB:HZ roots dec)(hN:V6 roots dec p needs)(h0:n0∈needs){lv:List Cd->List (List Cd)}(zD:∀c∈Bn x p,dj dec needs c=true->∀d∈lv (dec++[c]),Lf x roots (dec++[c]) d)
  (YU:∀c∈Bn x p,dj dec needs c=true->∀s st,D4 x roots s->s.full=false->MG x roots (lv (dec++[c])) (dec++[c]) s st (rec (dec++[c]) s st)) :
  ∀(cs:List Cd) {s:SS} (L:List (Nat×Cd)) {skips:List Sk},L.map (·.2)++cs=Bn x p->D4 x roots s->(∀y∈L,y.1<s.drv.length)->(s.full=false->(∀y∈L,BG (DF s y.1) (At (dec++[y.2]))=true/\CY (DF s y.1) p=true)/\Fz s dec p needs (L.map (·.2)) skips) ->
   MG x roots (((Bn x p).map fun c=>if dj dec needs c then lv (dec++[c])else []).flatten) dec s st (Dg rec x p needs n0 dec st cs s (L.map (·.1)) skips)
 | [],s,L,skips,hL,hs,Ez,rQ=>by
  rw[Dm]at hL;obtain⟨l1,l2,l3,l4⟩:=cN hx hr hd hN h0 L hL hs Ez (fun hf=>(rQ hf).1);exact⟨l1,l2,fun _=>⟨rfl,rfl,fun hf=>⟨l3,l4 hf⟩⟩,fun h=>(by cases h)⟩
 |c::cs,s,L,skips,hL,hs,Ez,rQ=>by
  rw[E6]
  by_cases hf:s.full=true
  .grind [MG.mk,Grow.refl]
  rw[AO hf];have hf:s.full=false:=by simp_all
  obtain⟨xc,xd⟩:=rQ hf;have hc:c∈Bn x p:=by grind
  obtain⟨c1,c2⟩:=Gy hc;have hu:CO dec c.rel.path=false:=by grind [V6.undone]
  have hE:=hd.snoc c2 hu
  -- on to the next candidate
  have go:∀(s' : SS) (k:Nat) (Km : List Sk),D4 x roots s'->Grow s s'->k<s'.drv.length->(s'.full=false->(BG (DF s' k) (At (dec++[c]))=true/\CY (DF s' k) p=true)/\Fz s' dec p needs (L.map (·.2)++[c]) Km) ->
    MG x roots (((Bn x p).map fun c=>if dj dec needs c then lv (dec++[c])else []).flatten) dec s st (Dg rec x p needs n0 dec st cs s' (L.map (·.1)++[k]) Km):=fun s' k Km cA hg hk DT=>by
   have:=TV hx hr hd cB hN h0 zD YU cs (s:=s') (L++[(k,c)]) (skips:=Km) (by simp_all) cA
    (fun y hy=>by
     rcases Bc.1 hy with hy | hy
     .exact AR (Ez y hy) hg.len
     simp_all)
    (fun pO=>by
     grind [Grow.at])
   grind [MG.grown]
  cases pP:needs.find? fun n=>!has n.rq.set c.place with
  |some n=>
   dsimp only;have ju:=BO pP;have wP:=GY pP;have wP:has n.rq.set c.place=false:=by simp_all
   obtain⟨hn3,hn4⟩:=(hN.mem n).1 ju;obtain⟨e1,e2,e3⟩:=N5 hx hr hE (M3 hn3) ⟨c,by simp,by rw[c1,hn4],wP⟩<;>grind [az,cY,Fz.out,Fz.mono]
  |none=>
   dsimp only;have kL:∀n∈needs,has n.rq.set c.place=true:=fun n hn=>by
    simp_all
   have Gr:(needs.all fun n=>has n.rq.set c.place)=true:=by simp_all
   have tp:∀(s' : SS) (k:Nat),D4 x roots s'->Grow s s'->k<s'.drv.length->(s'.full=false->BG (DF s' k) (At (dec++[c]))=true) ->
     MG x roots (((Bn x p).map fun c=>if dj dec needs c then lv (dec++[c])else []).flatten) dec s st (Hz rec x p needs n0 dec st c cs (L.map (·.1)) skips k s'):=fun s' k cA hg hk he=>by
    unfold Hz;cases pL:CY (DF s' k) p with
    |false=>
     rw[A1 rfl];exact⟨cA,hg,fun _=>⟨rfl,rfl,fun pO=>⟨hk,fI hx hd c2.1 (he pO) (by simp_all)⟩⟩,fun h=>(by cases h)⟩
    |true=>
     grind [Fz.add,Fz.mono]
   cases hen:MM s.drv (At (dec++[c]))with
   |some k=>
    grind [Js,Grow.refl]
   |none=>
    dsimp only;cases hcl:Dq dec c with
    |some n=>
     dsimp only;obtain⟨m1,m2⟩:=JV hcl;obtain⟨e1,e2,e3⟩:=N5 hx hr hE (LY m1) m2<;>grind [az]
    |none=>
     dsimp only;have F5:dj dec needs c=true:=Of.2 ⟨kL,hcl⟩;have hR:=YU c hc F5 s (st++[skips]) hs hf;generalize rec (dec++[c]) s (st++[skips])=o at hR
     by_cases gn:o.found=true
     .rw[A1 gn];obtain⟨y1,t,sl,y2,y3,y4,y5⟩:=hR.yes gn;refine⟨hR.der,hR.grow,fun h=>(by cases h),fun _=>⟨y1,c::t,skips::sl,by simp_all,by simp_all,⟨⟨p,needs,L.map (·.2),cs,hN,hL.symm,kL,hcl,xd.mono hR.grow⟩,y4⟩,?_⟩⟩;show _=some o.dec;rw[<-hL,Bm,CA,Bb,BW];have wT:((L.map (·.2)).map fun c=>if dj dec needs c then lv (dec++[c])else []).flatten=[]:=by
       rw[List.flatten_eq_nil_iff];intro l hl;obtain⟨d,jr,rfl⟩:=Ak.1 hl;obtain⟨y,hy,rfl⟩:=Ak.1 jr;split
       .rename_i hoy;have hyc:y.2∈Bn x p:=by grind
        refine KB.2 fun d wu=>lu hx hs (Ez y hy) (xc y hy).1 (zD y.2 hyc hoy d wu)
       .rfl
      grind
     grind [MG.no,MG.mk,MG.der,MG.grow]
end
theorem RE(h:c.rel∈x/\c.rel.yanked=false)(hu:CO dec c.rel.path=false):E8 x (dec++[c])<E8 x dec:=by
 have key:∀l:List Rl,(l.filter fun r=>!r.yanked&&!CO (dec++[c]) r.path).length<=(l.filter fun r=>!r.yanked&&!CO dec r.path).length /\
   (c.rel∈l->(l.filter fun r=>!r.yanked&&!CO (dec++[c]) r.path).length<(l.filter fun r=>!r.yanked&&!CO dec r.path).length):=by
  intro l
  induction l<;>grind [CO]
 exact(key x).2 h.1
theorem Pq{x:List Rl}{roots:List Rq}(hx:AC x=0)(hr:A8 roots=0):∀(n:Nat) {dec:List Cd} {s:SS} {st:List (List Sk)},CT x dec->HZ roots dec->D4 x roots s->s.full=false->E8 x dec<n ->
  MG x roots (MZ x roots n dec) dec s st (B8 x roots n dec s st)
 |0,_,_,_,_,_,_,_,h=>by omega
 |n+1,dec,s,st,hd,cB,hs,hf,hn=>by
  unfold B8 MZ;cases e:(Ea roots dec).2 with
  |nil=>
   exact⟨hs,.refl s,fun h=>(by cases h),fun _=>⟨hf,[],[],by simp,by simp,Sm.1 e,rfl⟩⟩
  |cons n0 l=>
   have hN:=Kc e;have next:∀c∈Bn x (Ea roots dec).1,dj dec (n0::l) c=true->CT x (dec++[c])/\HZ roots (dec++[c])/\E8 x (dec++[c])<n:=fun c hc F5=>by
    obtain⟨c1,c2⟩:=Gy hc;have hu:CO dec c.rel.path=false:=by grind [V6.undone]
    obtain⟨k1,k2⟩:=Of.1 F5;exact⟨hd.snoc c2 hu,cB.snoc hN c1 k1 k2,by have:=RE (dec:=dec) ⟨c2.1,c2.2.1⟩ hu;omega⟩
   exact TV hx hr hd cB hN (Ad ..) (lv:=MZ x roots n) (fun c hc F5 d jr=>Um (next c hc F5).1 (next c hc F5).2.1 d jr)
    (fun c hc F5 s st hs hf=>Pq hx hr n (next c hc F5).1 (next c hc F5).2.1 hs hf (next c hc F5).2.2) _ [] rfl hs (fun y hy=>by cases hy) (fun _=>⟨fun y hy=>(by cases hy),rfl⟩)
theorem WP(x:List Rl)(dec:List Cd):E8 x dec<=x.length:=Hg _ _
theorem UD(hx:AC x=0)(hr:A8 roots=0):MG x roots (MZ x roots (x.length+1) []) [] tb [] (Es x roots):=
 Pq hx hr _ (.nil x) (.nil roots) (.nil x roots) rfl (by grind [WP])
end Go.Eng
