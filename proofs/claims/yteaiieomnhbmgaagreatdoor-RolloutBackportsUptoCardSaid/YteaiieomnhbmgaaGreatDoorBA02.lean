/- Lemmas 2. -/
import Derived.Test.YteaiieomnhbmgaaGreatDoorBA01
import Derived.Lib.SplitLaws
import Derived.Lib.IndexBytes
namespace Go.Eng
variable {s:List Tm}(m l:List Tm)(t:Tm)(p:ByteArray)
def Zd:List Tm:=if m.any (fun u=>decide (u.path=t.path))then m.map (fun u=>if u.path=t.path then t else u)else m++[t]
def stepT:List Tm:=Zd m (SU (DC m t.path) t)
def DA:List Tm:=l.foldl stepT []
theorem jy:∀m:List Tm,DC (Zd m t) p=if t.path=p then some t else DC m p:=by
 intro m;unfold Zd
 by_cases h:(m.any fun u=>decide (u.path=t.path))=true
 .rw[Ay h]
  induction m with
  |nil=>simp_all
  |cons u m ih=>
   rw[BB,EJ,EJ]
   by_cases e:u.path=t.path
   .rw[Ay e]
    by_cases ep:t.path=p
    .simp_all
    .rw[Az ep,Az ep,Az (fun c=>ep (e.symm.trans c))]
     by_cases hm:(m.any fun u=>decide (u.path=t.path))=true
     .simp_all
     .have:∀q∈m,q.path≠t.path:=fun q hq c=>hm (BC.2 ⟨q,hq,by simp[c]⟩)
      have:m.map (fun u=>if u.path=t.path then t else u)=m:=by
       conv=>rhs;rw[<-Hl m]
       grind [List.map_congr_left]
      simp_all
   grind
 .rw[Az h];have hn:∀q∈m,q.path≠t.path:=fun q hq e=>h (BC.2 ⟨q,hq,by simp[e]⟩)
  clear h
  induction m<;>grind [EJ]
def EX:List ByteArray:=m.map (·.path)
open Classical in
theorem eX:EX (Zd m t)=if t.path∈EX m then EX m else EX m++[t.path]:=by
 grind [Zd,EX,List.map_congr_left]
theorem kn{m:List Tm}(h:(EX m).Nodup)(t:Tm):(EX (Zd m t)).Nodup:=by
 grind [eX]
theorem Sm(i:Nat)(h:i<l.length):DA (l.take (i+1))=stepT (DA (l.take i)) l[i]:=by
 grind [DA,List.take_add_one]
theorem PG:∀(l m:List Tm),(EX m).Nodup->(EX (l.foldl stepT m)).Nodup
 | [],_,h=>h
 |_::l,_,h=>PG l _ (kn h _)
theorem HY:(EX (DA l)).Nodup:=PG l [] .nil
theorem aC:DC (stepT m t) p=KF p (DC m p) t:=by
 grind [stepT,KF,Rk,LH,jy]
theorem PB(p:ByteArray):∀(l m:List Tm),DC (l.foldl stepT m) p=l.foldl (KF p) (DC m p)
 | [],_=>rfl
 |t::l,m=>by rw[Gm,Gm,PB p l,aC]
theorem dD:DC (DA l) p=DC (Fk l) p:=by
 unfold DA;rw[PB,Jp];rfl
theorem RX{m:List Tm}(h:(EX m).Nodup){t:Tm}:t∈m↔DC m t.path=some t:=by
 constructor
 .induction m<;>grind [EX,EJ]
 .exact GL
theorem MY{m:List Tm}(h:(EX m).Nodup):m.Nodup:=by
 unfold EX at h
 induction m<;>grind
theorem H8{l:List Tm}{lo:Option ByteArray}(h:BS lo l):(EX l).Nodup:=by
 unfold EX
 induction l generalizing lo with
 |nil=>simp_all
 |cons t l ih=>
  rw[BB,HI];refine⟨fun hm=>?_,ih h.2.2⟩;obtain⟨u,hu,e⟩:=Ax.1 hm
  have:=h.2.2.low u hu
  grind [Dk]
theorem Jz:t∈DA l↔t∈Fk l:=by
 grind [RX,HY,dD,H8,Es]
theorem PU:∀t∈DA l,EP t.set:=fun t ht=>(Es l).canon t ((Jz l t).1 ht)
theorem lh:(stepT m t).length<=m.length+1:=by
 grind [stepT,Zd]
theorem OB:∀i,i<=l.length->(DA (l.take i)).length<=i:=by
 intro i
 induction i<;>grind [DA,Sm,lh]
theorem fw(hs:s.Pairwise fun x y=>Dz x.path y.path=true)(hc:∀t∈s,EP t.set):BS none s:=by
 have:∀(s:List Tm) (lo:Option ByteArray),s.Pairwise (fun x y=>Dz x.path y.path=true)->(∀t∈s,EP t.set)->(∀p,lo=some p->∀t∈s,Dz p t.path=true)->BS lo s:=by
  intro s
  induction s with
  |nil=>intro _ _ _ _;trivial
  |cons t s ih=>
   intro lo hs hc hl;obtain⟨h1,h2⟩:=BL.1 hs;exact⟨fun p e=>hl p e t (Af ..),hc t (Af ..),ih _ h2 (fun u hu=>hc u (Ao _ hu)) fun p e u hu=>by simp_all⟩
 simp_all
theorem QH{l:List Tm}(q:Tm->Bool)(hp:s.Perm ((DA l).filter q))(hs:s.Pairwise fun x y=>Dz y.path x.path=false):s=(Fk l).filter q:=by
 have hm:∀t,t∈s↔t∈(Fk l).filter q:=fun t=>by
  grind [Jz]
 have VR:(EX s).Nodup:=by
  grind [EX,HY]
 have KR:s.Pairwise fun x y=>Dz x.path y.path=true:=by
  grind [List.pairwise_iff_getElem,GJ,EX]
 have hss:BS none s:=fw KR fun t ht=>(Es l).canon t (Dm.1 ((hm t).1 ht)).1;have wY:BS none ((Fk l).filter q):=BS.filter q (Es l)
 grind [Nb,DC,Gw]
theorem dj:G2 t t=Mz t:=by grind [G2,Mz,dU]
theorem ie(o:Option Tm)(t:Tm):SU o t=G2 (o.getD t) t:=by cases o with | none=>exact(dj t).symm | some u=>rfl
theorem iW{t:Tm}(h:EP t.set):(t.absent&&(E5 t.set).isEmpty)=G8 t:=by
 unfold G8
 congr 1
 rw[El,Mh,Bd];have ha:EP [(0,1000000)]:=⟨Bv _,by omega,Bv _,trivial⟩;constructor
 .intro e;refine HN h ha fun p=>?_
  have:=F8 t.set p
  grind [has,SP,BX]
 grind [Rd,Hq,F8,has,BX]
theorem oC{t:Tm}(h:EP t.set):(!t.absent&&(canon t.set).isEmpty)=I2 t:=by grind [I2,JJ]
end Go.Eng
namespace Go.Eng
open Go.Lib
theorem Ry(c:UInt8):∀(s:List UInt8) (k:Nat),s.count c<=k->splitK [c] 0 k s=CM c s
 | [],k,_=>by
  cases k with
  |zero=>rfl
  |succ k=>rfl
 |b::r,k,h=>by
  rw[CM]
  by_cases e:b=c
  .subst e;rw[List.count_cons_self]at h;obtain⟨k',rfl⟩:∃k',k=k'+1:=⟨k-1,by omega⟩;rw[Ay rfl,splitK,index_one,indexByte];simp only[beq_self_eq_true,if_true];rw[Az Cl];show []::splitK [b] 0 k' r=_;rw[Ry b r k' ch]
  .have Ek:(b == c)=false:=by simp_all
   rw[List.count_cons_of_ne ch]at h;have ih:=Ry c r k h;rw[Az e];cases k with
   |zero=>
    rw[<-ih];rfl
   |succ k=>
    rw[<-ih,splitK,splitK,index_one,index_one,indexByte,Ek]
    by_cases h0:indexByte r c=-1
    .simp_all
    .have h1:(indexByte r c == -1)=false:=by simp_all
     have h2:=indexByte_ge r c;have h3:(indexByte r c+1 == -1)=false:=by grind
     simp only[Kh,if_false,h1,h3];obtain⟨i,hi⟩:∃i:Nat,indexByte r c=i:=⟨(indexByte r c).toNat,by omega⟩<;>simp_all
theorem af(c:UInt8):∀(n:Nat) (s:List UInt8),s.length<=n->count s [c]=s.count c
 |n,s,hn=>by
  rcases Int.lt_or_le (indexByte s c) 0 with h | h
  .have h2:=indexByte_ge s c;have h3:indexByte s c=-1:=by omega
   rw[count_miss (by grind [index_one])]
   symm
   rw[List.count_eq_zero];intro hm;obtain⟨k,hk,e⟩:=NN hm;exact indexByte_none h3 k (by simp_all)
  .obtain⟨i,hi⟩:∃i:Nat,indexByte s c=i:=⟨(indexByte s c).toNat,by omega⟩;obtain⟨h1,h2⟩:=indexByte_some hi;obtain⟨hl,hg⟩:=Bf.1 h1;cases n with
   |zero=>omega
   |succ n=>
    have hc:=count_hit (s:=s) (sub:=[c]) (i:=i) B0 (by grind [index_one]);rw[hc];have ih:=af c n (s.drop (i+1)) (by grind);have hsp:s=s.take i++c::s.drop (i+1):=by
     grind [List.drop_eq_getElem_cons,List.take_append_drop]
    grind [List.count_eq_zero,List.getElem_of_mem]
theorem kZ(s:ByteArray)(c:UInt8):((splitB ⟨#[c]⟩ 0 (countB s ⟨#[c]⟩) s).map (·.data.toList))=CM c s.data.toList:=by
 rw[splitB_data];refine Ry c _ _ ?_;show _<=count s.data.toList [c];rw[af c _ _ (Ap _)];omega
end Go.Eng
namespace Go.Eng
variable {p:ByteArray}{x:List Rl}{roots:List Rq}{t:List Tm}{D:List Sl}{U:List ByteArray}{d:List (List Tm)}{l:List Tm}{k:Nat}{b:List Tm}{S:List Sl}{v v':Ver}{r:Rl}{q:Rq}
theorem Re{α:Type}:∀{l m:List α},l.Nodup->(∀x∈l,x∈m)->l.length<=m.length
 | [],_,_,_=>Al _
 |a::l,m,hn,hs=>by
  obtain⟨h1,h2⟩:=HI.1 hn;obtain⟨s,t,rfl⟩:=List.append_of_mem (hs a (Af ..))
  have:l.length<=(s++t).length:=Re h2 fun x hx=>by
   grind
  grind
theorem L7(p:ByteArray):∀(l:List Tm) (o:Option Tm),(∀u∈l,u.path≠p)->l.foldl (KF p) o=o
 | [],_,_=>rfl
 |t::l,o,h=>by
  rw[Gm,show KF p o t=o by grind [KF]];exact L7 p l o fun u hu=>h u (Ao _ hu)
theorem d9{t:Tm}(h:t∈Fk l):∃u∈l,u.path=t.path:=by
 grind [Gw,Es,Jp,L7]
def VT(U:List ByteArray)(t:List Tm):Prop:=BS none t/\∀u∈t,u.path∈U
theorem VT.len(h:VT U t):t.length<=U.length:=by
 have:=Re (H8 h.1) (m:=U) fun p hp=>by
  obtain⟨u,hu,rfl⟩:=Ax.1 hp;exact h.2 u hu
 grind [EX]
theorem dp{c:List Tm}(h:CX l=some c){t:Tm}(ht:t∈c):t∈Fk l:=by
 grind [CX]
theorem QG{c:List Tm}(h:CX l=some c)(hu:∀u∈l,u.path∈U):VT U c:=
 ⟨EZ h,fun t ht=>by
  obtain⟨u,h1,h2⟩:=d9 (dp h ht)<;>grind⟩
theorem VT.nil(U:List ByteArray):VT U []:=⟨trivial,fun u hu=>by cases hu⟩
theorem Va(hu:∀u∈l,u.path∈U):VT U (Rf l):=by
 grind [Rf,CX,QG,VT.nil]
theorem Sv{a:List Tm}(ha:VT U a)(hb:VT U b):VT U (BF a b p).1:=by
 have sp:∀{l r:List Tm} {t:Tm},VT U l->Fl l p=some (t,r)->t.path∈U/\∀u∈r,u.path∈U:=by
  intro l r t hl h;unfold Fl at h;cases e:CX l with
  |none=>simp_all
  |some c=>
   rw[e]at h;have h:(match DC c p with | none=>none | some t=>some (t,F5 c p))=some (t,r):=h;have hc:=QG e hl.2;cases e2:DC c p with
   |none=>simp_all
   |some u=>
    rw[e2]at h;cases h;exact⟨hc.2 _ (GL e2),fun u hu=>hc.2 u (Dm.1 hu).1⟩
 unfold BF;split
 .rename_i t r u m e1 e2;obtain⟨a1,a2⟩:=sp ha e1;obtain⟨b1,b2⟩:=sp hb e2;split
  .rename_i o e3;refine QG e3 fun v hv=>?_;rcases Bh.1 hv with hv | hv
   .grind
   .rw[AK.1 hv];exact a1
  .exact .nil U
 .exact .nil U
def KO(x:List Rl)(roots:List Rq)(l:List Nf):List ByteArray:=(x.map (·.path))++((x.map (·.reqs)).flatten.map (·.path)++(roots.map (·.path)++l.map (·.path)))
theorem jU{l:List Nf}{i:Nf}(hi:i∈l)(hd:∀t∈d,VT (KO x roots l) t)(h:DX x roots d i=some t):VT (KO x roots l) t:=by
 have hp:i.path∈KO x roots l:=by
  grind [KO]
 have nz:∀{α:Type} {l:List α} {k:Int} {a:α},Mn l k=some a->a∈l:=by
  grind [Mn]
 have n0:∀{a b:List Tm},kd a=some b->b=a:=by
  grind [kd]
 unfold DX at h;split at h
 .split at h
  .cases e:Mn roots i.number with
   |none=>simp_all
   |some q=>
    rw[e]at h;cases h;refine Va fun u hu=>?_;rw[AK.1 hu];unfold KO;exact CE _ (CE _ (Cv _ (Ax.2 ⟨q,nz e,rfl⟩)))
  simp_all
 split at h
 .split at h
  .cases e:Qg x i.path i.place with
   |none=>simp_all
   |some r=>
    rw[e]at h;have h:(match Mn r.reqs i.number with | none=>none | some q=>kd (EG i.path i.place q))=some t:=h;cases e2:Mn r.reqs i.number with
    |none=>simp_all
    |some q=>
     rw[e2]at h;have h:=n0 (show kd (EG i.path i.place q)=some t from h);subst h;refine Va fun u hu=>?_;rcases AU.1 hu with rfl | hu
     .exact hp
     .rw[AK.1 hu];unfold KO;refine CE _ (Cv _ (Ax.2 ⟨q,?_,rfl⟩));exact FP.2 ⟨r.reqs,Ax.2 ⟨r,BA e,rfl⟩,nz e2⟩
  simp_all
 split at h
 .split at h
  .have h:=n0 h;subst h;refine Va fun u hu=>?_;simp_all
  simp_all
 grind [Sv]
def xh:List (List UInt8):=[[97,110,100],[97,110,121],[97,115],[98,111,111,108],[100,101,112,114,101,99,97,116,101,100],[101,108,115,101],[101,120,112,111,114,116],[102,97,108,115,101],[102,110],[102,111,108,100],[102,114,111,109],[105,102],[105,109,112,111,114,116],[105,110],[105,110,116],[108,101,110,103,116,104],[108,101,116],[108,105,115,116],[109,97,116,99,104],[109,111,100,117,108,101],[110,111,110,101],[110,111,116],[111,114],[116,101,120,116],[116,104,101,110],[116,114,117,101],[116,121,112,101],[117,115,101]]
theorem jY:dY=32::xh.flatMap (fun w=>w++[32]):=by decide +kernel
theorem xi:∀w∈xh,∀c∈w,c≠32:=by decide +kernel
theorem XB:∀(s w r:List UInt8),(∀c∈s,c≠32)->(∀c∈w,c≠32)->Qe (s++[32]) (w++32::r)=decide (w=s)
 | [],[],r,_,_=>by simp[Qe]
 | [],b::w,r,_,hw=>by
  grind [Qe]
 |a::s,[],r,hs,_=>by
  grind [Qe]
 |a::s,b::w,r,hs,hw=>by
  have ih:=XB s w r (fun c hc=>hs c (Ao _ hc)) (fun c hc=>hw c (Ao _ hc))
  grind [Qe]
theorem aZ(x:List UInt8):∀(w r:List UInt8),(∀c∈w,c≠32)->qJ (32::x) (w++r)=qJ (32::x) r
 | [],_,_=>rfl
 |b::w,r,h=>by
  have hb:=h b (Af ..);rw[FO,qJ,aZ x w r (fun c hc=>h c (Ao _ hc))]
  grind [Qe]
theorem Xd(s:List UInt8)(hs:∀c∈s,c≠32):∀ws:List (List UInt8),(∀w∈ws,∀c∈w,c≠32)->qJ (32::(s++[32])) (32::ws.flatMap (fun w=>w++[32]))=ws.any (fun w=>decide (w=s))
 | [],_=>by
  cases s<;>grind [qJ,Qe]
 |w::ws,h=>by
  have hw:=h w (Af ..);have ih:=Xd s hs ws (fun v hv=>h v (Ao _ hv))
  grind [qJ,Qe,XB,aZ]
theorem ud{s:List UInt8}(h:s.all FF=true):∀c∈s,c≠32:=fun c hc e=>by
 have:=A3.1 h c hc
 rw[e]at this;exact absurd this Cl
theorem dX{s:List UInt8}(h:s.all FF=true):Wg s=xh.any (fun w=>decide (w=s)):=by
 unfold Wg;rw[jY,Xd s (ud h) xh xi]
theorem nX(s:A1)(x:Int×Int)(k:Nat){t:A1}(h:s.Perm t):(s.take k++([x]++s.drop k)).Perm (t++[x]):=by
 grind [List.take_append_drop]
theorem UJ(s:A1)(x:Int×Int)(k:Nat)(hs:s.Pairwise fun a b=>a.1<=b.1)(h1:∀j (hj:j<s.length),k<=j->x.1<s[j].1)(h2:k=0\/∃h:k-1<s.length,s[k-1].1<=x.1):(s.take k++([x]++s.drop k)).Pairwise fun a b=>a.1<=b.1:=by
 have hlo:∀a∈s.take k,a.1<=x.1:=fun a ha=>by
  grind [List.getElem_of_mem,List.pairwise_iff_getElem]
 have hhi:∀b∈s.drop k,x.1<=b.1:=fun b hb=>by
  grind [List.getElem_of_mem]
 grind
structure Cd where
 place:Int
 rel:Rl
variable {c:Cd}{E:List Cd}
structure Nd where
 rq:Rq
 path:ByteArray
 place:Int
 number:Int
variable {needs:List Nd}(n:Nd)
structure SS where
 infs:List Nf
 drv:List (List Tm)
 full:Bool
variable {s':SS}(s:SS)
abbrev QW(c:Cd):Sl:=⟨c.rel.path,c.rel.ver⟩
abbrev Aw(l:List Cd):List Sl:=l.map QW
def Bx(x:List Rl)(p:ByteArray):List Cd:=(x.filter fun r=>decide (r.path=p)&&!r.yanked).map fun r=>⟨plc r.ver,r⟩
def LQ(f:Rq->Nat->Nd):Nat->List Rq->List Nd
 |_,[]=>[]
 |i,q::l=>f q i::LQ f (i+1) l
def cg(roots:List Rq):List Nd:=LQ (fun q i=>⟨q,mt,0,i⟩) 0 roots
def Qf(c:Cd):List Nd:=LQ (fun q i=>⟨q,c.rel.path,c.place,i⟩) 0 c.rel.reqs
def Dw(roots:List Rq)(dec:List Cd):List Nd:=cg roots++(dec.map Qf).flatten
def Dn(dec:List Cd)(p:ByteArray):Bool:=dec.any fun c=>decide (c.rel.path=p)
def Ep(dec:List Cd)(a:ByteArray×List Nd)(n:Nd):ByteArray×List Nd:=
 if Dn dec n.rq.path=true\/(a.2≠[]/\Dz a.1 n.rq.path=true)then a
 else if a.2≠[]/\Dz n.rq.path a.1=true then(n.rq.path,[n])else(n.rq.path,a.2++[n])
def D4(roots:List Rq)(dec:List Cd):ByteArray×List Nd:=(Dw roots dec).foldl (Ep dec) (mt,[])
def UY(l:List Cd)(n:Nd):Bool:=l.any fun d=>decide (d.rel.path=n.rq.path)&&!has n.rq.set d.place
def CY(dec:List Cd)(c:Cd):Option Nd:=(Qf c).find? (UY (dec++[c]))
def Pv(s:List Sl):Nat->List (List Tm)->Option Nat
 |_,[]=>none
 |i,t::l=>if CK t s then some i else Pv s (i+1) l
def Oi(d:List (List Tm))(s:List Sl):Option Nat:=Pv s 0 d
def DM(l:List Tm)(p:ByteArray):Bool:=l.any fun t=>decide (t.path=p)
instance:DecidableEq Nf:=fun a b=>by
 obtain⟨a1,a2,a3,a4,a5,a6⟩:=a;obtain⟨b1,b2,b3,b4,b5,b6⟩:=b;exact decidable_of_iff (a1=b1/\a2=b2/\a3=b3/\a4=b4/\a5=b5/\a6=b6) ⟨fun⟨h1,h2,h3,h4,h5,h6⟩=>by simp_all,fun h=>by simp_all⟩
def Mp(i:Nf):Nat->List Nf->Option Nat
 |_,[]=>none
 |k,j::l=>if j=i then some k else Mp i (k+1) l
def D7(i:Nf)(l:List Tm):Nat×SS:=
 match Mp i 0 s.infs with
 |some k=>(k,s)
 |none=>if 65536<=s.infs.length then(s.infs.length-1,⟨s.infs,s.drv,true⟩)else(s.infs.length,⟨s.infs++[i],s.drv++[l],s.full⟩)
def Ox:Nf:=if n.path=mt then⟨0,mt,0,n.number,0,0⟩else⟨1,n.path,n.place,n.number,0,0⟩
def Ib:List Tm:=if n.path=mt then J0 n.rq else EG n.path n.place n.rq
def Bu(n:Nd):Nat×SS:=D7 s (Ox n) (Ib n)
abbrev Ef(k:Nat):List Tm:=s.drv.getD k []
def B9(p:ByteArray):List Nat->Nat->SS->Nat×SS
 | [],k,s=>(k,s)
 |r::l,k,s=>
  if s.full=true\/DM (Ef s k) p=false then(k,s)
  else if r=k then B9 p l k s
  else if(BF (Ef s k) (Ef s r) p).2≠0 then B9 p l k s
  else B9 p l (D7 s ⟨3,p,0,0,k,r⟩ (BF (Ef s k) (Ef s r) p).1).1 (D7 s ⟨3,p,0,0,k,r⟩ (BF (Ef s k) (Ef s r) p).1).2
def Ea(x:List Rl)(p:ByteArray)(s:SS):Nat×SS:=D7 s ⟨2,p,0,0,0,0⟩ (H2 p (B6 x p))
def DG(x:List Rl)(p:ByteArray)(n:Nd)(reasons:List Nat)(s:SS):Nat×SS:=
 B9 p ((Ea x p (Bu s n).2).1::reasons) (Bu s n).1 (Ea x p (Bu s n).2).2
structure KY where
 res:Nat
 found:Bool
 ss:SS
 dec:List Cd
 stack:List (List Sk)
def DS(rec:List Cd->SS->List (List Sk)->KY)(x:List Rl)(p:ByteArray)(needs:List Nd)(n0:Nd)(dec:List Cd)(stack:List (List Sk)):List Cd->SS->List Nat->List Sk->KY
 | [],s,reasons,_=>⟨(DG x p n0 reasons s).1,false,(DG x p n0 reasons s).2,dec,stack⟩
 |c::cs,s,reasons,skips=>
  let after (k:Nat) (s:SS):KY:=if DM (Ef s k) p=false then⟨k,false,s,dec,stack⟩else DS rec x p needs n0 dec stack cs s (reasons++[k]) (skips++[⟨p,c.place,k⟩])
  if s.full=true then⟨0,false,s,dec,stack⟩
  else match needs.find? fun n=>!has n.rq.set c.place with
   |some n=>DS rec x p needs n0 dec stack cs (Bu s n).2 (reasons++[(Bu s n).1]) skips
   |none=>match Oi s.drv (Aw (dec++[c]))with
    |some k=>after k s
    |none=>match CY dec c with
     |some n=>after (Bu s n).1 (Bu s n).2
     |none=>
      let o:=rec (dec++[c]) s (stack++[skips])
      if o.found=true then⟨0,true,o.ss,o.dec,o.stack⟩
      else if o.ss.full=true then⟨0,false,o.ss,dec,stack⟩
      else after o.res o.ss
def CL(x:List Rl)(roots:List Rq):Nat->List Cd->SS->List (List Sk)->KY
 |0,dec,s,stack=>⟨0,false,s,dec,stack⟩
 |n+1,dec,s,stack=>match(D4 roots dec).2 with
  | []=>⟨0,true,s,dec,stack⟩
  |n0::l=>DS (CL x roots n) x (D4 roots dec).1 (n0::l) n0 dec stack (Bx x (D4 roots dec).1) s [] []
abbrev ss0:SS:=⟨[],[],false⟩
def Ff(x:List Rl)(dec:List Cd):Nat:=(x.filter fun r=>!r.yanked&&!Dn dec r.path).length
def DZ(x:List Rl)(roots:List Rq):KY:=CL x roots (x.length+1) [] ss0 []
theorem PZ(f:Rq->Nat->Nd):∀(l:List Rq) (i k:Nat),(LQ f i l)[k]?=(l[k]?).map fun q=>f q (i+k)
 | [],i,k=>by simp[LQ]
 |q::l,i,0=>by simp[LQ]
 |q::l,i,k+1=>by
  have h:=PZ f l (i+1) k
  grind [LQ]
theorem M1(f:Rq->Nat->Nd):∀(l:List Rq) (i:Nat),(LQ f i l).length=l.length
 | [],_=>rfl
 |_::l,i=>by simp[LQ,M1 f l (i+1)]
theorem P0{f:Rq->Nat->Nd}{l:List Rq}{n:Nd}(h:n∈LQ f 0 l):∃k q,l[k]?=some q/\n=f q k:=by
 grind [List.mem_iff_getElem?,PZ]
theorem Th{f:Rq->Nat->Nd}(hf:∀q i,(f q i).rq=q):∀(l:List Rq) (i:Nat),(LQ f i l).map (·.rq)=l
 | [],_=>rfl
 |q::l,i=>by simp[LQ,hf,Th hf l (i+1)]
abbrev Fs(roots:List Rq)(dec:List Cd):List Rq:=roots++(dec.map fun c=>c.rel.reqs).flatten
theorem Lg(roots:List Rq)(dec:List Cd):(Dw roots dec).map (·.rq)=Fs roots dec:=by
 unfold Dw cg;rw[AF,Th (fun _ _=>rfl),List.map_flatten,Br]
 congr 2
 exact BZ fun c _=>Th (fun _ _=>rfl) _ _
theorem Gr(dec:List Cd)(p:ByteArray):CF (Aw dec) p=Dn dec p:=by
 grind [CF,Dn,List.any_map]
theorem JV(before:List Sl):∀{l:List Rq} {a p:ByteArray},CZ before l (some a)=some p->p=a\/Dz p a=true
 | [],a,p,h=>by cases h<;>simp_all
 |q::l,a,p,h=>by
  unfold CZ at h;split at h
  .exact JV before h
  .dsimp only at h;split at h
   .rename_i hb;rcases JV before h with e | e<;>grind [Ds]
   .exact JV before h
theorem IR(before:List Sl):∀{l:List Rq} {a:ByteArray},CZ before l (some a)≠none
 | [],a=>by simp[CZ]
 |q::l,a=>by
  unfold CZ;split
  .exact IR before
  .dsimp only;split<;>exact IR before
theorem Nx(dec:List Cd):∀(L:List Nd) (a:ByteArray×List Nd),(a.2≠[]->Dn dec a.1=false) ->
  L.foldl (Ep dec) a=match CZ (Aw dec) (L.map (·.rq)) (if a.2=[]then none else some a.1)with
   |none=>a
   |some p=>(p,(if a.2≠[]/\a.1=p then a.2 else [])++L.filter fun n=>decide (n.rq.path=p))
 | [],a,h=>by
  grind [CZ]
 |n::L,a,h=>by
  obtain⟨p0,o⟩:=a;rw[Gm,BB];have Aia:∀(acc:Option ByteArray) (l:List Rq),(∀p,acc=some p->Dn dec p=false)->∀p,CZ (Aw dec) l acc=some p->Dn dec p=false:=fun acc l ha p hp=>by
   grind [KA,Gr]
  cases hd:Dn dec n.rq.path with
  |true=>
   have e1:Ep dec (p0,o) n=(p0,o):=by grind [Ep]
   have e2:CZ (Aw dec) (n.rq::L.map (·.rq)) (if o=[]then none else some p0)=CZ (Aw dec) (L.map (·.rq)) (if o=[]then none else some p0):=by
    grind [CZ,Gr]
   rw[e1,e2,Nx dec L (p0,o) h];dsimp only;cases hg:CZ (Aw dec) (L.map (·.rq)) (if o=[]then none else some p0)<;>grind [CZ]
  |false=>
   have VR:CF (Aw dec) n.rq.path=false:=by grind [Gr]
   by_cases ho:o=[]
   .subst ho;have e1:Ep dec (p0,[]) n=(n.rq.path,[n]):=by
     grind [Ep]
    have e2:CZ (Aw dec) (n.rq::L.map (·.rq)) none=CZ (Aw dec) (L.map (·.rq)) (some n.rq.path):=by
     grind [CZ]
    rw[e1,Nx dec L (n.rq.path,[n]) (fun _=>hd),Ay rfl,e2]
    grind [IR]
   .have hif:(if o=[]then none else some p0)=some p0:=Az ho;rw[hif];cases hb:Dz p0 n.rq.path with
    |true=>
     have e1:Ep dec (p0,o) n=(p0,o):=by grind [Ep]
     have dK:Dz n.rq.path p0=false:=WI hb;have e2:CZ (Aw dec) (n.rq::L.map (·.rq)) (some p0)=CZ (Aw dec) (L.map (·.rq)) (some p0):=by
      grind [CZ]
     rw[e1,e2,Nx dec L (p0,o) h]
     grind [JV]
    |false=>
     cases dK:Dz n.rq.path p0 with
     |true=>
      have e1:Ep dec (p0,o) n=(n.rq.path,[n]):=by
       grind [Ep]
      have e2:CZ (Aw dec) (n.rq::L.map (·.rq)) (some p0)=CZ (Aw dec) (L.map (·.rq)) (some n.rq.path):=by
       grind [CZ]
      rw[e1,e2,Nx dec L (n.rq.path,[n]) (fun _=>hd),Az B0]
      grind [IR,JV]
     |false=>
      have e0:n.rq.path=p0:=GJ dK hb;have e1:Ep dec (p0,o) n=(p0,o++[n]):=by
       grind [Ep]
      have e2:CZ (Aw dec) (n.rq::L.map (·.rq)) (some p0)=CZ (Aw dec) (L.map (·.rq)) (some p0):=by
       grind [CZ]
      rw[e1,e2,Nx dec L (p0,o++[n]) (fun _=>by simp_all),Az B0];cases hg:CZ (Aw dec) (L.map (·.rq)) (some p0)<;>grind [IR]
theorem U3(roots:List Rq)(dec:List Cd):D4 roots dec=match Ik (Fs roots dec) (Aw dec)with
  |none=>(mt,[])
  |some p=>(p,(Dw roots dec).filter fun n=>decide (n.rq.path=p)):=by
 grind [D4,Ik,Nx,Lg]
theorem OI{dec:List Cd}:(D4 roots dec).2=[]↔Ik (Fs roots dec) (Aw dec)=none:=by
 rw[U3];cases h:Ik (Fs roots dec) (Aw dec)with
 |none=>simp
 |some p=>
  simp only[reduceCtorEq,iff_false];obtain⟨_,q,hq,e⟩:=U4 h;rw[<-Lg]at hq;obtain⟨n,hn,rfl⟩:=Ax.1 hq;exact List.ne_nil_of_mem (Dm.2 ⟨hn,by simp_all⟩)
structure X3(roots:List Rq)(dec:List Cd)(p:ByteArray)(l:List Nd):Prop where
 next:Ik (Fs roots dec) (Aw dec)=some p
 undone:Dn dec p=false
 mem:∀n,n∈l↔n∈Dw roots dec/\n.rq.path=p
theorem JW{dec:List Cd}{n0:Nd}{l:List Nd}(h:(D4 roots dec).2=n0::l):X3 roots dec (D4 roots dec).1 (n0::l):=by
 rw[<-h];rw[U3]at *
 cases hp:Ik (Fs roots dec) (Aw dec)with
 |none=>simp_all
 |some p=>
  dsimp only;refine⟨hp,by rw[<-Gr];grind [U4],fun n=>?_⟩
  grind
theorem He:c∈Bx x p↔∃r∈x,r.path=p/\r.yanked=false/\c=⟨plc r.ver,r⟩:=by
 grind [Bx]
theorem NF{i:Nf}:∀{l:List Nf} {k m:Nat},Mp i k l=some m->∃j,m=k+j/\l[j]?=some i
 | [],_,_,h=>by cases h
 |y::l,k,m,h=>by
  unfold Mp at h;split at h
  .simp_all
  .obtain⟨j,h1,h2⟩:=NF h;exact⟨j+1,by omega,h2⟩
theorem Rj{i:Nf}:∀{l:List Nf} {k:Nat},Mp i k l=none->i∉l
 | [],_,_=>by simp
 |y::l,k,h=>by
  unfold Mp at h;split at h
  .cases h
  .rename_i e
   have:=Rj h
   grind
theorem bM{α:Type}{d d' : List α}{i:Int}{a:α}(h:Mn d i=some a)(hp:d <+: d'):Mn d' i=some a:=by
 unfold Mn at *
 split at h
 .cases h
 .rename_i hi;rw[Az hi];obtain⟨t,rfl⟩:=hp<;>grind
theorem bf{d':List (List Tm)}{i:Nf}{o:List Tm}(h:DX x roots d i=some o)(hp:d <+: d'):DX x roots d' i=some o:=by
 grind [DX,bM]
structure EQ(x:List Rl)(roots:List Rq)(s:SS):Prop where
 der:Du x roots s.infs []=some s.drv
 len:s.infs.length<=65536
theorem EQ.dlen{s:SS}(h:EQ x roots s):s.drv.length=s.infs.length:=by simpa using Jm h.der
theorem EQ.nil(x:List Rl)(roots:List Rq):EQ x roots ss0:=⟨rfl,by simp⟩
theorem EQ.at{x:List Rl}{roots:List Rq}{s:SS}(h:EQ x roots s){k:Nat}{i:Nf}(hk:s.infs[k]?=some i):DX x roots s.drv i=some (s.drv.getD k []):=by
 have h1:=NR h.der (k+1);have h0:=NR h.der k;have E3:=(Bf.1 hk).1;rw[Dr,hk,G9,h0]at h1
 grind [Du,List.take_succ_eq_append_getElem,List.append_cancel_left,bf]
structure Grow(s s' : SS):Prop where
 pre:s.drv <+: s'.drv
 preI:s.infs <+: s'.infs
 full:s.full=true->s'.full=true
theorem Grow.refl:Grow s s:=⟨List.prefix_rfl,List.prefix_rfl,id⟩
theorem Grow.trans{a b c:SS}(h:Grow a b)(k:Grow b c):Grow a c:=⟨h.pre.trans k.pre,h.preI.trans k.preI,fun e=>k.full (h.full e)⟩
theorem Grow.at{s:SS}(h:Grow s s')(hk:k<s.drv.length):Ef s' k=Ef s k:=by
 obtain⟨t,e⟩:=h.pre<;>grind
theorem Grow.len{s:SS}(h:Grow s s'):s.drv.length<=s'.drv.length:=h.pre.length_le
theorem K3(i:Nf)(l:List Tm):Grow s (D7 s i l).2:=by
 grind [D7,Grow.mk]
theorem KZ{s:SS}(h:EQ x roots s){i:Nf}(hi:DX x roots s.drv i=some l) :
  EQ x roots (D7 s i l).2/\(D7 s i l).1<(D7 s i l).2.drv.length/\((D7 s i l).2.full=false->Ef (D7 s i l).2 (D7 s i l).1=l):=by
 grind [D7,NF,Du,G9,EQ.dlen,EQ.at,EQ.mk,EQ.der,EQ.len]
theorem c8(i:Nf)(l:List Tm):(D7 s i l).2.infs.length<=s.infs.length+1:=by
 grind [D7]
theorem ZQ{s:SS}(i:Nf)(l:List Tm)(hf:s.full=false)(hc:s.infs.length<65536):(D7 s i l).2.full=false:=by
 grind [D7]
theorem T8(S:List Sl):∀{l:List (List Tm)} {i k:Nat},Pv S i l=some k->∃j,k=i+j/\∃t,l[j]?=some t/\CK t S=true
 | [],_,_,h=>by cases h
 |t::l,i,k,h=>by
  unfold Pv at h;split at h
  .simp_all
  .obtain⟨j,h1,t',h2,h3⟩:=T8 S h;exact⟨j+1,by omega,t',h2,h3⟩
theorem K7(h:Oi d S=some k):k<d.length/\CK (d.getD k []) S=true:=by
 obtain⟨j,h1,t,h2,h3⟩:=T8 S h<;>grind
theorem MC:∀{l:List Rq} {b:Option ByteArray},D2 b l=0->∀q∈l,q.set≠[]/\EP q.set
 | [],_,_,q,hq=>by cases hq
 |r::l,b,h,q,hq=>by
  unfold D2 at h;split at h
  .rename_i e;rcases AU.1 hq with rfl | hq
   .unfold GY at e
    grind [Cc]
   .exact MC h q hq
  omega
theorem Lx{l:List Rq}(h:AR l=0):∀q∈l,q.set≠[]/\EP q.set:=by
 grind [AR,MC]
abbrev fI(k:Int):Ver:=⟨0,k / 1000,k % 1000⟩
theorem Hk(k:Int):place (fI k)=k:=by grind [place]
theorem E7{k:Int}(h:0<=k/\k<1000000):Be (fI k)=true:=by
 grind [Be,okPart]
structure VP(D:List Sl)(p:ByteArray)(S:List Sl):Prop where
 val:Gb S
 same:∀q,q≠p->Bg S q=Bg D q
abbrev M3(D:List Sl)(p:ByteArray)(v:Ver):List Sl:=D++[⟨p,v⟩]
theorem Wa(a b:List Sl)(p:ByteArray):Bg (a++b) p=(Bg a p).or (Bg b p):=by
 grind [Bg]
theorem HT{s:List Sl}(h:CF s p=false):Bg s p=none:=by
 grind [Kv,Bg]
theorem VP.self(h:Gb D):VP D p D:=⟨h,fun _ _=>rfl⟩
theorem VP.ver(h:Gb D)(hv:Be v=true):VP D p (M3 D p v):=by
 refine⟨fun y hy=>?_,fun q hq=>?_⟩
 .rcases Bh.1 hy with hy | hy
  .exact h y hy
  simp_all
 grind [Bg]
theorem JC(hp:CF D p=false)(v:Ver):Bg (M3 D p v) p=some ⟨p,v⟩:=by
 grind [Wa,HT,Bg]
theorem aT(hp:CF D p=false)(hv:Be v=true)(hv' : Be v'=true)(e:place v=place v')(q:ByteArray)(t:Tm) :
  Dh t (Bg (M3 D p v) q)=Dh t (Bg (M3 D p v') q):=by
 by_cases hq:q=p
 .subst hq;rw[JC hp,JC hp];show(Be v&&has t.set (place v))=(Be v'&&has t.set (place v'));simp_all
 grind [Bg]
theorem fH(hp:CF D p=false)(hv:Be v=true)(hv' : Be v'=true)(e:place v=place v')(t:List Tm):A6 t (M3 D p v)=A6 t (M3 D p v'):=by
 grind [Bs,aT]
theorem Ls{S':List Sl}(h:VP D p S)(h' : VP D p S')(ht:∀u∈t,u.path≠p):A6 t S=A6 t S':=by
 rw[El,Bs,Bs];exact⟨fun k u hu=>by rw[h'.same _ (ht u hu),<-h.same _ (ht u hu)];simp_all,fun k u hu=>by rw[h.same _ (ht u hu),<-h'.same _ (ht u hu)];simp_all⟩
theorem Kq(h:DM t p=false):∀u∈t,u.path≠p:=fun u hu e=>by
 grind [DM]
theorem T2(h:DM t p=true):∃u∈t,u.path=p:=by
 grind [DM]
theorem VI(hf:Form t)(hc:DM t p=true):∃u r,Fl t p=some (u,r)/\u.path=p/\∀v∈r,v.path≠p:=by
 obtain⟨u,hu,e⟩:=T2 hc;have hs:=EZ hf;have hfd:=(Gw hs).1 hu;rw[e]at hfd;refine⟨u,F5 t p,?_,e,fun v hv=>?_⟩
 .unfold Fl;rw[show CX t=some t from hf];simp_all
 .have:=(Dm.1 hv).2
  simp_all
theorem Zh(YM:Form t)(wJ:Form b)(hct:DM t p=true)(hcb:DM b p=true){S1 S2:List Sl}(h1:VP D p S1)(v1:A6 t S1=true)(h2:VP D p S2)(v2:A6 b S2=true) :
  (BF t b p).2=0/\∀S,VP D p S->A6 t S=true\/A6 b S=true->A6 (BF t b p).1 S=true:=by
 obtain⟨u,r,e1,pu,nr⟩:=VI YM hct;obtain⟨w,m,e2,pw,nm⟩:=VI wJ hcb;have key:∀S,VP D p S->A6 t S=true\/A6 b S=true->A6 (r++m++[Dt u w]) S=true:=fun S hS hv=>by
  have r1:A6 r S=true:=by
   rw[Ls hS h1 nr];rw[(GD h1.val e1).1,Am]at v1;simp_all
  have m1:A6 m S=true:=by
   rw[Ls hS h2 nm];rw[(GD h2.val e2).1,Am]at v2;simp_all
  rw[Hd,Hd,r1,m1]
  grind [Bs,Dt,NY,GD,VP.val]
 unfold BF
 grind [Dj,VP.val]
theorem oJ(hp:CF D p=false)(hf:Form t)(h0:A6 t D=true)(hk:∀k:Int,0<=k->k<1000000->A6 t (M3 D p (fI k))=true):DM t p=false:=by
 rw[Bb];intro hc;obtain⟨u,hu,e⟩:=T2 hc;have ha:u.absent=true:=by
  have:=Bs.1 h0 u hu
  rw[e,HT hp]at this;exact this
 have hs:∀k:Int,0<=k->k<1000000->has u.set k=true:=fun k k0 k1=>by
  grind [Bs,JC,Dh,Hk]
 have hcn:EP u.set:=BS.canon (EZ hf) u hu;have nC:u.set=[(0,1000000)]:=by
  refine HN hcn ⟨by decide,by decide,by decide,trivial⟩ fun k=>?_;rw[El];constructor
  .intro h
   have:=QQ h
   grind [has,BX]
  grind [QQ]
 have SI:G8 u=true:=by grind [G8]
 have hf2:CX t=some t:=hf
 grind [CX]
structure De(x:List Rl)(dec:List Cd):Prop where
 cand:∀c∈dec,c.rel∈x/\c.rel.yanked=false/\c.place=plc c.rel.ver
 nodup:(dec.map fun c=>c.rel.path).Nodup
theorem De.nil(x:List Rl):De x []:=⟨fun _ h=>(by cases h),O0⟩
theorem Vd(h:KH r):r.path≠mt:=fun e=>by
 have:=h.maj
 rw[e]at this;have h2:A5 mt=none:=by decide
 simp_all
theorem KH.set{r:Rl}(h:KH r):∀q∈r.reqs,q.set≠[]/\EP q.set:=Lx h.reqs
theorem LO(dec:List Cd):(Aw dec).map (·.path)=dec.map fun c=>c.rel.path:=by simp_all
theorem JM:∀{D:List Sl},(D.map (·.path)).Nodup->∀{y:Sl},y∈D->Bg D y.path=some y
 | [],_,y,h=>by cases h
 |z::D,hn,y,h=>by
  simp only[BB,HI]at hn;unfold Bg;rw[Wt];rcases AU.1 h with rfl | h
  .simp_all
  .have:z.path≠y.path:=fun e=>hn.1 (Ax.2 ⟨y,h,e.symm⟩)
   rw[Aj this];exact JM hn.2 h
theorem De.find{dec:List Cd}(h:De x dec)(hc:c∈dec):Bg (Aw dec) c.rel.path=some (QW c):=
 JM (by rw[LO];exact h.nodup) (y:=QW c) (Ax.2 ⟨c,hc,rfl⟩)
theorem De.valid(hx:AC x=0){dec:List Cd}(h:De x dec):Gb (Aw dec):=fun y hy=>by
 obtain⟨c,hc,rfl⟩:=Ax.1 hy;exact((B3 hx).1 _ (h.cand c hc).1).val
theorem De.snoc{dec:List Cd}(h:De x dec)(hc:c.rel∈x/\c.rel.yanked=false/\c.place=plc c.rel.ver)(hd:Dn dec c.rel.path=false):De x (dec++[c]):=by
 refine⟨fun d hd=>?_,?_⟩
 all_goals grind [Dn,De.cand,De.nodup]
theorem MX{n:Nd}(h:n∈Dw roots E):(∃k q,roots[k]?=some q/\n=⟨q,mt,0,(k:Nat)⟩)\/∃c∈E,∃k q,c.rel.reqs[k]?=some q/\n=⟨q,c.rel.path,c.place,(k:Nat)⟩:=by
 unfold Dw at h;rcases Bh.1 h with h | h
 .obtain⟨k,q,h1,h2⟩:=P0 h<;>grind [P0]
 .obtain⟨l,hl,hn⟩:=FP.1 h;obtain⟨c,hc,rfl⟩:=Ax.1 hl;obtain⟨k,q,h1,h2⟩:=P0 hn<;>grind [P0]
theorem OF{dec:List Cd}{n:Nd}(h:n∈Dw roots dec):n∈Dw roots (dec++[c]):=by
 grind [Dw]
theorem Nw{dec:List Cd}{n:Nd}(h:n∈Qf c):n∈Dw roots (dec++[c]):=by
 grind [Dw]
def NM:List Tm:=if n.path=mt then [DH n.rq]else [⟨n.path,false,[(n.place,n.place+1)]⟩,DH n.rq]
theorem PO:Ib n=Rf (NM n):=by grind [Ib,NM,J0,EG]
theorem io{s:A1}(h:s≠[])(hc:EP s):∃k,has s k=true:=by
 match s,h,hc with
 |x::r,_,hc=>
  have:=EI.low hc x (Af ..)
  refine⟨x.1,?_⟩
  grind [has,BX]
theorem Sr{o:Option Sl}(h:o=none\/∃y,o=some y/\Be y.ver=true/\has q.set (place y.ver)=false):Dh (DH q) o=true:=by
 rcases h with rfl | ⟨y,rfl,hv,hq⟩
 .rfl
 .show(Be y.ver&&has (E5 q.set) (place y.ver))=true
  grind [JZ,F8,SP]
theorem Vc{y:Sl}(hq:has q.set (place y.ver)=true):Dh (DH q) (some y)=false:=by
 show(Be y.ver&&has (E5 q.set) (place y.ver))=false
 grind [F8]
structure zg(x:List Rl)(roots:List Rq)(S:List Sl)(n:Nd):Prop where
 inf:∀d,DX x roots d (Ox n)=some (Ib n)
 viol:A6 (Ib n) S=true
 raw:∀S',Gb S'->A6 (Ib n) S'=A6 (NM n) S'
 form:Form (Ib n)
 inU:∀U:List ByteArray,(n.path≠mt->n.path∈U)->n.rq.path∈U->VT U (Ib n)
 path:n.path≠mt->CF S n.path=true
theorem Td(hx:AC x=0)(hr:AR roots=0)(hE:De x E){n:Nd}(hn:n∈Dw roots E)(hv:Bg (Aw E) n.rq.path=none\/∃y,Bg (Aw E) n.rq.path=some y/\has n.rq.set (place y.ver)=false):zg x roots (Aw E) n:=by
 have hV:=hE.valid hx;have wT:Dh (DH n.rq) (Bg (Aw E) n.rq.path)=true:=Sr (hv.imp id fun⟨y,h1,h2⟩=>⟨y,h1,hV y (LG h1),h2⟩)
 -- the raw list is A6 here,and not elsewhere
 have Ot:n.rq.set≠[]/\EP n.rq.set:=by
  rcases MX hn with ⟨k,q,h1,rfl⟩ | ⟨c,hc,k,q,h1,rfl⟩
  .grind [Lx]
  .exact((B3 hx).1 _ (hE.cand c hc).1).set q (AB h1)
 have nL:A6 (NM n) (Aw E)=true/\(n.path≠mt->CF (Aw E) n.path=true):=by
  rcases MX hn with ⟨k,q,h1,rfl⟩ | ⟨c,hc,k,q,h1,rfl⟩
  .refine⟨?_,fun h=>absurd rfl h⟩;unfold NM;rw[Ay rfl,Bs];intro u hu;rw[AK.1 hu];exact wT
  .have Ek:=Vd ((B3 hx).1 _ (hE.cand c hc).1);refine⟨?_,fun _=>by grind [Kv,De.find]⟩;unfold NM;rw[Az Ek,Bs];intro u hu;rcases AU.1 hu with rfl | hu
   .show Dh _ (Bg (Aw E) c.rel.path)=true;rw[hE.find hc];show(Be c.rel.ver&&has [(c.place,c.place+1)] (place c.rel.ver))=true;have GG:=(B3 hx).1 _ (hE.cand c hc).1;have hp:=JZ GG.val;rw[GG.val,(hE.cand c hc).2.2,GG.plc]
    grind [has,BX]
   .rw[AK.1 hu];exact wT
 have Afn:∃S',Gb S'/\A6 (NM n) S'=false:=by
  unfold NM;split
  .obtain⟨k,hk⟩:=io Ot.1 Ot.2;have lB:=QQ hk;refine⟨[⟨n.rq.path,fI k⟩],fun y hy=>by grind [E7],?_⟩;rw[Bb];intro h
   have:=Bs.1 h (DH n.rq) (AK.2 rfl)
   grind [DH,Bg,Vc,Hk]
  .refine⟨[],fun y hy=>(by cases hy),?_⟩;rw[Bb];intro h
   have:=Bs.1 h _ (Af ..)
   cases this
 obtain⟨nL,AaC⟩:=nL;have Ek:Rf (NM n)≠[]:=by
  obtain⟨S',v',n'⟩:=Afn;have c1:=Dj (l:=NM n) hV;have c2:=Dj (l:=NM n) v';unfold Rf;cases hc:CX (NM n)with
  |none=>simp_all
  |some c=>
   rw[hc,n']at c2;intro e;have e:c=[]:=e;rw[e]at c2;cases c2
 have AaF:∀S',Gb S'->A6 (Ib n) S'=A6 (NM n) S':=fun S' v=>by grind [PO,Rg]
 refine⟨fun d=>?_,by simp_all,AaF,by grind [PO,M2],fun U h1 h2=>?_,AaC⟩
 .rcases MX hn with ⟨k,q,h1,rfl⟩ | ⟨c,hc,k,q,h1,rfl⟩
  .show DX x roots d (if(mt:ByteArray)=mt then⟨0,mt,0,(k:Nat),0,0⟩else _)=some (if(mt:ByteArray)=mt then J0 q else _);rw[Ay rfl,Ay rfl];show(if mt=mt/\(0:Int)=0/\(0:Int)=0/\(0:Int)=0 then(Mn roots (k:Nat)).map J0 else none)=some (J0 q)
   grind [Mn]
  .have GG:=(B3 hx).1 _ (hE.cand c hc).1;have ZD:=Vd GG;have Aks:Qg x c.rel.path c.place=some c.rel:=by
    unfold Qg;cases hf:x.find? fun r=>decide (r.path=c.rel.path)&&decide (plc r.ver=c.place)with
    |none=>
     grind [De.cand]
    |some r=>
     have h2:=DV hf;simp only[Am,Bd]at h2;have nK:=BA hf;have Afq:=(B3 hx).1 r nK;rw[Zj (B3 hx) nK (hE.cand c hc).1 h2.1 (by rw[<-Afq.plc,h2.2,(hE.cand c hc).2.2,GG.plc])]
   grind [Ox,Ib,DX,Mn,kd,PO]
 .rw[PO];refine Va fun u hu=>?_;unfold NM at hu;split at hu
  .rw[AK.1 hu];exact h2
  .rename_i hm;rcases AU.1 hu with rfl | hu
   .simp_all
   .rw[AK.1 hu];exact h2
structure cW(D:List Sl)(U:List ByteArray)(p:ByteArray)(t:List Tm)(C:Int->Prop):Prop where
 form:Form t
 inU:VT U t
 conc:DM t p=true
 one:∃S,VP D p S/\A6 t S=true
 cov:∀k:Int,0<=k->k<1000000->C k->A6 t (M3 D p (fI k))=true
structure cP(D:List Sl)(U:List ByteArray)(p:ByteArray)(t:List Tm)(C:Int->Prop):Prop where
 form:Form t
 inU:VT U t
 none_:A6 t D=true
 cov:∀k:Int,0<=k->k<1000000->C k->A6 t (M3 D p (fI k))=true
theorem EQ.forms{s:SS}(h:EQ x roots s):∀k,Form (Ef s k):=fun k=>by
 unfold Ef;rw[List.getD_eq_getElem?_getD];cases e:s.drv[k]? with
 |none=>exact Um
 |some t=>exact NQ (fun _ h=>by cases h) h.der t (AB e)
theorem Xe{r:Nat}(hk:k<d.length)(hr:r<d.length)(h0:(BF (d.getD k []) (d.getD r []) p).2=0) :
  DX x roots d ⟨3,p,0,0,(k:Nat),(r:Nat)⟩=some (BF (d.getD k []) (d.getD r []) p).1:=by
 grind [Mn,Int.toNat_natCast,DX]
theorem Oz{x:List Rl}{roots:List Rq}{D:List Sl}{U:List ByteArray}{p:ByteArray}(hD:Gb D):∀(l:List (Nat×(Int->Prop))) {k:Nat} {s:SS} {C:Int->Prop},EQ x roots s->k<s.drv.length->(∀y∈l,y.1<s.drv.length) ->
  (s.full=false->cP D U p (Ef s k) C/\∀y∈l,cW D U p (Ef s y.1) y.2) ->
  EQ x roots (B9 p (l.map (·.1)) k s).2/\Grow s (B9 p (l.map (·.1)) k s).2/\(B9 p (l.map (·.1)) k s).1<(B9 p (l.map (·.1)) k s).2.drv.length /\
  ((B9 p (l.map (·.1)) k s).2.full=false->∃C',cP D U p (Ef (B9 p (l.map (·.1)) k s).2 (B9 p (l.map (·.1)) k s).1) C' /\
   (DM (Ef (B9 p (l.map (·.1)) k s).2 (B9 p (l.map (·.1)) k s).1) p=false\/∀j,C j\/(∃y∈l,y.2 j)->C' j))
 | [],k,s,C,hd,hk,_,hA=>⟨hd,.refl s,hk,fun hf=>⟨C,(hA hf).1,.inr fun j hj=>hj.elim id fun⟨y,hy,_⟩=>(by cases hy)⟩⟩
 |y::l,k,s,C,hd,hk,hl,hA=>by
  rw[BB]
  by_cases h1:s.full=true\/DM (Ef s k) p=false
  .grind [B9.eq_def,Grow.refl]
  simp only[not_or,Bool.not_eq_true,Bool.not_eq_false]at h1;obtain⟨hf,Uw⟩:=h1;obtain⟨yM,hA2⟩:=hA hf;have hy:=hA2 y (Af ..);have hi:¬(s.full=true\/DM (Ef s k) p=false):=by simp_all
  by_cases h2:y.1=k
  .have e:B9 p (y.1::l.map (·.1)) k s=B9 p (l.map (·.1)) k s:=by grind [B9]
   rw[e];have hA' : cP D U p (Ef s k) fun j=>C j\/y.2 j:=⟨yM.form,yM.inU,yM.none_,fun j j0 j1 hj=>hj.elim (yM.cov j j0 j1) fun h=>by grind [cW.cov]⟩;obtain⟨i1,i2,i3,i4⟩:=Oz hD l hd hk (fun z hz=>hl z (Ao _ hz)) (fun _=>⟨hA',fun z hz=>hA2 z (Ao _ hz)⟩);refine⟨i1,i2,i3,fun hf=>?_⟩;obtain⟨C',j1,j2⟩:=i4 hf;refine⟨C',j1,j2.imp id fun h j hj=>h j ?_⟩;rcases hj with hj | ⟨z,hz,hj⟩<;>grind
  .obtain⟨S2,o2,v2⟩:=hy.one;obtain⟨r1,r2⟩:=Zh yM.form hy.form Uw hy.conc (.self hD) yM.none_ o2 v2;have e:B9 p (y.1::l.map (·.1)) k s=B9 p (l.map (·.1)) (D7 s ⟨3,p,0,0,k,y.1⟩ (BF (Ef s k) (Ef s y.1) p).1).1 (D7 s ⟨3,p,0,0,k,y.1⟩ (BF (Ef s k) (Ef s y.1) p).1).2:=by
    grind [B9]
   rw[e];have hy1:=hl y (Af ..);obtain⟨a1,a2,a3⟩:=KZ hd (Xe (x:=x) (roots:=roots) hk hy1 r1);have hg:=K3 s ⟨3,p,0,0,(k:Nat),(y.1:Nat)⟩ (BF (Ef s k) (Ef s y.1) p).1;generalize dR : D7 s ⟨3,p,0,0,(k:Nat),(y.1:Nat)⟩ (BF (Ef s k) (Ef s y.1) p).1=s' at *
   have a3:s'.2.full=false->Ef s'.2 s'.1=(BF (Ef s k) (Ef s y.1) p).1:=a3;obtain⟨i1,i2,i3,i4⟩:=Oz hD (C:=fun j=>C j\/y.2 j) l a1 a2 (fun z hz=>BY (hl z (Ao _ hz)) hg.len) (fun uI=>by
    refine⟨?_,fun z hz=>by rw[hg.at (hl z (Ao _ hz))];exact hA2 z (Ao _ hz)⟩
    grind [N7,Sv,E7,cP.mk,cP.inU,cW.inU,VP.self,cP.none_,VP.ver,cP.cov,cW.cov])
   refine⟨i1,hg.trans i2,i3,fun hf=>?_⟩;obtain⟨C',j1,j2⟩:=i4 hf;refine⟨C',j1,j2.imp id fun h j hj=>h j ?_⟩;rcases hj with hj | ⟨z,hz,hj⟩<;>grind
def Ih(roots:List Rq)(dec:List Cd):Prop:=∀q∈Fs roots dec,∀d∈dec,d.rel.path=q.path->has q.set d.place=true
theorem Ih.nil(roots:List Rq):Ih roots []:=fun _ _ d h=>by cases h
theorem fo(roots:List Rq)(dec:List Cd)(c:Cd):Fs roots (dec++[c])=Fs roots dec++c.rel.reqs:=by
 simp_all
theorem tg(c:Cd):(Qf c).map (·.rq)=c.rel.reqs:=Th (fun _ _=>rfl) _ _
theorem dv{dec:List Cd}(h:CY dec c=none):∀q∈c.rel.reqs,∀d∈dec++[c],d.rel.path=q.path->has q.set d.place=true:=fun q hq d hd e=>by
 grind [tg,CY,UY]
theorem Ly{dec:List Cd}{n:Nd}(h:CY dec c=some n):n∈Qf c/\∃d∈dec++[c],d.rel.path=n.rq.path/\has n.rq.set d.place=false:=by
 grind [CY,UY]
theorem Ih.snoc{dec:List Cd}(h:Ih roots dec)(hN:X3 roots dec p needs)(hc:c.rel.path=p)(hn:∀n∈needs,has n.rq.set c.place=true)(hk:CY dec c=none):Ih roots (dec++[c]):=by
 intro q hq d hd e;rw[fo]at hq;rcases Bh.1 hq with hq | hq
 .rcases Bh.1 hd with hd | hd
  .exact h q hq d hd e
  .rw[AK.1 hd]at e⊢;rw[<-Lg]at hq
   grind [X3.mem]
 grind [dv]
def Wf(y:Sl):List Sl->List Sl
 | []=>[y]
 |z::l=>if Dz y.path z.path then y::z::l else z::Wf y l
def CP:List Sl->List Sl
 | []=>[]
 |y::l=>Wf y (CP l)
theorem UI{y z:Sl}:∀{l:List Sl},z∈Wf y l↔z=y\/z∈l
 | []=>by simp[Wf]
 |u::l=>by
  unfold Wf;split
  .simp
  .rw[AU,UI,AU]
   grind
theorem FE{z:Sl}:∀{l:List Sl},z∈CP l↔z∈l
 | []=>by simp[CP]
 |u::l=>by unfold CP;rw[UI,FE,AU]
theorem bh{y:Sl}:∀{l:List Sl},Tx l->(∀z∈l,z.path≠y.path)->Tx (Wf y l)
 | [],_,_=>by grind [Wf]
 |u::l,h,hn=>by
  obtain⟨h1,h2⟩:=BL.1 h;unfold Wf;split
  .grind [List.pairwise_cons,Ds]
  .rename_i hb;refine BL.2 ⟨fun z hz=>?_,bh h2 fun z hz=>hn z (Ao _ hz)⟩
   grind [UI,GJ]
theorem JE:∀{l:List Sl},(l.map (·.path)).Nodup->Tx (CP l)
 | [],_=>List.Pairwise.nil
 |y::l,h=>by
  simp only[BB,HI]at h;exact bh (JE h.2) fun z hz e=>h.1 (Ax.2 ⟨z,FE.1 hz,e⟩)
theorem UG:∀{l:List Sl} {b:Option ByteArray},Tx l->(∀c,b=some c->∀y∈l,Dz c y.path=true)->UF b l=true
 | [],_,_,_=>by unfold UF;rfl
 |y::l,b,h,hb=>by
  obtain⟨h1,h2⟩:=BL.1 h;unfold UF;cases b with
  |none=>simpa using UG h2 fun c e z hz=>by simp_all
  |some c=>
   have:=hb c rfl y (Af ..)
   simp only[this,Bool.true_and];exact UG h2 fun c e z hz=>by simp_all
theorem nT{l:List Sl}(h:Tx l):EK l=true:=UG h fun _ e=>by cases e
theorem Jx(hx:AC x=0)(hr:r∈x):BQ x (EL r)=some r:=by
 unfold BQ;rw[Az (fun h=>h hx)];cases h:x.find? fun s=>decide (EL s=EL r)with
 |none=>
  grind
 |some s=>
  have h1:=DV h;simp only[Bd]at h1;rw[UL (B3 hx).2 (BA h) hr h1]
theorem De.sorted{dec:List Cd}(h:De x dec):Tx (CP (Aw dec)):=JE (by rw[LO];exact h.nodup)
theorem De.findS{dec:List Cd}(h:De x dec)(hc:c∈dec):Bg (CP (Aw dec)) c.rel.path=some (QW c):=
 NV h.sorted (y:=QW c) (FE.2 (Ax.2 ⟨c,hc,rfl⟩))
theorem oe(hx:AC x=0){dec:List Cd}(h:De x dec)(hs:Ih roots dec)(hl:Ik (Fs roots dec) (Aw dec)=none):uo x roots (CP (Aw dec)):=by
 have Gd:∀q∈Fs roots dec,∃y,Bg (CP (Aw dec)) q.path=some y/\has q.set (place y.ver)=true:=fun q hq=>by
  have:=eH hl q hq
  rw[LK]at this;obtain⟨y,hy,e⟩:=this;obtain⟨d,hd,rfl⟩:=Ax.1 hy;have e:d.rel.path=q.path:=e;refine⟨QW d,by grind [De.findS],?_⟩;have h1:=hs q hq d hd e;have GG:=(B3 hx).1 _ (h.cand d hd).1;rw[(h.cand d hd).2.2,GG.plc]at h1;exact h1
 refine⟨hx,nT h.sorted,fun y hy=>?_,fun q hq=>Gd q (Cv _ hq),fun y hy r hr q hq=>?_⟩
 .obtain⟨d,hd,rfl⟩:=Ax.1 (FE.1 hy);exact⟨d.rel,Jx hx (h.cand d hd).1,(h.cand d hd).2.1⟩
 .obtain⟨d,hd,rfl⟩:=Ax.1 (FE.1 hy)
  have:BQ x (QW d)=some d.rel:=Jx hx (h.cand d hd).1
  rw[this]at hr;cases hr;exact Gd q (CE _ (FP.2 ⟨_,Ax.2 ⟨d,hd,rfl⟩,hq⟩))
def bS(dec:List Cd)(needs:List Nd)(c:Cd):Bool:=(needs.all fun n=>has n.rq.set c.place)&&(CY dec c).isNone
def Cn(x:List Rl)(roots:List Rq):Nat->List Cd->List (List Cd)
 |0,_=>[]
 |n+1,dec=>match(D4 roots dec).2 with
  | []=>[dec]
  |n0::l=>((Bx x (D4 roots dec).1).map fun c=>if bS dec (n0::l) c then Cn x roots n (dec++[c])else []).flatten
structure Lf(x:List Rl)(roots:List Rq)(dec d:List Cd):Prop where
 pre:dec <+: d
 ok:De x d
 sat:Ih roots d
 stop:Ik (Fs roots d) (Aw d)=none
theorem Iy(h:c∈Bx x p):c.rel.path=p/\(c.rel∈x/\c.rel.yanked=false/\c.place=plc c.rel.ver):=by
 grind [He]
theorem IC{dec:List Cd}:bS dec needs c=true↔(∀n∈needs,has n.rq.set c.place=true)/\CY dec c=none:=by
 grind [bS,Option.isNone_iff_eq_none]
theorem Hv{x:List Rl}{roots:List Rq}:∀{n:Nat} {dec:List Cd},De x dec->Ih roots dec->∀d∈Cn x roots n dec,Lf x roots dec d
 |0,_,_,_,d,hd=>by cases hd
 |n+1,dec,h,hs,d,hd=>by
  unfold Cn at hd;split at hd
  .grind [OI,Lf.mk]
  .rename_i n0 l e;have hN:=JW e;obtain⟨L,hL,hd⟩:=FP.1 hd;obtain⟨c,hc,rfl⟩:=Ax.1 hL;split at hd
   .rename_i GG;obtain⟨h1,h2⟩:=IC.1 GG;obtain⟨c1,c2⟩:=Iy hc;have jI:Dn dec c.rel.path=false:=by grind [X3.undone]
    have:=Hv (n:=n) (h.snoc c2 jI) (hs.snoc hN c1 h1 h2) d hd
    grind [List.prefix_append,Lf.mk,Lf.pre,Lf.ok,Lf.sat,Lf.stop]
   simp_all
theorem Lf.sol(hx:AC x=0){dec d:List Cd}(h:Lf x roots dec d):uo x roots (CP (Aw d)):=oe hx h.ok h.sat h.stop
theorem sQ(hx:AC x=0){s:SS}(hd:EQ x roots s)(hk:k<s.drv.length){dec d:List Cd}(he:CK (Ef s k) (Aw dec)=true)(h:Lf x roots dec d):False:=by
 have hS:=h.sol hx;have hv:=Yx (s:=CP (Aw d)) hS.inc (fun y hy=>FE.2 (by
  obtain⟨c,hc,rfl⟩:=Ax.1 hy;obtain⟨t,e⟩:=h.pre<;>grind)) he
 have hn:=HP hS (d:=[]) (fun _ h=>by cases h) hd.der (Ef s k) (by
  simp_all)
 simp_all
end Go.Eng
