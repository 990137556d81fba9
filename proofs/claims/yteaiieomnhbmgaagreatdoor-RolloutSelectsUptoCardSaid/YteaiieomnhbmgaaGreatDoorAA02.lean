/- Lemmas 2. -/
import Derived.Test.YteaiieomnhbmgaaGreatDoorAA01
import Derived.Lib.SplitLaws
import Derived.Lib.IndexBytes
namespace Go.Eng
variable {s:List Tm}(m l:List Tm)(t:Tm)(p:ByteArray)
def YN:List Tm:=if m.any (fun u=>decide (u.path=t.path))then m.map (fun u=>if u.path=t.path then t else u)else m++[t]
def stepT:List Tm:=YN m (SD (DB m t.path) t)
def Dz:List Tm:=l.foldl stepT []
theorem jn:∀m:List Tm,DB (YN m t) p=if t.path=p then some t else DB m p:=by
 intro m;unfold YN
 by_cases h:(m.any fun u=>decide (u.path=t.path))=true
 .rw[Ax h]
  induction m with
  |nil=>simp_all
  |cons u m ih=>
   rw[Bq,ET,ET]
   by_cases e:u.path=t.path
   .rw[Ax e]
    by_cases ep:t.path=p
    .simp_all
    .rw[AA ep,AA ep,AA (fun c=>ep (e.symm.trans c))]
     by_cases hm:(m.any fun u=>decide (u.path=t.path))=true
     .simp_all
     .have:∀q∈m,q.path≠t.path:=fun q hq c=>hm (Ce.2 ⟨q,hq,by simp[c]⟩)
      have:m.map (fun u=>if u.path=t.path then t else u)=m:=by
       conv=>rhs;rw[<-Hp m]
       grind [List.map_congr_left]
      simp_all
   grind
 .rw[AA h];have hn:∀q∈m,q.path≠t.path:=fun q hq e=>h (Ce.2 ⟨q,hq,by simp[e]⟩)
  clear h
  induction m<;>grind [ET]
def E6:List ByteArray:=m.map (·.path)
open Classical in
theorem d8:E6 (YN m t)=if t.path∈E6 m then E6 m else E6 m++[t.path]:=by
 grind [YN,E6,List.map_congr_left]
theorem kc{m:List Tm}(h:(E6 m).Nodup)(t:Tm):(E6 (YN m t)).Nodup:=by
 grind [d8]
theorem RX(i:Nat)(h:i<l.length):Dz (l.take (i+1))=stepT (Dz (l.take i)) l[i]:=by
 grind [Dz,List.take_add_one]
theorem Pr:∀(l m:List Tm),(E6 m).Nodup->(E6 (l.foldl stepT m)).Nodup
 | [],_,h=>h
 |_::l,_,h=>Pr l _ (kc h _)
theorem H1:(E6 (Dz l)).Nodup:=Pr l [] .nil
theorem ai:DB (stepT m t) p=Kq p (DB m p) t:=by
 grind [stepT,Kq,Rd,Lu,jn]
theorem Pm(p:ByteArray):∀(l m:List Tm),DB (l.foldl stepT m) p=l.foldl (Kq p) (DB m p)
 | [],_=>rfl
 |t::l,m=>by rw[Gt,Gt,Pm p l,ai]
theorem dk:DB (Dz l) p=DB (Fy l) p:=by
 unfold Dz;rw[Pm,Ji];rfl
theorem RM{m:List Tm}(h:(E6 m).Nodup){t:Tm}:t∈m↔DB m t.path=some t:=by
 constructor
 .induction m<;>grind [E6,ET]
 .exact GM
theorem MJ{m:List Tm}(h:(E6 m).Nodup):m.Nodup:=by
 unfold E6 at h
 induction m<;>grind
theorem H7{l:List Tm}{lo:Option ByteArray}(h:BP lo l):(E6 l).Nodup:=by
 unfold E6
 induction l generalizing lo with
 |nil=>simp_all
 |cons t l ih=>
  rw[Bq,HN];refine⟨fun hm=>?_,ih h.2.2⟩;obtain⟨u,hu,e⟩:=Ay.1 hm
  have:=h.2.2.low u hu
  grind [Cm]
theorem Jr:t∈Dz l↔t∈Fy l:=by
 grind [RM,H1,dk,H7,ED]
theorem PK:∀t∈Dz l,EY t.set:=fun t ht=>(ED l).canon t ((Jr l t).1 ht)
theorem kX:(stepT m t).length<=m.length+1:=by
 grind [stepT,YN]
theorem Ol:∀i,i<=l.length->(Dz (l.take i)).length<=i:=by
 intro i
 induction i<;>grind [Dz,RX,kX]
theorem eU(hs:s.Pairwise fun x y=>Dq x.path y.path=true)(hc:∀t∈s,EY t.set):BP none s:=by
 have:∀(s:List Tm) (lo:Option ByteArray),s.Pairwise (fun x y=>Dq x.path y.path=true)->(∀t∈s,EY t.set)->(∀p,lo=some p->∀t∈s,Dq p t.path=true)->BP lo s:=by
  intro s
  induction s with
  |nil=>intro _ _ _ _;trivial
  |cons t s ih=>
   intro lo hs hc hl;obtain⟨h1,h2⟩:=BI.1 hs;exact⟨fun p e=>hl p e t (Ah ..),hc t (Ah ..),ih _ h2 (fun u hu=>hc u (Am _ hu)) fun p e u hu=>by simp_all⟩
 simp_all
theorem QE{l:List Tm}(q:Tm->Bool)(hp:s.Perm ((Dz l).filter q))(hs:s.Pairwise fun x y=>Dq y.path x.path=false):s=(Fy l).filter q:=by
 have hm:∀t,t∈s↔t∈(Fy l).filter q:=fun t=>by
  grind [Jr]
 have aD:(E6 s).Nodup:=by
  grind [E6,H1]
 have KP:s.Pairwise fun x y=>Dq x.path y.path=true:=by
  grind [List.pairwise_iff_getElem,Hd,E6]
 have hss:BP none s:=eU KP fun t ht=>(ED l).canon t (CY.1 ((hm t).1 ht)).1;have xi:BP none ((Fy l).filter q):=BP.filter q (ED l)
 grind [MW,DB,GA]
theorem cX:G4 t t=Mm t:=by grind [G4,Mm,dH]
theorem gU(o:Option Tm)(t:Tm):SD o t=G4 (o.getD t) t:=by cases o with | none=>exact(cX t).symm | some u=>rfl
theorem iJ{t:Tm}(h:EY t.set):(t.absent&&(Fc t.set).isEmpty)=Hc t:=by
 unfold Hc
 congr 1
 rw[Eu,L7,Bj];have ha:EY [(0,1000000)]:=⟨Bs _,by omega,Bs _,trivial⟩;constructor
 .intro e;refine HR h ha fun p=>?_
  have:=Gg t.set p
  grind [has,SB,BS]
 grind [QW,Hs,Gg,has,BS]
theorem oF{t:Tm}(h:EY t.set):(!t.absent&&(canon t.set).isEmpty)=IX t:=by grind [IX,JA]
end Go.Eng
namespace Go.Eng
open Go.Lib
theorem Rs(c:UInt8):∀(s:List UInt8) (k:Nat),s.count c<=k->splitK [c] 0 k s=CL c s
 | [],k,_=>by
  cases k with
  |zero=>rfl
  |succ k=>rfl
 |b::r,k,h=>by
  rw[CL]
  by_cases e:b=c
  .subst e;rw[List.count_cons_self]at h;obtain⟨k',rfl⟩:∃k',k=k'+1:=⟨k-1,by omega⟩;rw[Ax rfl,splitK,index_one,indexByte];simp only[beq_self_eq_true,if_true];rw[AA Wk];show []::splitK [b] 0 k' r=_;rw[Rs b r k' ch]
  .have Ef:(b == c)=false:=B0
   rw[List.count_cons_of_ne ch]at h;have ih:=Rs c r k h;rw[AA e];cases k with
   |zero=>
    rw[<-ih];rfl
   |succ k=>
    rw[<-ih,splitK,splitK,index_one,index_one,indexByte,Ef]
    by_cases h0:indexByte r c=-1
    .simp_all
    .have h1:(indexByte r c == -1)=false:=B0
     have h2:=indexByte_ge r c;have h3:(indexByte r c+1 == -1)=false:=aa0
     simp only[OJ,if_false,h1,h3];obtain⟨i,hi⟩:∃i:Nat,indexByte r c=i:=⟨(indexByte r c).toNat,by omega⟩<;>simp_all
theorem ZO(c:UInt8):∀(n:Nat) (s:List UInt8),s.length<=n->count s [c]=s.count c
 |n,s,hn=>by
  rcases Int.lt_or_le (indexByte s c) 0 with h | h
  .have h2:=indexByte_ge s c;have h3:indexByte s c=-1:=ch
   rw[count_miss (by grind [index_one])]
   symm
   rw[List.count_eq_zero];intro hm;obtain⟨k,hk,e⟩:=NF hm;exact indexByte_none h3 k B0
  .obtain⟨i,hi⟩:∃i:Nat,indexByte s c=i:=⟨(indexByte s c).toNat,by omega⟩;obtain⟨h1,h2⟩:=indexByte_some hi;obtain⟨hl,hg⟩:=Bf.1 h1;cases n with
   |zero=>omega
   |succ n=>
    have hc:=count_hit (s:=s) (sub:=[c]) (i:=i) Cl (by grind [index_one]);rw[hc];have ih:=ZO c n (s.drop (i+1)) aa0;have hsp:s=s.take i++c::s.drop (i+1):=by
     grind [List.drop_eq_getElem_cons,List.take_append_drop]
    grind [List.count_eq_zero,List.getElem_of_mem]
theorem kT(s:ByteArray)(c:UInt8):((splitB ⟨#[c]⟩ 0 (countB s ⟨#[c]⟩) s).map (·.data.toList))=CL c s.data.toList:=by
 rw[splitB_data];refine Rs c _ _ ?_;show _<=count s.data.toList [c];rw[ZO c _ _ (Ao _)];omega
end Go.Eng
namespace Go.Eng
variable {p:ByteArray}{x:List Rl}{roots:List Rq}{t:List Tm}{D:List Sl}{U:List ByteArray}{d:List (List Tm)}{l:List Tm}{k:Nat}{b:List Tm}{S:List Sl}{v:Ver}{i:Nf}{v':Ver}{r:Rl}{q:Rq}
theorem QX{α:Type}:∀{l m:List α},l.Nodup->(∀x∈l,x∈m)->l.length<=m.length
 | [],_,_,_=>Aj _
 |a::l,m,hn,hs=>by
  obtain⟨h1,h2⟩:=HN.1 hn;obtain⟨s,t,rfl⟩:=List.append_of_mem (hs a (Ah ..))
  have:l.length<=(s++t).length:=QX h2 fun x hx=>by
   grind
  grind
theorem LV(p:ByteArray):∀(l:List Tm) (o:Option Tm),(∀u∈l,u.path≠p)->l.foldl (Kq p) o=o
 | [],_,_=>rfl
 |t::l,o,h=>by
  rw[Gt,show Kq p o t=o by grind [Kq]];exact LV p l o fun u hu=>h u (Am _ hu)
theorem dR{t:Tm}(h:t∈Fy l):∃u∈l,u.path=t.path:=by
 grind [GA,ED,Ji,LV]
def Vz(U:List ByteArray)(t:List Tm):Prop:=BP none t/\∀u∈t,u.path∈U
theorem Vz.len(h:Vz U t):t.length<=U.length:=by
 have:=QX (H7 h.1) (m:=U) fun p hp=>by
  obtain⟨u,hu,rfl⟩:=Ay.1 hp;exact h.2 u hu
 grind [E6]
theorem cY{c:List Tm}(h:C3 l=some c){t:Tm}(ht:t∈c):t∈Fy l:=by
 grind [C3]
theorem QD{c:List Tm}(h:C3 l=some c)(hu:∀u∈l,u.path∈U):Vz U c:=
 ⟨E8 h,fun t ht=>by
  obtain⟨u,h1,h2⟩:=dR (cY h ht)<;>grind⟩
theorem Vz.nil(U:List ByteArray):Vz U []:=⟨trivial,fun u hu=>by cases hu⟩
theorem UP(hu:∀u∈l,u.path∈U):Vz U (QZ l):=by
 grind [QZ,C3,QD,Vz.nil]
theorem Sg{a:List Tm}(ha:Vz U a)(hb:Vz U b):Vz U (BG a b p).1:=by
 have sp:∀{l r:List Tm} {t:Tm},Vz U l->Fz l p=some (t,r)->t.path∈U/\∀u∈r,u.path∈U:=by
  intro l r t hl h;unfold Fz at h;cases e:C3 l with
  |none=>simp_all
  |some c=>
   rw[e]at h;have h:(match DB c p with | none=>none | some t=>some (t,Gb c p))=some (t,r):=h;have hc:=QD e hl.2;cases e2:DB c p with
   |none=>simp_all
   |some u=>
    rw[e2]at h;cases h;exact⟨hc.2 _ (GM e2),fun u hu=>hc.2 u (CY.1 hu).1⟩
 unfold BG;split
 .rename_i t r u m e1 e2;obtain⟨a1,a2⟩:=sp ha e1;obtain⟨b1,b2⟩:=sp hb e2;split
  .rename_i o e3;refine QD e3 fun v hv=>?_;rcases Bh.1 hv with hv | hv
   .grind
   .rw[AQ.1 hv];exact a1
  .exact .nil U
 .exact .nil U
def Kx(x:List Rl)(roots:List Rq)(l:List Nf):List ByteArray:=(x.map (·.path))++((x.map (·.reqs)).flatten.map (·.path)++(roots.map (·.path)++l.map (·.path)))
theorem jK{l:List Nf}(hi:i∈l)(hd:∀t∈d,Vz (Kx x roots l) t)(h:D0 x roots d i=some t):Vz (Kx x roots l) t:=by
 have hp:i.path∈Kx x roots l:=by
  grind [Kx]
 have nz:∀{α:Type} {l:List α} {k:Int} {a:α},Mb l k=some a->a∈l:=by
  grind [Mb]
 have n0:∀{a b:List Tm},jY a=some b->b=a:=by
  grind [jY]
 unfold D0 at h;split at h
 .split at h
  .cases e:Mb roots i.number with
   |none=>simp_all
   |some q=>
    rw[e]at h;cases h;refine UP fun u hu=>?_;rw[AQ.1 hu];unfold Kx;exact Cv _ (Cv _ (CE _ (Ay.2 ⟨q,nz e,rfl⟩)))
  simp_all
 split at h
 .split at h
  .cases e:Qc x i.path i.place with
   |none=>simp_all
   |some r=>
    rw[e]at h;have h:(match Mb r.reqs i.number with | none=>none | some q=>jY (EQ i.path i.place q))=some t:=h;cases e2:Mb r.reqs i.number with
    |none=>simp_all
    |some q=>
     rw[e2]at h;have h:=n0 (show jY (EQ i.path i.place q)=some t from h);subst h;refine UP fun u hu=>?_;rcases AZ.1 hu with rfl | hu
     .exact hp
     .rw[AQ.1 hu];unfold Kx;refine Cv _ (CE _ (Ay.2 ⟨q,?_,rfl⟩));exact G2.2 ⟨r.reqs,Ay.2 ⟨r,AX e,rfl⟩,nz e2⟩
  simp_all
 split at h
 .split at h
  .have h:=n0 h;subst h;refine UP fun u hu=>?_;simp_all
  simp_all
 grind [Sg]
def xy:List (List UInt8):=[[97,110,100],[97,110,121],[97,115],[98,111,111,108],[100,101,112,114,101,99,97,116,101,100],[101,108,115,101],[101,120,112,111,114,116],[102,97,108,115,101],[102,110],[102,111,108,100],[102,114,111,109],[105,102],[105,109,112,111,114,116],[105,110],[105,110,116],[108,101,110,103,116,104],[108,101,116],[108,105,115,116],[109,97,116,99,104],[109,111,100,117,108,101],[110,111,110,101],[110,111,116],[111,114],[116,101,120,116],[116,104,101,110],[116,114,117,101],[116,121,112,101],[117,115,101]]
theorem jO:dL=32::xy.flatMap (fun w=>w++[32]):=by decide +kernel
theorem xz:∀w∈xy,∀c∈w,c≠32:=by decide +kernel
theorem Xc:∀(s w r:List UInt8),(∀c∈s,c≠32)->(∀c∈w,c≠32)->Qb (s++[32]) (w++32::r)=decide (w=s)
 | [],[],r,_,_=>by simp[Qb]
 | [],b::w,r,_,hw=>by
  grind [Qb]
 |a::s,[],r,hs,_=>by
  grind [Qb]
 |a::s,b::w,r,hs,hw=>by
  have ih:=Xc s w r (fun c hc=>hs c (Am _ hc)) (fun c hc=>hw c (Am _ hc))
  grind [Qb]
theorem aK(x:List UInt8):∀(w r:List UInt8),(∀c∈w,c≠32)->qL (32::x) (w++r)=qL (32::x) r
 | [],_,_=>rfl
 |b::w,r,h=>by
  have hb:=h b (Ah ..);rw[G0,qL,aK x w r (fun c hc=>h c (Am _ hc))]
  grind [Qb]
theorem WH(s:List UInt8)(hs:∀c∈s,c≠32):∀ws:List (List UInt8),(∀w∈ws,∀c∈w,c≠32)->qL (32::(s++[32])) (32::ws.flatMap (fun w=>w++[32]))=ws.any (fun w=>decide (w=s))
 | [],_=>by
  cases s<;>grind [qL,Qb]
 |w::ws,h=>by
  have hw:=h w (Ah ..);have ih:=WH s hs ws (fun v hv=>h v (Am _ hv))
  grind [qL,Qb,Xc,aK]
theorem um{s:List UInt8}(h:s.all FO=true):∀c∈s,c≠32:=fun c hc e=>by
 have:=AS.1 h c hc
 rw[e]at this;exact absurd this Wk
theorem dK{s:List UInt8}(h:s.all FO=true):VL s=xy.any (fun w=>decide (w=s)):=by
 unfold VL;rw[jO,WH s (um h) xy xz]
theorem od(s:A7)(x:Int×Int)(k:Nat){t:A7}(h:s.Perm t):(s.take k++([x]++s.drop k)).Perm (t++[x]):=by
 grind [List.take_append_drop]
theorem Uv(s:A7)(x:Int×Int)(k:Nat)(hs:s.Pairwise fun a b=>a.1<=b.1)(h1:∀j (hj:j<s.length),k<=j->x.1<s[j].1)(h2:k=0\/∃h:k-1<s.length,s[k-1].1<=x.1):(s.take k++([x]++s.drop k)).Pairwise fun a b=>a.1<=b.1:=by
 have hlo:∀a∈s.take k,a.1<=x.1:=fun a ha=>by
  grind [List.getElem_of_mem,List.pairwise_iff_getElem]
 have hhi:∀b∈s.drop k,x.1<=b.1:=fun b hb=>by
  grind [List.getElem_of_mem]
 grind
structure Cd where
 place:Int
 rel:Rl
variable {c:Cd}{E:List Cd}
structure Nd where
 rq:Rq
 path:ByteArray
 place:Int
 number:Int
variable {needs:List Nd}(n:Nd)
structure SS where
 infs:List Nf
 drv:List (List Tm)
 full:Bool
variable {s':SS}(s:SS)
abbrev VM(c:Cd):Sl:=⟨c.rel.path,c.rel.ver⟩
abbrev AP(l:List Cd):List Sl:=l.map VM
def Cp(x:List Rl)(p:ByteArray):List Cd:=(x.filter fun r=>decide (r.path=p)&&!r.yanked).map fun r=>⟨plc r.ver,r⟩
def ML(f:Rq->Nat->Nd):Nat->List Rq->List Nd
 |_,[]=>[]
 |i,q::l=>f q i::ML f (i+1) l
def bQ(roots:List Rq):List Nd:=ML (fun q i=>⟨q,mt,0,i⟩) 0 roots
def Rf(c:Cd):List Nd:=ML (fun q i=>⟨q,c.rel.path,c.place,i⟩) 0 c.rel.reqs
def Dw(roots:List Rq)(dec:List Cd):List Nd:=bQ roots++(dec.map Rf).flatten
def DT(dec:List Cd)(p:ByteArray):Bool:=dec.any fun c=>decide (c.rel.path=p)
def EA(dec:List Cd)(a:ByteArray×List Nd)(n:Nd):ByteArray×List Nd:=
 if DT dec n.rq.path=true\/(a.2≠[]/\Dq a.1 n.rq.path=true)then a
 else if a.2≠[]/\Dq n.rq.path a.1=true then(n.rq.path,[n])else(n.rq.path,a.2++[n])
def GS(roots:List Rq)(dec:List Cd):ByteArray×List Nd:=(Dw roots dec).foldl (EA dec) (mt,[])
def gz(l:List Cd)(n:Nd):Bool:=l.any fun d=>decide (d.rel.path=n.rq.path)&&!has n.rq.set d.place
def Ek(dec:List Cd)(c:Cd):Option Nd:=(Rf c).find? (gz (dec++[c]))
def Pg(s:List Sl):Nat->List (List Tm)->Option Nat
 |_,[]=>none
 |i,t::l=>if CH t s then some i else Pg s (i+1) l
def Ph(d:List (List Tm))(s:List Sl):Option Nat:=Pg s 0 d
def DL(l:List Tm)(p:ByteArray):Bool:=l.any fun t=>decide (t.path=p)
instance:DecidableEq Nf:=fun a b=>by
 obtain⟨a1,a2,a3,a4,a5,a6⟩:=a;obtain⟨b1,b2,b3,b4,b5,b6⟩:=b;exact decidable_of_iff (a1=b1/\a2=b2/\a3=b3/\a4=b4/\a5=b5/\a6=b6) ⟨fun⟨h1,h2,h3,h4,h5,h6⟩=>by simp_all,fun h=>by simp_all⟩
def Md(i:Nf):Nat->List Nf->Option Nat
 |_,[]=>none
 |k,j::l=>if j=i then some k else Md i (k+1) l
def E4(i:Nf)(l:List Tm):Nat×SS:=
 match Md i 0 s.infs with
 |some k=>(k,s)
 |none=>if 65536<=s.infs.length then(s.infs.length-1,⟨s.infs,s.drv,true⟩)else(s.infs.length,⟨s.infs++[i],s.drv++[l],s.full⟩)
def VJ:Nf:=if n.path=mt then⟨0,mt,0,n.number,0,0⟩else⟨1,n.path,n.place,n.number,0,0⟩
def JE:List Tm:=if n.path=mt then JP n.rq else EQ n.path n.place n.rq
def Bx(n:Nd):Nat×SS:=E4 s (VJ n) (JE n)
abbrev EP(k:Nat):List Tm:=s.drv.getD k []
def Cg(p:ByteArray):List Nat->Nat->SS->Nat×SS
 | [],k,s=>(k,s)
 |r::l,k,s=>
  if s.full=true\/DL (EP s k) p=false then(k,s)
  else if r=k then Cg p l k s
  else if(BG (EP s k) (EP s r) p).2≠0 then Cg p l k s
  else Cg p l (E4 s ⟨3,p,0,0,k,r⟩ (BG (EP s k) (EP s r) p).1).1 (E4 s ⟨3,p,0,0,k,r⟩ (BG (EP s k) (EP s r) p).1).2
def EK(x:List Rl)(p:ByteArray)(s:SS):Nat×SS:=E4 s ⟨2,p,0,0,0,0⟩ (Ie p (B3 x p))
def Ea(x:List Rl)(p:ByteArray)(n:Nd)(FX:List Nat)(s:SS):Nat×SS:=
 Cg p ((EK x p (Bx s n).2).1::FX) (Bx s n).1 (EK x p (Bx s n).2).2
structure Ld where
 res:Nat
 found:Bool
 ss:SS
 dec:List Cd
 stack:List (List Sk)
def Ew(rec:List Cd->SS->List (List Sk)->Ld)(x:List Rl)(p:ByteArray)(needs:List Nd)(n0:Nd)(dec:List Cd)(stack:List (List Sk)):List Cd->SS->List Nat->List Sk->Ld
 | [],s,FX,_=>⟨(Ea x p n0 FX s).1,false,(Ea x p n0 FX s).2,dec,stack⟩
 |c::cs,s,FX,skips=>
  let after (k:Nat) (s:SS):Ld:=if DL (EP s k) p=false then⟨k,false,s,dec,stack⟩else Ew rec x p needs n0 dec stack cs s (FX++[k]) (skips++[⟨p,c.place,k⟩])
  if s.full=true then⟨0,false,s,dec,stack⟩
  else match needs.find? fun n=>!has n.rq.set c.place with
   |some n=>Ew rec x p needs n0 dec stack cs (Bx s n).2 (FX++[(Bx s n).1]) skips
   |none=>match Ph s.drv (AP (dec++[c]))with
    |some k=>after k s
    |none=>match Ek dec c with
     |some n=>after (Bx s n).1 (Bx s n).2
     |none=>
      let o:=rec (dec++[c]) s (stack++[skips])
      if o.found=true then⟨0,true,o.ss,o.dec,o.stack⟩
      else if o.ss.full=true then⟨0,false,o.ss,dec,stack⟩
      else after o.res o.ss
def Dc(x:List Rl)(roots:List Rq):Nat->List Cd->SS->List (List Sk)->Ld
 |0,dec,s,stack=>⟨0,false,s,dec,stack⟩
 |n+1,dec,s,stack=>match(GS roots dec).2 with
  | []=>⟨0,true,s,dec,stack⟩
  |n0::l=>Ew (Dc x roots n) x (GS roots dec).1 (n0::l) n0 dec stack (Cp x (GS roots dec).1) s [] []
abbrev ss0:SS:=⟨[],[],false⟩
def RO(x:List Rl)(dec:List Cd):Nat:=(x.filter fun r=>!r.yanked&&!DT dec r.path).length
def EW(x:List Rl)(roots:List Rq):Ld:=Dc x roots (x.length+1) [] ss0 []
theorem PR(f:Rq->Nat->Nd):∀(l:List Rq) (i k:Nat),(ML f i l)[k]?=(l[k]?).map fun q=>f q (i+k)
 | [],i,k=>by simp[ML]
 |q::l,i,0=>by simp[ML]
 |q::l,i,k+1=>by
  have h:=PR f l (i+1) k
  grind [ML]
theorem MM(f:Rq->Nat->Nd):∀(l:List Rq) (i:Nat),(ML f i l).length=l.length
 | [],_=>rfl
 |_::l,i=>by simp[ML,MM f l (i+1)]
theorem PS{f:Rq->Nat->Nd}{l:List Rq}{n:Nd}(h:n∈ML f 0 l):∃k q,l[k]?=some q/\n=f q k:=by
 grind [List.mem_iff_getElem?,PR]
theorem SU{f:Rq->Nat->Nd}(hf:∀q i,(f q i).rq=q):∀(l:List Rq) (i:Nat),(ML f i l).map (·.rq)=l
 | [],_=>rfl
 |q::l,i=>by simp[ML,hf,SU hf l (i+1)]
abbrev Kn(roots:List Rq)(dec:List Cd):List Rq:=roots++(dec.map fun c=>c.rel.reqs).flatten
theorem Ni(roots:List Rq)(dec:List Cd):(Dw roots dec).map (·.rq)=Kn roots dec:=by
 unfold Dw bQ;rw[Ar,SU (fun _ _=>rfl),List.map_flatten,Bw]
 congr 2
 exact CC fun c _=>SU (fun _ _=>rfl) _ _
theorem Gw(dec:List Cd)(p:ByteArray):CO (AP dec) p=DT dec p:=by
 grind [CO,DT,List.any_map]
theorem JL(before:List Sl):∀{l:List Rq} {a p:ByteArray},DD before l (some a)=some p->p=a\/Dq p a=true
 | [],a,p,h=>by cases h<;>simp_all
 |q::l,a,p,h=>by
  unfold DD at h;split at h
  .exact JL before h
  .dsimp only at h;split at h
   .rename_i hb;rcases JL before h with e | e<;>grind [DF]
   .exact JL before h
theorem IL(before:List Sl):∀{l:List Rq} {a:ByteArray},DD before l (some a)≠none
 | [],a=>by simp[DD]
 |q::l,a=>by
  unfold DD;split
  .exact IL before
  .dsimp only;split<;>exact IL before
theorem Nk(dec:List Cd):∀(L:List Nd) (a:ByteArray×List Nd),(a.2≠[]->DT dec a.1=false) ->
  L.foldl (EA dec) a=match DD (AP dec) (L.map (·.rq)) (if a.2=[]then none else some a.1)with
   |none=>a
   |some p=>(p,(if a.2≠[]/\a.1=p then a.2 else [])++L.filter fun n=>decide (n.rq.path=p))
 | [],a,h=>by
  grind [DD]
 |n::L,a,h=>by
  obtain⟨p0,o⟩:=a;rw[Gt,Bq];have Aii:∀(acc:Option ByteArray) (l:List Rq),(∀p,acc=some p->DT dec p=false)->∀p,DD (AP dec) l acc=some p->DT dec p=false:=fun acc l ha p hp=>by
   grind [Kj,Gw]
  cases hd:DT dec n.rq.path with
  |true=>
   have e1:EA dec (p0,o) n=(p0,o):=by grind [EA]
   have e2:DD (AP dec) (n.rq::L.map (·.rq)) (if o=[]then none else some p0)=DD (AP dec) (L.map (·.rq)) (if o=[]then none else some p0):=by
    grind [DD,Gw]
   rw[e1,e2,Nk dec L (p0,o) h];dsimp only;cases hg:DD (AP dec) (L.map (·.rq)) (if o=[]then none else some p0)<;>grind [DD]
  |false=>
   have aD:CO (AP dec) n.rq.path=false:=by grind [Gw]
   by_cases ho:o=[]
   .subst ho;have e1:EA dec (p0,[]) n=(n.rq.path,[n]):=by
     grind [EA]
    have e2:DD (AP dec) (n.rq::L.map (·.rq)) none=DD (AP dec) (L.map (·.rq)) (some n.rq.path):=by
     grind [DD]
    rw[e1,Nk dec L (n.rq.path,[n]) (fun _=>hd),Ax rfl,e2]
    grind [IL]
   .have hif:(if o=[]then none else some p0)=some p0:=AA ho;rw[hif];cases hb:Dq p0 n.rq.path with
    |true=>
     have e1:EA dec (p0,o) n=(p0,o):=by grind [EA]
     have dz:Dq n.rq.path p0=false:=Jn hb;have e2:DD (AP dec) (n.rq::L.map (·.rq)) (some p0)=DD (AP dec) (L.map (·.rq)) (some p0):=by
      grind [DD]
     rw[e1,e2,Nk dec L (p0,o) h]
     grind [JL]
    |false=>
     cases dz:Dq n.rq.path p0 with
     |true=>
      have e1:EA dec (p0,o) n=(n.rq.path,[n]):=by
       grind [EA]
      have e2:DD (AP dec) (n.rq::L.map (·.rq)) (some p0)=DD (AP dec) (L.map (·.rq)) (some n.rq.path):=by
       grind [DD]
      rw[e1,e2,Nk dec L (n.rq.path,[n]) (fun _=>hd),AA Cl]
      grind [IL,JL]
     |false=>
      have e0:n.rq.path=p0:=Hd dz hb;have e1:EA dec (p0,o) n=(p0,o++[n]):=by
       grind [EA]
      have e2:DD (AP dec) (n.rq::L.map (·.rq)) (some p0)=DD (AP dec) (L.map (·.rq)) (some p0):=by
       grind [DD]
      rw[e1,e2,Nk dec L (p0,o++[n]) (fun _=>by simp_all),AA Cl];cases hg:DD (AP dec) (L.map (·.rq)) (some p0)<;>grind [IL]
theorem UG(roots:List Rq)(dec:List Cd):GS roots dec=match L1 (Kn roots dec) (AP dec)with
  |none=>(mt,[])
  |some p=>(p,(Dw roots dec).filter fun n=>decide (n.rq.path=p)):=by
 grind [GS,L1,Nk,Ni]
theorem UH{dec:List Cd}:(GS roots dec).2=[]↔L1 (Kn roots dec) (AP dec)=none:=by
 rw[UG];cases h:L1 (Kn roots dec) (AP dec)with
 |none=>simp
 |some p=>
  simp only[reduceCtorEq,iff_false];obtain⟨_,q,hq,e⟩:=UI h;rw[<-Ni]at hq;obtain⟨n,hn,rfl⟩:=Ay.1 hq;exact List.ne_nil_of_mem (CY.2 ⟨hn,by simp_all⟩)
structure fo(roots:List Rq)(dec:List Cd)(p:ByteArray)(l:List Nd):Prop where
 next:L1 (Kn roots dec) (AP dec)=some p
 undone:DT dec p=false
 mem:∀n,n∈l↔n∈Dw roots dec/\n.rq.path=p
theorem Ot{dec:List Cd}{n0:Nd}{l:List Nd}(h:(GS roots dec).2=n0::l):fo roots dec (GS roots dec).1 (n0::l):=by
 rw[<-h];rw[UG]at *
 cases hp:L1 (Kn roots dec) (AP dec)with
 |none=>simp_all
 |some p=>
  dsimp only;refine⟨hp,by rw[<-Gw];grind [UI],fun n=>?_⟩
  grind
theorem Ll:c∈Cp x p↔∃r∈x,r.path=p/\r.yanked=false/\c=⟨plc r.ver,r⟩:=by
 grind [Cp]
theorem Ns{i:Nf}:∀{l:List Nf} {k m:Nat},Md i k l=some m->∃j,m=k+j/\l[j]?=some i
 | [],_,_,h=>by cases h
 |y::l,k,m,h=>by
  unfold Md at h;split at h
  .simp_all
  .obtain⟨j,h1,h2⟩:=Ns h;exact⟨j+1,by omega,h2⟩
theorem Rc{i:Nf}:∀{l:List Nf} {k:Nat},Md i k l=none->i∉l
 | [],_,_=>by simp
 |y::l,k,h=>by
  unfold Md at h;split at h
  .cases h
  .rename_i e
   have:=Rc h
   grind
theorem bz{α:Type}{d d' : List α}{i:Int}{a:α}(h:Mb d i=some a)(hp:d <+: d'):Mb d' i=some a:=by
 unfold Mb at *
 split at h
 .cases h
 .rename_i hi;rw[AA hi];obtain⟨t,rfl⟩:=hp<;>grind
theorem aM{d':List (List Tm)}{o:List Tm}(h:D0 x roots d i=some o)(hp:d <+: d'):D0 x roots d' i=some o:=by
 grind [D0,bz]
structure EZ(x:List Rl)(roots:List Rq)(s:SS):Prop where
 der:Du x roots s.infs []=some s.drv
 len:s.infs.length<=65536
theorem EZ.dlen{s:SS}(h:EZ x roots s):s.drv.length=s.infs.length:=by simpa using Jf h.der
theorem EZ.nil(x:List Rl)(roots:List Rq):EZ x roots ss0:=⟨rfl,by simp⟩
theorem EZ.at{x:List Rl}{roots:List Rq}{s:SS}(h:EZ x roots s){k:Nat}{i:Nf}(hk:s.infs[k]?=some i):D0 x roots s.drv i=some (s.drv.getD k []):=by
 have h1:=NJ h.der (k+1);have h0:=NJ h.der k;have EU:=(Bf.1 hk).1;rw[DI,hk,He,h0]at h1
 grind [Du,List.take_succ_eq_append_getElem,List.append_cancel_left,aM]
structure Grow(s s' : SS):Prop where
 pre:s.drv <+: s'.drv
 preI:s.infs <+: s'.infs
 full:s.full=true->s'.full=true
theorem Grow.refl:Grow s s:=⟨List.prefix_rfl,List.prefix_rfl,id⟩
theorem Grow.trans{a b c:SS}(h:Grow a b)(k:Grow b c):Grow a c:=⟨h.pre.trans k.pre,h.preI.trans k.preI,fun e=>k.full (h.full e)⟩
theorem Grow.at{s:SS}(h:Grow s s')(hk:k<s.drv.length):EP s' k=EP s k:=by
 obtain⟨t,e⟩:=h.pre<;>grind
theorem Grow.len{s:SS}(h:Grow s s'):s.drv.length<=s'.drv.length:=h.pre.length_le
theorem KI(i:Nf)(l:List Tm):Grow s (E4 s i l).2:=by
 grind [E4,Grow.mk]
theorem KH{s:SS}(h:EZ x roots s)(hi:D0 x roots s.drv i=some l) :
  EZ x roots (E4 s i l).2/\(E4 s i l).1<(E4 s i l).2.drv.length/\((E4 s i l).2.full=false->EP (E4 s i l).2 (E4 s i l).1=l):=by
 grind [E4,Ns,Du,He,EZ.dlen,EZ.at,EZ.mk,EZ.der,EZ.len]
theorem TT(S:List Sl):∀{l:List (List Tm)} {i k:Nat},Pg S i l=some k->∃j,k=i+j/\∃t,l[j]?=some t/\CH t S=true
 | [],_,_,h=>by cases h
 |t::l,i,k,h=>by
  unfold Pg at h;split at h
  .simp_all
  .obtain⟨j,h1,t',h2,h3⟩:=TT S h;exact⟨j+1,by omega,t',h2,h3⟩
theorem KN(h:Ph d S=some k):k<d.length/\CH (d.getD k []) S=true:=by
 obtain⟨j,h1,t,h2,h3⟩:=TT S h<;>grind
theorem Mp:∀{l:List Rq} {b:Option ByteArray},D7 b l=0->∀q∈l,q.set≠[]/\EY q.set
 | [],_,_,q,hq=>by cases hq
 |r::l,b,h,q,hq=>by
  unfold D7 at h;split at h
  .rename_i e;rcases AZ.1 hq with rfl | hq
   .unfold GZ at e
    grind [B6]
   .exact Mp h q hq
  omega
theorem Ln{l:List Rq}(h:A8 l=0):∀q∈l,q.set≠[]/\EY q.set:=by
 grind [A8,Mp]
abbrev ff(k:Int):Ver:=⟨0,k / 1000,k % 1000⟩
theorem Ho(k:Int):place (ff k)=k:=by grind [place]
theorem Fg{k:Int}(h:0<=k/\k<1000000):BN (ff k)=true:=by
 grind [BN,okPart]
structure Vs(D:List Sl)(p:ByteArray)(S:List Sl):Prop where
 val:Gk S
 same:∀q,q≠p->BE S q=BE D q
abbrev MO(D:List Sl)(p:ByteArray)(v:Ver):List Sl:=D++[⟨p,v⟩]
theorem VF(a b:List Sl)(p:ByteArray):BE (a++b) p=(BE a p).or (BE b p):=by
 grind [BE]
theorem HW{s:List Sl}(h:CO s p=false):BE s p=none:=by
 grind [Ke,BE]
theorem Vs.self(h:Gk D):Vs D p D:=⟨h,fun _ _=>rfl⟩
theorem Vs.ver(h:Gk D)(hv:BN v=true):Vs D p (MO D p v):=by
 refine⟨fun y hy=>?_,fun q hq=>?_⟩
 .rcases Bh.1 hy with hy | hy
  .exact h y hy
  simp_all
 grind [BE]
theorem Ju(hp:CO D p=false)(v:Ver):BE (MO D p v) p=some ⟨p,v⟩:=by
 grind [VF,HW,BE]
theorem aF(hp:CO D p=false)(hv:BN v=true)(hv' : BN v'=true)(e:place v=place v')(q:ByteArray)(t:Tm) :
  Dg t (BE (MO D p v) q)=Dg t (BE (MO D p v') q):=by
 by_cases hq:q=p
 .subst hq;rw[Ju hp,Ju hp];show(BN v&&has t.set (place v))=(BN v'&&has t.set (place v'));simp_all
 grind [BE]
theorem fe(hp:CO D p=false)(hv:BN v=true)(hv' : BN v'=true)(e:place v=place v')(t:List Tm):A9 t (MO D p v)=A9 t (MO D p v'):=by
 grind [Br,aF]
theorem Lb{S':List Sl}(h:Vs D p S)(h' : Vs D p S')(ht:∀u∈t,u.path≠p):A9 t S=A9 t S':=by
 rw[Eu,Br,Br];exact⟨fun k u hu=>by rw[h'.same _ (ht u hu),<-h.same _ (ht u hu)];simp_all,fun k u hu=>by rw[h.same _ (ht u hu),<-h'.same _ (ht u hu)];simp_all⟩
theorem Kb(h:DL t p=false):∀u∈t,u.path≠p:=fun u hu e=>by
 grind [DL]
theorem TM(h:DL t p=true):∃u∈t,u.path=p:=by
 grind [DL]
theorem Vl(hf:Form t)(hc:DL t p=true):∃u r,Fz t p=some (u,r)/\u.path=p/\∀v∈r,v.path≠p:=by
 obtain⟨u,hu,e⟩:=TM hc;have hs:=E8 hf;have hfd:=(GA hs).1 hu;rw[e]at hfd;refine⟨u,Gb t p,?_,e,fun v hv=>?_⟩
 .unfold Fz;rw[show C3 t=some t from hf];simp_all
 .have:=(CY.1 hv).2
  simp_all
theorem YR(Yq:Form t)(wU:Form b)(hct:DL t p=true)(hcb:DL b p=true){S1 S2:List Sl}(h1:Vs D p S1)(v1:A9 t S1=true)(h2:Vs D p S2)(v2:A9 b S2=true) :
  (BG t b p).2=0/\∀S,Vs D p S->A9 t S=true\/A9 b S=true->A9 (BG t b p).1 S=true:=by
 obtain⟨u,r,e1,pu,nr⟩:=Vl Yq hct;obtain⟨w,m,e2,pw,nm⟩:=Vl wU hcb;have key:∀S,Vs D p S->A9 t S=true\/A9 b S=true->A9 (r++m++[Ds u w]) S=true:=fun S hS hv=>by
  have r1:A9 r S=true:=by
   rw[Lb hS h1 nr];rw[(GI h1.val e1).1,At]at v1;simp_all
  have m1:A9 m S=true:=by
   rw[Lb hS h2 nm];rw[(GI h2.val e2).1,At]at v2;simp_all
  rw[Hh,Hh,r1,m1]
  grind [Br,Ds,NQ,GI,Vs.val]
 unfold BG
 grind [Dj,Vs.val]
theorem oL(hp:CO D p=false)(hf:Form t)(h0:A9 t D=true)(hk:∀k:Int,0<=k->k<1000000->A9 t (MO D p (ff k))=true):DL t p=false:=by
 rw[BY];intro hc;obtain⟨u,hu,e⟩:=TM hc;have ha:u.absent=true:=by
  have:=Br.1 h0 u hu
  rw[e,HW hp]at this;exact this
 have hs:∀k:Int,0<=k->k<1000000->has u.set k=true:=fun k k0 k1=>by
  grind [Br,Ju,Dg,Ho]
 have hcn:EY u.set:=BP.canon (E8 hf) u hu;have nG:u.set=[(0,1000000)]:=by
  refine HR hcn ⟨by decide,by decide,by decide,trivial⟩ fun k=>?_;rw[Eu];constructor
  .intro h
   have:=QN h
   grind [has,BS]
  grind [QN]
 have nB:Hc u=true:=by grind [Hc]
 have hf2:C3 t=some t:=hf
 grind [C3]
structure DH(x:List Rl)(dec:List Cd):Prop where
 cand:∀c∈dec,c.rel∈x/\c.rel.yanked=false/\c.place=plc c.rel.ver
 nodup:(dec.map fun c=>c.rel.path).Nodup
theorem DH.nil(x:List Rl):DH x []:=⟨fun _ h=>(by cases h),ON⟩
theorem UT(h:KG r):r.path≠mt:=fun e=>by
 have:=h.maj
 rw[e]at this;have h2:Bc mt=none:=Wk
 simp_all
theorem KG.set{r:Rl}(h:KG r):∀q∈r.reqs,q.set≠[]/\EY q.set:=Ln h.reqs
theorem Oi(dec:List Cd):(AP dec).map (·.path)=dec.map fun c=>c.rel.path:=B0
theorem GB:∀{D:List Sl},(D.map (·.path)).Nodup->∀{y:Sl},y∈D->BE D y.path=some y
 | [],_,y,h=>by cases h
 |z::D,hn,y,h=>by
  simp only[Bq,HN]at hn;unfold BE;rw[List.find?_cons];rcases AZ.1 h with rfl | h
  .simp_all
  .have:z.path≠y.path:=fun e=>hn.1 (Ay.2 ⟨y,h,e.symm⟩)
   rw[Aw this];exact GB hn.2 h
theorem DH.find{dec:List Cd}(h:DH x dec)(hc:c∈dec):BE (AP dec) c.rel.path=some (VM c):=
 GB (by rw[Oi];exact h.nodup) (y:=VM c) (Ay.2 ⟨c,hc,rfl⟩)
theorem DH.valid(hx:AL x=0){dec:List Cd}(h:DH x dec):Gk (AP dec):=fun y hy=>by
 obtain⟨c,hc,rfl⟩:=Ay.1 hy;exact((B7 hx).1 _ (h.cand c hc).1).val
theorem DH.snoc{dec:List Cd}(h:DH x dec)(hc:c.rel∈x/\c.rel.yanked=false/\c.place=plc c.rel.ver)(hd:DT dec c.rel.path=false):DH x (dec++[c]):=by
 refine⟨fun d hd=>?_,?_⟩
 all_goals grind [DT,DH.cand,DH.nodup]
theorem MI{n:Nd}(h:n∈Dw roots E):(∃k q,roots[k]?=some q/\n=⟨q,mt,0,(k:Nat)⟩)\/∃c∈E,∃k q,c.rel.reqs[k]?=some q/\n=⟨q,c.rel.path,c.place,(k:Nat)⟩:=by
 unfold Dw at h;rcases Bh.1 h with h | h
 .obtain⟨k,q,h1,h2⟩:=PS h<;>grind [PS]
 .obtain⟨l,hl,hn⟩:=G2.1 h;obtain⟨c,hc,rfl⟩:=Ay.1 hl;obtain⟨k,q,h1,h2⟩:=PS hn<;>grind [PS]
theorem On{dec:List Cd}{n:Nd}(h:n∈Dw roots dec):n∈Dw roots (dec++[c]):=by
 grind [Dw]
theorem Nj{dec:List Cd}{n:Nd}(h:n∈Rf c):n∈Dw roots (dec++[c]):=by
 grind [Dw]
def NA:List Tm:=if n.path=mt then [DE n.rq]else [⟨n.path,false,[(n.place,n.place+1)]⟩,DE n.rq]
theorem PD:JE n=QZ (NA n):=by grind [JE,NA,JP,EQ]
theorem g8{s:A7}(h:s≠[])(hc:EY s):∃k,has s k=true:=by
 match s,h,hc with
 |x::r,_,hc=>
  have:=ER.low hc x (Ah ..)
  refine⟨x.1,?_⟩
  grind [has,BS]
theorem Sd{o:Option Sl}(h:o=none\/∃y,o=some y/\BN y.ver=true/\has q.set (place y.ver)=false):Dg (DE q) o=true:=by
 rcases h with rfl | ⟨y,rfl,hv,hq⟩
 .rfl
 .show(BN y.ver&&has (Fc q.set) (place y.ver))=true
  grind [JO,Gg,SB]
theorem UR{y:Sl}(hq:has q.set (place y.ver)=true):Dg (DE q) (some y)=false:=by
 show(BN y.ver&&has (Fc q.set) (place y.ver))=false
 grind [Gg]
structure zO(x:List Rl)(roots:List Rq)(S:List Sl)(n:Nd):Prop where
 inf:∀d,D0 x roots d (VJ n)=some (JE n)
 viol:A9 (JE n) S=true
 raw:∀S',Gk S'->A9 (JE n) S'=A9 (NA n) S'
 form:Form (JE n)
 inU:∀U:List ByteArray,(n.path≠mt->n.path∈U)->n.rq.path∈U->Vz U (JE n)
 path:n.path≠mt->CO S n.path=true
theorem SN(hx:AL x=0)(hr:A8 roots=0)(hE:DH x E){n:Nd}(hn:n∈Dw roots E)(hv:BE (AP E) n.rq.path=none\/∃y,BE (AP E) n.rq.path=some y/\has n.rq.set (place y.ver)=false):zO x roots (AP E) n:=by
 have hV:=hE.valid hx;have xa:Dg (DE n.rq) (BE (AP E) n.rq.path)=true:=Sd (hv.imp id fun⟨y,h1,h2⟩=>⟨y,h1,hV y (Lt h1),h2⟩)
 -- the raw list is A9 here,and not elsewhere
 have Oe:n.rq.set≠[]/\EY n.rq.set:=by
  rcases MI hn with ⟨k,q,h1,rfl⟩ | ⟨c,hc,k,q,h1,rfl⟩
  .grind [Ln]
  .exact((B7 hx).1 _ (hE.cand c hc).1).set q (AG h1)
 have nO:A9 (NA n) (AP E)=true/\(n.path≠mt->CO (AP E) n.path=true):=by
  rcases MI hn with ⟨k,q,h1,rfl⟩ | ⟨c,hc,k,q,h1,rfl⟩
  .refine⟨?_,fun h=>absurd rfl h⟩;unfold NA;rw[Ax rfl,Br];intro u hu;rw[AQ.1 hu];exact xa
  .have Ef:=UT ((B7 hx).1 _ (hE.cand c hc).1);refine⟨?_,fun _=>by grind [Ke,DH.find]⟩;unfold NA;rw[AA Ef,Br];intro u hu;rcases AZ.1 hu with rfl | hu
   .show Dg _ (BE (AP E) c.rel.path)=true;rw[hE.find hc];show(BN c.rel.ver&&has [(c.place,c.place+1)] (place c.rel.ver))=true;have GX:=(B7 hx).1 _ (hE.cand c hc).1;have hp:=JO GX.val;rw[GX.val,(hE.cand c hc).2.2,GX.plc]
    grind [has,BS]
   .rw[AQ.1 hu];exact xa
 have AfK:∃S',Gk S'/\A9 (NA n) S'=false:=by
  unfold NA;split
  .obtain⟨k,hk⟩:=g8 Oe.1 Oe.2;have lz:=QN hk;refine⟨[⟨n.rq.path,ff k⟩],fun y hy=>by grind [Fg],?_⟩;rw[BY];intro h
   have:=Br.1 h (DE n.rq) (AQ.2 rfl)
   grind [DE,BE,UR,Ho]
  .refine⟨[],fun y hy=>(by cases hy),?_⟩;rw[BY];intro h
   have:=Br.1 h _ (Ah ..)
   cases this
 obtain⟨nO,Abb⟩:=nO;have Ef:QZ (NA n)≠[]:=by
  obtain⟨S',v',n'⟩:=AfK;have c1:=Dj (l:=NA n) hV;have c2:=Dj (l:=NA n) v';unfold QZ;cases hc:C3 (NA n)with
  |none=>simp_all
  |some c=>
   rw[hc,n']at c2;intro e;have e:c=[]:=e;rw[e]at c2;cases c2
 have Abe:∀S',Gk S'->A9 (JE n) S'=A9 (NA n) S':=fun S' v=>by grind [PD,Q0]
 refine⟨fun d=>?_,by simp_all,Abe,by grind [PD,MN],fun U h1 h2=>?_,Abb⟩
 .rcases MI hn with ⟨k,q,h1,rfl⟩ | ⟨c,hc,k,q,h1,rfl⟩
  .show D0 x roots d (if(mt:ByteArray)=mt then⟨0,mt,0,(k:Nat),0,0⟩else _)=some (if(mt:ByteArray)=mt then JP q else _);rw[Ax rfl,Ax rfl];show(if mt=mt/\(0:Int)=0/\(0:Int)=0/\(0:Int)=0 then(Mb roots (k:Nat)).map JP else none)=some (JP q)
   grind [Mb]
  .have GX:=(B7 hx).1 _ (hE.cand c hc).1;have Zl:=UT GX;have hrel:Qc x c.rel.path c.place=some c.rel:=by
    unfold Qc;cases hf:x.find? fun r=>decide (r.path=c.rel.path)&&decide (plc r.ver=c.place)with
    |none=>
     grind [DH.cand]
    |some r=>
     have h2:=DA hf;simp only[At,Bj]at h2;have nM:=AX hf;have AfN:=(B7 hx).1 r nM;rw[YU (B7 hx) nM (hE.cand c hc).1 h2.1 (by rw[<-AfN.plc,h2.2,(hE.cand c hc).2.2,GX.plc])]
   grind [VJ,JE,D0,Mb,jY,PD]
 .rw[PD];refine UP fun u hu=>?_;unfold NA at hu;split at hu
  .rw[AQ.1 hu];exact h2
  .rename_i hm;rcases AZ.1 hu with rfl | hu
   .simp_all
   .rw[AQ.1 hu];exact h2
structure cJ(D:List Sl)(U:List ByteArray)(p:ByteArray)(t:List Tm)(C:Int->Prop):Prop where
 form:Form t
 inU:Vz U t
 conc:DL t p=true
 one:∃S,Vs D p S/\A9 t S=true
 cov:∀k:Int,0<=k->k<1000000->C k->A9 t (MO D p (ff k))=true
structure cD(D:List Sl)(U:List ByteArray)(p:ByteArray)(t:List Tm)(C:Int->Prop):Prop where
 form:Form t
 inU:Vz U t
 none_:A9 t D=true
 cov:∀k:Int,0<=k->k<1000000->C k->A9 t (MO D p (ff k))=true
theorem EZ.forms{s:SS}(h:EZ x roots s):∀k,Form (EP s k):=fun k=>by
 unfold EP;rw[List.getD_eq_getElem?_getD];cases e:s.drv[k]? with
 |none=>exact T8
 |some t=>exact NI (fun _ h=>by cases h) h.der t (AG e)
theorem WI{r:Nat}(hk:k<d.length)(hr:r<d.length)(h0:(BG (d.getD k []) (d.getD r []) p).2=0) :
  D0 x roots d ⟨3,p,0,0,(k:Nat),(r:Nat)⟩=some (BG (d.getD k []) (d.getD r []) p).1:=by
 grind [Mb,Int.toNat_natCast,D0]
theorem Oj{x:List Rl}{roots:List Rq}{D:List Sl}{U:List ByteArray}{p:ByteArray}(hD:Gk D):∀(l:List (Nat×(Int->Prop))) {k:Nat} {s:SS} {C:Int->Prop},EZ x roots s->k<s.drv.length->(∀y∈l,y.1<s.drv.length) ->
  (s.full=false->cD D U p (EP s k) C/\∀y∈l,cJ D U p (EP s y.1) y.2) ->
  EZ x roots (Cg p (l.map (·.1)) k s).2/\Grow s (Cg p (l.map (·.1)) k s).2/\(Cg p (l.map (·.1)) k s).1<(Cg p (l.map (·.1)) k s).2.drv.length /\
  ((Cg p (l.map (·.1)) k s).2.full=false->∃C',cD D U p (EP (Cg p (l.map (·.1)) k s).2 (Cg p (l.map (·.1)) k s).1) C' /\
   (DL (EP (Cg p (l.map (·.1)) k s).2 (Cg p (l.map (·.1)) k s).1) p=false\/∀j,C j\/(∃y∈l,y.2 j)->C' j))
 | [],k,s,C,hd,hk,_,hA=>⟨hd,.refl s,hk,fun hf=>⟨C,(hA hf).1,.inr fun j hj=>hj.elim id fun⟨y,hy,_⟩=>(by cases hy)⟩⟩
 |y::l,k,s,C,hd,hk,hl,hA=>by
  rw[Bq]
  by_cases h1:s.full=true\/DL (EP s k) p=false
  .grind [Cg.eq_def,Grow.refl]
  simp only[not_or,Bool.not_eq_true,Bool.not_eq_false]at h1;obtain⟨hf,Uj⟩:=h1;obtain⟨zq,hA2⟩:=hA hf;have hy:=hA2 y (Ah ..);have hi:¬(s.full=true\/DL (EP s k) p=false):=B0
  by_cases h2:y.1=k
  .have e:Cg p (y.1::l.map (·.1)) k s=Cg p (l.map (·.1)) k s:=by grind [Cg]
   rw[e];have hA' : cD D U p (EP s k) fun j=>C j\/y.2 j:=⟨zq.form,zq.inU,zq.none_,fun j j0 j1 hj=>hj.elim (zq.cov j j0 j1) fun h=>by grind [cJ.cov]⟩;obtain⟨i1,i2,i3,i4⟩:=Oj hD l hd hk (fun z hz=>hl z (Am _ hz)) (fun _=>⟨hA',fun z hz=>hA2 z (Am _ hz)⟩);refine⟨i1,i2,i3,fun hf=>?_⟩;obtain⟨C',j1,j2⟩:=i4 hf;refine⟨C',j1,j2.imp id fun h j hj=>h j ?_⟩;rcases hj with hj | ⟨z,hz,hj⟩<;>grind
  .obtain⟨S2,o2,v2⟩:=hy.one;obtain⟨r1,r2⟩:=YR zq.form hy.form Uj hy.conc (.self hD) zq.none_ o2 v2;have e:Cg p (y.1::l.map (·.1)) k s=Cg p (l.map (·.1)) (E4 s ⟨3,p,0,0,k,y.1⟩ (BG (EP s k) (EP s y.1) p).1).1 (E4 s ⟨3,p,0,0,k,y.1⟩ (BG (EP s k) (EP s y.1) p).1).2:=by
    grind [Cg]
   rw[e];have hy1:=hl y (Ah ..);obtain⟨a1,a2,a3⟩:=KH hd (WI (x:=x) (roots:=roots) hk hy1 r1);have hg:=KI s ⟨3,p,0,0,(k:Nat),(y.1:Nat)⟩ (BG (EP s k) (EP s y.1) p).1;generalize jD : E4 s ⟨3,p,0,0,(k:Nat),(y.1:Nat)⟩ (BG (EP s k) (EP s y.1) p).1=s' at *
   have a3:s'.2.full=false->EP s'.2 s'.1=(BG (EP s k) (EP s y.1) p).1:=a3;obtain⟨i1,i2,i3,i4⟩:=Oj hD (C:=fun j=>C j\/y.2 j) l a1 a2 (fun z hz=>Bm (hl z (Am _ hz)) hg.len) (fun hf'=>by
    refine⟨?_,fun z hz=>by rw[hg.at (hl z (Am _ hz))];exact hA2 z (Am _ hz)⟩
    grind [NW,Sg,Fg,cD.mk,cD.inU,cJ.inU,Vs.self,cD.none_,Vs.ver,cD.cov,cJ.cov])
   refine⟨i1,hg.trans i2,i3,fun hf=>?_⟩;obtain⟨C',j1,j2⟩:=i4 hf;refine⟨C',j1,j2.imp id fun h j hj=>h j ?_⟩;rcases hj with hj | ⟨z,hz,hj⟩<;>grind
def ID(roots:List Rq)(dec:List Cd):Prop:=∀q∈Kn roots dec,∀d∈dec,d.rel.path=q.path->has q.set d.place=true
theorem ID.nil(roots:List Rq):ID roots []:=fun _ _ d h=>by cases h
theorem eH(roots:List Rq)(dec:List Cd)(c:Cd):Kn roots (dec++[c])=Kn roots dec++c.rel.reqs:=by
 simp_all
theorem tx(c:Cd):(Rf c).map (·.rq)=c.rel.reqs:=SU (fun _ _=>rfl) _ _
theorem db{dec:List Cd}(h:Ek dec c=none):∀q∈c.rel.reqs,∀d∈dec++[c],d.rel.path=q.path->has q.set d.place=true:=fun q hq d hd e=>by
 grind [tx,Ek,gz]
theorem Lo{dec:List Cd}{n:Nd}(h:Ek dec c=some n):n∈Rf c/\∃d∈dec++[c],d.rel.path=n.rq.path/\has n.rq.set d.place=false:=by
 grind [Ek,gz]
theorem ID.snoc{dec:List Cd}(h:ID roots dec)(hN:fo roots dec p needs)(hc:c.rel.path=p)(hn:∀n∈needs,has n.rq.set c.place=true)(hk:Ek dec c=none):ID roots (dec++[c]):=by
 intro q hq d hd e;rw[eH]at hq;rcases Bh.1 hq with hq | hq
 .rcases Bh.1 hd with hd | hd
  .exact h q hq d hd e
  .rw[AQ.1 hd]at e⊢;rw[<-Ni]at hq
   grind [fo.mem]
 grind [db]
def VK(y:Sl):List Sl->List Sl
 | []=>[y]
 |z::l=>if Dq y.path z.path then y::z::l else z::VK y l
def Dx:List Sl->List Sl
 | []=>[]
 |y::l=>VK y (Dx l)
theorem Uu{y z:Sl}:∀{l:List Sl},z∈VK y l↔z=y\/z∈l
 | []=>by simp[VK]
 |u::l=>by
  unfold VK;split
  .simp
  .rw[AZ,Uu,AZ]
   grind
theorem FN{z:Sl}:∀{l:List Sl},z∈Dx l↔z∈l
 | []=>by simp[Dx]
 |u::l=>by unfold Dx;rw[Uu,FN,AZ]
theorem aN{y:Sl}:∀{l:List Sl},XG l->(∀z∈l,z.path≠y.path)->XG (VK y l)
 | [],_,_=>by grind [VK]
 |u::l,h,hn=>by
  obtain⟨h1,h2⟩:=BI.1 h;unfold VK;split
  .grind [List.pairwise_cons,DF]
  .rename_i hb;refine BI.2 ⟨fun z hz=>?_,aN h2 fun z hz=>hn z (Am _ hz)⟩
   grind [Uu,Hd]
theorem Jw:∀{l:List Sl},(l.map (·.path)).Nodup->XG (Dx l)
 | [],_=>List.Pairwise.nil
 |y::l,h=>by
  simp only[Bq,HN]at h;exact aN (Jw h.2) fun z hz e=>h.1 (Ay.2 ⟨z,FN.1 hz,e⟩)
theorem Us:∀{l:List Sl} {b:Option ByteArray},XG l->(∀c,b=some c->∀y∈l,Dq c y.path=true)->MB b l=true
 | [],_,_,_=>by unfold MB;rfl
 |y::l,b,h,hb=>by
  obtain⟨h1,h2⟩:=BI.1 h;unfold MB;cases b with
  |none=>simpa using Us h2 fun c e z hz=>by simp_all
  |some c=>
   have:=hb c rfl y (Ah ..)
   simp only[this,Bool.true_and];exact Us h2 fun c e z hz=>by simp_all
theorem dG{l:List Sl}(h:XG l):CD l=true:=Us h fun _ e=>by cases e
theorem WA(hx:AL x=0)(hr:r∈x):By x (Fa r)=some r:=by
 unfold By;rw[AA (fun h=>h hx)];cases h:x.find? fun s=>decide (Fa s=Fa r)with
 |none=>
  grind
 |some s=>
  have h1:=DA h;simp only[Bj]at h1;rw[Uw (B7 hx).2 (AX h) hr h1]
theorem DH.sorted{dec:List Cd}(h:DH x dec):XG (Dx (AP dec)):=Jw (by rw[Oi];exact h.nodup)
theorem DH.findS{dec:List Cd}(h:DH x dec)(hc:c∈dec):BE (Dx (AP dec)) c.rel.path=some (VM c):=
 NN h.sorted (y:=VM c) (FN.2 (Ay.2 ⟨c,hc,rfl⟩))
theorem om(hx:AL x=0){dec:List Cd}(h:DH x dec)(hs:ID roots dec)(hl:L1 (Kn roots dec) (AP dec)=none):zd x roots (Dx (AP dec)):=by
 have Gl:∀q∈Kn roots dec,∃y,BE (Dx (AP dec)) q.path=some y/\has q.set (place y.ver)=true:=fun q hq=>by
  have:=dT hl q hq
  rw[Lx]at this;obtain⟨y,hy,e⟩:=this;obtain⟨d,hd,rfl⟩:=Ay.1 hy;have e:d.rel.path=q.path:=e;refine⟨VM d,by grind [DH.findS],?_⟩;have h1:=hs q hq d hd e;have GX:=(B7 hx).1 _ (h.cand d hd).1;rw[(h.cand d hd).2.2,GX.plc]at h1;exact h1
 refine⟨hx,dG h.sorted,fun y hy=>?_,fun q hq=>Gl q (CE _ hq),fun y hy r hr q hq=>?_⟩
 .obtain⟨d,hd,rfl⟩:=Ay.1 (FN.1 hy);exact⟨d.rel,WA hx (h.cand d hd).1,(h.cand d hd).2.1⟩
 .obtain⟨d,hd,rfl⟩:=Ay.1 (FN.1 hy)
  have:By x (VM d)=some d.rel:=WA hx (h.cand d hd).1
  rw[this]at hr;cases hr;exact Gl q (Cv _ (G2.2 ⟨_,Ay.2 ⟨d,hd,rfl⟩,hq⟩))
def kk(dec:List Cd)(needs:List Nd)(c:Cd):Bool:=(needs.all fun n=>has n.rq.set c.place)&&(Ek dec c).isNone
def MF(x:List Rl)(roots:List Rq):Nat->List Cd->List (List Cd)
 |0,_=>[]
 |n+1,dec=>match(GS roots dec).2 with
  | []=>[dec]
  |n0::l=>((Cp x (GS roots dec).1).map fun c=>if kk dec (n0::l) c then MF x roots n (dec++[c])else []).flatten
structure Lf(x:List Rl)(roots:List Rq)(dec d:List Cd):Prop where
 pre:dec <+: d
 ok:DH x d
 sat:ID roots d
 stop:L1 (Kn roots d) (AP d)=none
theorem Ka(h:c∈Cp x p):c.rel.path=p/\(c.rel∈x/\c.rel.yanked=false/\c.place=plc c.rel.ver):=by
 grind [Ll]
theorem PU{dec:List Cd}:kk dec needs c=true↔(∀n∈needs,has n.rq.set c.place=true)/\Ek dec c=none:=by
 grind [kk,Option.isNone_iff_eq_none]
theorem QS{x:List Rl}{roots:List Rq}:∀{n:Nat} {dec:List Cd},DH x dec->ID roots dec->∀d∈MF x roots n dec,Lf x roots dec d
 |0,_,_,_,d,hd=>by cases hd
 |n+1,dec,h,hs,d,hd=>by
  unfold MF at hd;split at hd
  .grind [UH,Lf.mk]
  .rename_i n0 l e;have hN:=Ot e;obtain⟨L,hL,hd⟩:=G2.1 hd;obtain⟨c,hc,rfl⟩:=Ay.1 hL;split at hd
   .rename_i GX;obtain⟨h1,h2⟩:=PU.1 GX;obtain⟨c1,c2⟩:=Ka hc;have jy:DT dec c.rel.path=false:=by grind [fo.undone]
    have:=QS (n:=n) (h.snoc c2 jy) (hs.snoc hN c1 h1 h2) d hd
    grind [List.prefix_append,Lf.mk,Lf.pre,Lf.ok,Lf.sat,Lf.stop]
   simp_all
theorem Lf.sol(hx:AL x=0){dec d:List Cd}(h:Lf x roots dec d):zd x roots (Dx (AP d)):=om hx h.ok h.sat h.stop
theorem sY(hx:AL x=0){s:SS}(hd:EZ x roots s)(hk:k<s.drv.length){dec d:List Cd}(he:CH (EP s k) (AP dec)=true)(h:Lf x roots dec d):False:=by
 have hS:=h.sol hx;have hv:=X8 (s:=Dx (AP d)) hS.inc (fun y hy=>FN.2 (by
  obtain⟨c,hc,rfl⟩:=Ay.1 hy;obtain⟨t,e⟩:=h.pre<;>grind)) he
 have hn:=Mt hS (d:=[]) (fun _ h=>by cases h) hd.der (EP s k) (by
  simp_all)
 simp_all
end Go.Eng
