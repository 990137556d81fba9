/- Lemmas for the claims of this seat, without a condition: part 26 (S8a, S9, S10, S8b). -/
import Derived.Test.YtddfphmpfnmknaaGreatDoorDA25
import Derived.Test.YtddfphmpfnmknaaGreatDoorDA04
set_option maxHeartbeats 4000000
namespace Go.Eng
open Go.Proofs
abbrev Y8:I7:=[(1000,1000),(1001,1001),(1002,1002),(1003,1003),(500,1004)]
abbrev uE(roots:List Rq)(C A:List (Value×AV))(s:SS)(dec:List Cd)(st:List (List Sk)):List (Nat×HO) :=
 [(1000,.cells (srM roots C A s dec 2000 st.length)),(1001,.tok 6 s.infs.length),(1002,.tok 1 s.drv.length),(1003,.map D0 (D3 0 s.infs)),(1004,.dead),(2000,.arr 1 (st.map AX))]
abbrev Y9(roots:List Rq)(C A:List (Value×AV))(o:Kf)(r:AV)(h' : Nat→HO):Prop:=r=.tup [vi (o.res:Nat),vb o.found]∧h'=Ak (uE roots C A o.ss o.dec o.stack) Aa
def H64(roots:List Rq)(C A:List (Value×AV)):Prop:=∀(s:SS) (dec:List Cd) (st:List (List Sk)),dec.length≤1000→(∀c∈dec,c.rel.reqs.length≤1073741824) →
 A6 Tryz.prog 87 [.ref 1000 0] (Ak (Jh roots C A s dec st) Aa) fun r h'=>r=.tup [vs (GT roots dec).1,sl A9 (GT roots dec).2]∧h'=Ak (Jh roots C A s dec st) Aa
theorem ND{roots:List Rq}{C A:List (Value×AV)}{o:Kf}{k:Nat}{b:Bool}{s:SS}{dec:List Cd}{st:List (List Sk)}(e:o=⟨k,b,s,dec,st⟩) :
  AV.tup [vi (k:Nat),vb b]=.tup [vi (o.res:Nat),vb o.found]∧Ak (uE roots C A s dec st) Aa=Ak (uE roots C A o.ss o.dec o.stack) Aa:=by rw[e];exact Zr
abbrev Y6:I7:=[(1000,1000),(1001,1001),(1002,1002),(1003,1003),(1004,1004),(1005,1005),(1006,1006),(1007,1007),(1008,1008),(1009,1009)]
def Gs(roots:List Rq)(dec:List Cd)(m:Nat):ByteArray×List Nd:=((Dx roots dec).take m).foldl (Er dec) (mt,[])
theorem YE{roots:List Rq}{dec:List Cd}{m:Nat}{n:Nd}(h:(Dx roots dec)[m]?=some n):Gs roots dec (m+1)=Er dec (Gs roots dec m) n:=by
 unfold Gs;rw[Bk,h,FE];rfl
theorem lz{roots:List Rq}{dec:List Cd}{m:Nat}(h:(Dx roots dec).length≤m):Gs roots dec m=GT roots dec:=by
 unfold Gs GT;rw[Aw h]
def Fk(roots:List Rq)(dec:List Cd)(j:Nat):Nat:=roots.length+((dec.take j).map fun c=>c.rel.reqs.length).sum
theorem T8(c:Cd):(Qt c).length=c.rel.reqs.length:=KP _ _ _
theorem dn(roots:List Rq)(dec:List Cd):Fk roots dec 0=roots.length:=by unfold Fk;simp
theorem dk{roots:List Rq}{dec:List Cd}{j:Nat}(h:j<dec.length):Fk roots dec (j+1)=Fk roots dec j+dec[j].rel.reqs.length:=by
 unfold Fk;rw[Kv h,Ay,List.sum_append];simp[Nat.add_assoc]
theorem YH(roots:List Rq)(dec:List Cd):Fk roots dec dec.length=(Dx roots dec).length:=by
 unfold Fk Dx YU;rw[DM,Ae,KP,List.length_flatten,BQ]
 congr 2
 exact Be fun c _=>(T8 c).symm
theorem db{roots:List Rq}{dec:List Cd}{i:Nat}(h:i<roots.length):(Dx roots dec)[i]?=some ⟨roots[i],mt,0,(i:Nat)⟩:=by
 unfold Dx YU;rw[A2 (by rw[KP];exact h),Po,Ge h,FL,Bl]
theorem XV{α:Type}:∀{l:List (List α)} {j k:Nat} (hj:j<l.length),k<l[j].length→l.flatten[((l.take j).map List.length).sum+k]?=l[j][k]?
 |y::l,0,k,_,hk=>by
  rw[BC,List.take_zero,Fg,List.sum_nil,Bl,A2 (show k<y.length from hk)];rfl
 |y::l,j+1,k,hj,hk=>by
  rw[BC,I6,AP,List.sum_cons,AW (by omega)]
  have:=XV (l:=l) (j:=j) (k:=k) (by simpa using hj) hk
  rw[show y.length+((l.take j).map List.length).sum+k-y.length=((l.take j).map List.length).sum+k by omega,this]
  rfl
theorem iq{roots:List Rq}{dec:List Cd}{j k:Nat}(hj:j<dec.length)(hk:k<dec[j].rel.reqs.length):(Dx roots dec)[Fk roots dec j+k]?=some ⟨dec[j].rel.reqs[k],dec[j].rel.path,dec[j].place,(k:Nat)⟩:=by
 unfold Dx YU Fk;rw[AW (by rw[KP];omega),KP];have h:=XV (l:=dec.map Qt) (j:=j) (k:=k) (by simpa using hj) (by rw[List.getElem_map,T8];exact hk);rw[←List.map_take,BQ,show(List.length ∘ Qt)=fun c=>c.rel.reqs.length from funext T8]at h;rw[show roots.length+((dec.take j).map fun c=>c.rel.reqs.length).sum+k-roots.length=((dec.take j).map fun c=>c.rel.reqs.length).sum+k by omega,h,List.getElem_map];unfold Qt;rw[Po,Ge hk,FL,Bl]
abbrev iC(roots:List Rq)(C A:List (Value×AV))(s:SS)(dec:List Cd)(st:List (List Sk))(m:Nat):List (Nat×HO) :=
  [(1000,.cells (uD roots C A s dec st.length)),(1001,.tok 6 s.infs.length),(1002,.tok 1 s.drv.length),(1003,.map D0 (D3 0 s.infs)),(1004,.arr 1 (st.map AX)),
   (1005,.cells [.ref 1000 0]),(1006,.cells [vs (Gs roots dec m).1]),(1007,.cells [.slice (.ver 1008 5 m) ((Gs roots dec m).2.map A9)]),(1008,.var 5 m ((Gs roots dec m).2.map A9).length),(1009,.cells [.ref 1000 0])]
noncomputable abbrev cxn(pl:RE)(l:Nat)(Y:Gh→World→Prop):Cx:=⟨Tryz.prog,mT,pl,true,0,fun l' σ' g w=>l'=l→σ'=Y6→Y g w⟩
theorem I0.pre{P:Program}{Y Y' : Gh→World→Prop}{l:Nat}{args:List AV}{h0:Nat→HO}{Q:AV→(Nat→HO)→Prop}(h:I0 P Y l args h0 Q)(hp:∀g w,Y' g w→Y g w):I0 P Y' l args h0 Q :=
 fun g w vals q1 q2 q3 q4=>h g w vals q1 q2 q3 (hp g w q4)
theorem yz(roots:List Rq)(C A:List (Value×AV))(s:SS)(dec:List Cd)(st:List (List Sk)):A6 Tryz.prog 117 [.ref 1000 0] (Ak (Jh roots C A s dec st) Aa) fun r h'=>r=.clo 170 [.ref 2000 0]∧h'=Ak (Jh roots C A s dec st++[(2000,.cells [.ref 1000 0])]) Aa:=by
 refine BW (Lg ⟨[],[],[],[],[],[],[],[],[],[],[]⟩) [(1000,1000),(1001,1001),(1002,1002),(1003,1003),(1004,1004),(1,2000)] rfl Cw hm rfl Tryz.func117 (by kernel_rfl) rfl (Nz rfl) (by kernel_rfl) rfl ?_;exact Xi _ (Yi (.refl _) Zr)
theorem yA{Y:Gh→World→Prop}(l:Nat)(roots:List Rq)(C A:List (Value×AV))(s:SS)(dec:List Cd)(st:List (List Sk))(hr:roots.length≤1073741824)(hd:dec.length≤1073741824)(my:∀c∈dec,c.rel.reqs.length≤1073741824)
  (hy:∀m n,(Dx roots dec)[m]?=some n→I0 Tryz.prog Y l [.agg (A9 n)] (Ak (iC roots C A s dec st m) Aa) fun r h'=>r=vb true∧h'=Ak (iC roots C A s dec st (m+1)) Aa) :
  Xn Tryz.prog Y Y6 170 [.v (.func (.yield l) #[] #[]),.ref 1005 0] (Ak (iC roots C A s dec st 0) Aa) fun _ h'=>h'=Ak (iC roots C A s dec st (Dx roots dec).length) Aa:=by
 have hr:roots.length≤1073741824:=hr;refine gR (l:=l) (cxn ⟨[],[],[],[],[],[],[],[],[],[],[4,12]⟩ l Y) Y6 rfl Cw hm rfl Tryz.func170 (by kernel_rfl) rfl (Nz rfl) (by kernel_rfl) rfl rfl ?_;refine Xi {i:Nat // i≤roots.length} (Xi (fun q=>⟨[(0,.v (.func (.yield l) #[] #[])),(1,.ref 1005 0),(12,sl AF roots),(13,vi (roots.map AF).length),(14,vi q.1)],[(1000,.cells (srM roots C A s dec 1004 st.length)),(1001,.tok 6 s.infs.length),(1002,.tok 1 s.drv.length),(1003,.map D0 (D3 0 s.infs)),(1004,.arr 1 (st.map AX)),(1005,.cells [.ref 1000 0]),(1006,.cells [vs (Gs roots dec q.1).1]),(1007,.cells [.slice (.ver 1008 5 q.1) ((Gs roots dec q.1).2.map A9)]),(1008,.var 5 q.1 ((Gs roots dec q.1).2.map A9).length),(1009,.cells [.ref 1000 0])],Aa⟩) (Xi (fun q=>roots.length-q.1) (Yi (Xi ⟨0,AD _⟩ ?_) ?_)))
 ·exact⟨Z5,Z10,Fh,AB (by kernel_rfl)⟩
 intro⟨i,i1⟩;have i1:i≤roots.length:=i1;refine Yi (fun h1=>?_) (fun h1=>?_)
 ·have h1:(i:Int)<((roots.map AF).length:Int):=h1;have n1:=JT h1;refine Xi (AF roots[i]) (Yi (Ns n1) (Yi rfl ?_));refine Yi (Nz rfl) ?_;refine Yi (Nz rfl) ?_;refine Yi (Nz rfl) ?_;refine Xi (.gen Y6 0) (Yi rfl (I0.imp (I0.pre (hy i ⟨roots[i],mt,0,(i:Nat)⟩ (db n1)) (fun g w q=>q rfl rfl)) ?_));intro v2 g2 q2;have x6:=q2.1;have x7:=q2.2;subst x6;subst x7;refine Xi ⟨[(0,.v (.func (.yield l) #[] #[])),(1,.ref 1005 0),(12,sl AF roots),(13,vi (roots.map AF).length),(14,vi i)],[(1000,.cells (srM roots C A s dec 1004 st.length)),(1001,.tok 6 s.infs.length),(1002,.tok 1 s.drv.length),(1003,.map D0 (D3 0 s.infs)),(1004,.arr 1 (st.map AX)),(1005,.cells [.ref 1000 0]),(1006,.cells [vs (Gs roots dec (i+1)).1]),(1007,.cells [.slice (.ver 1008 5 (i+1)) ((Gs roots dec (i+1)).2.map A9)]),(1008,.var 5 (i+1) ((Gs roots dec (i+1)).2.map A9).length),(1009,.cells [.ref 1000 0])],Aa⟩ (Yi ⟨Z5,Z10,Fh,AB (by kernel_rfl)⟩ ?_)
  refine Yi (Ii i (by omega)) ?_;refine Xi ⟨i+1,by omega⟩ ?_;exact⟨Dl roots.length i (by omega),Z5,Z10,Fh,AB (by kernel_rfl)⟩
 have h1:¬((i:Int)<((roots.map AF).length:Int)):=h1;have n1:=JS h1;have hE:i=Fk roots dec 0:=by rw[dn];omega
 refine Xi {j:Nat // j≤dec.length} (Xi (fun q=>⟨[(0,.v (.func (.yield l) #[] #[])),(29,sl AE dec),(30,vi (dec.map AE).length),(31,vi q.1)],[(1000,.cells (srM roots C A s dec 1004 st.length)),(1001,.tok 6 s.infs.length),(1002,.tok 1 s.drv.length),(1003,.map D0 (D3 0 s.infs)),(1004,.arr 1 (st.map AX)),(1005,.cells [.ref 1000 0]),(1006,.cells [vs (Gs roots dec (Fk roots dec q.1)).1]),(1007,.cells [.slice (.ver 1008 5 (Fk roots dec q.1)) ((Gs roots dec (Fk roots dec q.1)).2.map A9)]),(1008,.var 5 (Fk roots dec q.1) ((Gs roots dec (Fk roots dec q.1)).2.map A9).length),(1009,.cells [.ref 1000 0])],Aa⟩) (Xi (fun q=>dec.length-q.1) (Yi (Xi ⟨0,AD _⟩ ?_) ?_)))
 ·exact⟨Z4,⟨Zr,Zr,Zr,Zr,Zr,Zr,⟨(show .cells [vs (Gs roots dec i).1]=(.cells [vs (Gs roots dec (Fk roots dec 0)).1]:HO) by rw[hE]),rfl⟩,⟨(show .cells [.slice (.ver 1008 5 i) ((Gs roots dec i).2.map A9)]=(.cells [.slice (.ver 1008 5 (Fk roots dec 0)) ((Gs roots dec (Fk roots dec 0)).2.map A9)]:HO) by rw[hE]),rfl⟩,⟨(show .var 5 i ((Gs roots dec i).2.map A9).length=(.var 5 (Fk roots dec 0) ((Gs roots dec (Fk roots dec 0)).2.map A9).length:HO) by rw[hE]),rfl⟩,Zr,Tv⟩,Fh,AB (by kernel_rfl)⟩
 intro⟨j,j1⟩;have j1:j≤dec.length:=j1;refine Yi (fun h4=>?_) (fun h4=>?_)
 ·have h4:(j:Int)<((dec.map AE).length:Int):=h4;have n4:=JT h4;have ue:=my dec[j] (At n4);refine Xi (AE dec[j]) (Yi (Ns n4) (Yi rfl ?_));refine Yi (Nz rfl) ?_;refine Yi (Nz rfl) ?_;refine Xi {k:Nat // k≤dec[j].rel.reqs.length} (Xi (fun q=>⟨[(0,.v (.func (.yield l) #[] #[])),(6,.ref 6 0),(29,sl AE dec),(30,vi (dec.map AE).length),(31,vi j),(37,sl AF dec[j].rel.reqs),(38,vi (dec[j].rel.reqs.map AF).length),(39,vi q.1)],[(6,.cells (AE dec[j])),(1000,.cells (srM roots C A s dec 1004 st.length)),(1001,.tok 6 s.infs.length),(1002,.tok 1 s.drv.length),(1003,.map D0 (D3 0 s.infs)),(1004,.arr 1 (st.map AX)),(1005,.cells [.ref 1000 0]),(1006,.cells [vs (Gs roots dec (Fk roots dec j+q.1)).1]),(1007,.cells [.slice (.ver 1008 5 (Fk roots dec j+q.1)) ((Gs roots dec (Fk roots dec j+q.1)).2.map A9)]),(1008,.var 5 (Fk roots dec j+q.1) ((Gs roots dec (Fk roots dec j+q.1)).2.map A9).length),(1009,.cells [.ref 1000 0])],Aa⟩) (Xi (fun q=>dec[j].rel.reqs.length-q.1) (Yi (Xi ⟨0,AD _⟩ ?_) ?_)))
  ·exact⟨Z8,Z11,Fh,AB (by kernel_rfl)⟩
  intro⟨k,k1⟩;have k1:k≤dec[j].rel.reqs.length:=k1;refine Yi (fun h5=>?_) (fun h5=>?_)
  ·have h5:(k:Int)<((dec[j].rel.reqs.map AF).length:Int):=h5;have n5:=JT h5;refine Xi (AF dec[j].rel.reqs[k]) (Yi (Ns n5) (Yi rfl ?_));refine Yi (Nz rfl) ?_;refine Yi (Nz rfl) ?_;refine Yi (Nz rfl) ?_;refine Xi (.gen Y6 0) (Yi rfl (I0.imp (I0.pre (hy (Fk roots dec j+k) ⟨dec[j].rel.reqs[k],dec[j].rel.path,dec[j].place,(k:Nat)⟩ (iq n4 n5)) (fun g w q=>q rfl rfl)) ?_));intro v6 g6 q6;have yj:=q6.1;have ym:=q6.2;subst yj;subst ym;refine Xi ⟨[(0,.v (.func (.yield l) #[] #[])),(6,.ref 6 0),(29,sl AE dec),(30,vi (dec.map AE).length),(31,vi j),(37,sl AF dec[j].rel.reqs),(38,vi (dec[j].rel.reqs.map AF).length),(39,vi k)],[(6,.cells (AE dec[j])),(1000,.cells (srM roots C A s dec 1004 st.length)),(1001,.tok 6 s.infs.length),(1002,.tok 1 s.drv.length),(1003,.map D0 (D3 0 s.infs)),(1004,.arr 1 (st.map AX)),(1005,.cells [.ref 1000 0]),(1006,.cells [vs (Gs roots dec (Fk roots dec j+(k+1))).1]),(1007,.cells [.slice (.ver 1008 5 (Fk roots dec j+(k+1))) ((Gs roots dec (Fk roots dec j+(k+1))).2.map A9)]),(1008,.var 5 (Fk roots dec j+(k+1)) ((Gs roots dec (Fk roots dec j+(k+1))).2.map A9).length),(1009,.cells [.ref 1000 0])],Aa⟩ (Yi ⟨Z8,Z11,Fh,AB (by kernel_rfl)⟩ ?_)
   refine Yi (Ii k (by omega)) ?_;refine Xi ⟨k+1,by omega⟩ ?_;exact⟨by show dec[j].rel.reqs.length-(k+1)<dec[j].rel.reqs.length-k;omega,Z8,Z11,Fh,AB (by kernel_rfl)⟩
  have h5:¬((k:Int)<((dec[j].rel.reqs.map AF).length:Int)):=h5;have n5:=JS h5;refine Yi (Ii j (by omega)) ?_;have hE:Fk roots dec j+k=Fk roots dec (j+1):=by rw[dk n4];omega
  refine Xi ⟨j+1,by omega⟩ ?_;exact⟨Dl dec.length j (by omega),Z4,⟨Zr,Zr,Zr,Zr,Zr,Zr,⟨(show .cells [vs (Gs roots dec (Fk roots dec j+k)).1]=(.cells [vs (Gs roots dec (Fk roots dec (j+1))).1]:HO) by rw[hE]),rfl⟩,⟨(show .cells [.slice (.ver 1008 5 (Fk roots dec j+k)) ((Gs roots dec (Fk roots dec j+k)).2.map A9)]=(.cells [.slice (.ver 1008 5 (Fk roots dec (j+1))) ((Gs roots dec (Fk roots dec (j+1))).2.map A9)]:HO) by rw[hE]),rfl⟩,⟨(show .var 5 (Fk roots dec j+k) ((Gs roots dec (Fk roots dec j+k)).2.map A9).length=(.var 5 (Fk roots dec (j+1)) ((Gs roots dec (Fk roots dec (j+1))).2.map A9).length:HO) by rw[hE]),rfl⟩,Zr,Tv⟩,Fh,AB (by kernel_rfl)⟩
 have h4:¬((j:Int)<((dec.map AE).length:Int)):=h4;have n4:=JS h4;exact Ac (fun m=>Ak (iC roots C A s dec st m) Aa) (show Fk roots dec j=(Dx roots dec).length by rw[←YH];congr 1;omega)
theorem o6{h:Nat→HO}{o k r sz:Nat}{cs:List AV}{K:(Nat→HO)→Prop}(c1:h o=.cells cs)(c2:Jg cs k=.v (.slice none 0 0))(c3:h r=.free)(hk:K (A0 (A0 h r (.var sz 0 0)) o (.cells (EK cs k (.slice (.ver r sz 0) []))))):qg h o k r sz K:=by
 unfold qg;rw[c1];show match Jg cs k with
  |.v (.slice none 0 0)=>match h r with
   |.free=>K (A0 (A0 h r (.var sz 0 0)) o (.cells (EK cs k (.slice (.ver r sz 0) []))))
   |_=>False
  |_=>False
 rw[c2,c3];exact hk
theorem pm{o k r0 sz:Nat}{cf:Cx}{P:Program}{N:Nat}{fn:Func}{σ:I7}{Q:AV→(Nat→HO)→Prop}{b rest:Code}{st:St}(cs:List AV)(c1:st.h o=.cells cs)(c2:Jg cs k=.v (.slice none 0 0))(c3:st.h r0=.free)(σF σr:I7)(H0 Hn:List (Nat×HO))(gf:Nat)(caps:List AV)
  {mh s:Nat} {ps:Array Tmp} {GR body:Code} (hb:b=.block mh (.rangeFunc (.tmp s) ps GR body)) (k1:(Ev σF&&DI (A0 (A0 st.h r0 (.var sz 0 0)) o (.cells (EK cs k (.slice (.ver r0 sz 0) [])))) 0 0&&Dv σF 0 0)=true) (k2:FM σF (A0 (A0 st.h r0 (.var sz 0 0)) o (.cells (EK cs k (.slice (.ver r0 sz 0) []))))=Ak H0 Aa) (k3:(GW σr&&IE σr H0)=true) (k4:IE σr Hn=true)
  (k5:ren (Cq σF) (A0 (A0 st.h r0 (.var sz 0 0)) o (.cells (EK cs k (.slice (.ver r0 sz 0) [])))) (st.t s)=.clo gf caps)
  (k6:∀(l D:Nat) (f' : FuncId) (tm:Array Value),tm.size=N→Xn P (fun g w=>w.heap[l]?=some (.loop (Ib f' tm ps GR body D .ready))∧∀i,BH g w (AT (Ak H0 Aa)) (ren (Cq σF) (A0 (A0 st.h r0 (.var sz 0 0)) o (.cells (EK cs k (.slice (.ver r0 sz 0) [])))) (st.t i)) (tm.getD i undef)) σr gf
   (.v (.func (.yield l) #[] #[])::caps) (Ak H0 Aa) fun _ h'=>h'=Ak Hn Aa)
  (k7:ED N rest=true) (k8:RF cf rest (XL cf fn.results.toList σr fun r h'=>Q (ren (Cq σ) (Ef σF 0 0 (A0 (A0 st.h r0 (.var sz 0 0)) o (.cells (EK cs k (.slice (.ver r0 sz 0) [])))) h') (ren (Fj σF 0 0) h' r)) (FM σ (Ef σF 0 0 (A0 (A0 st.h r0 (.var sz 0 0)) o (.cells (EK cs k (.slice (.ver r0 sz 0) [])))) h')))
   ⟨fun i=>ren (Cq σF) (A0 (A0 st.h r0 (.var sz 0 0)) o (.cells (EK cs k (.slice (.ver r0 sz 0) [])))) (st.t i),Ak Hn Aa⟩) (k9:OB [] body=false:=by kernel_rfl):uK o k r0 sz cf P N fn σ Q b rest st :=
 o6 c1 c2 c3 ⟨σF,σr,H0,Hn,mh,s,ps,GR,body,gf,caps,hb,k1,k2,k3,k4,k5,k6,k7,k9,k8⟩
section
variable {roots:List Rq}{C A:List (Value×AV)}{s:SS}{dec:List Cd}{st:List (List Sk)}{n:Nd}
theorem TY{m:Nat}{p:ByteArray}{o:List Nd}(e:Gs roots dec (m+1)=(p,o)){es:List (List AV)}{k:Nat}(h1:es=o.map A9)(h2:k=es.length) :
  Ak [(1000,.cells (uD roots C A s dec st.length)),(1001,.tok 6 s.infs.length),(1002,.tok 1 s.drv.length),(1003,.map D0 (D3 0 s.infs)),(1004,.arr 1 (st.map AX)),
   (1005,.cells [.ref 1000 0]),(1006,.cells [vs p]),(1007,.cells [.slice (.ver 1008 5 (m+1)) es]),(1008,.var 5 (m+1) k),(1009,.cells [.ref 1000 0])] Aa=Ak (iC roots C A s dec st (m+1)) Aa:=by
 subst h1;subst h2
 rw[show iC roots C A s dec st (m+1)=[(1000,.cells (uD roots C A s dec st.length)),(1001,.tok 6 s.infs.length),(1002,.tok 1 s.drv.length),(1003,.map D0 (D3 0 s.infs)),(1004,.arr 1 (st.map AX)),
   (1005,.cells [.ref 1000 0]),(1006,.cells [vs (Gs roots dec (m+1)).1]),(1007,.cells [.slice (.ver 1008 5 (m+1)) ((Gs roots dec (m+1)).2.map A9)]),(1008,.var 5 (m+1) ((Gs roots dec (m+1)).2.map A9).length),(1009,.cells [.ref 1000 0])]from rfl,e]
theorem iE{a:ByteArray×List Nd}(h:Do dec n.rq.path=true):Er dec a n=(a.1,a.2):=by unfold Er;rw[Ap (.inl h)]
theorem ip{o:List Nd}(h:(0:Int)<((o.map A9).length:Int)):o≠[]:=fun e=>by subst e;simp at h
theorem lr{o:List Nd}(h:¬(0:Int)<((o.map A9).length:Int)):o=[]:=by
 cases o with
 |nil=>rfl
 |cons y l=>exact absurd (by simp) h
theorem lA{a:ByteArray×List Nd}(h:(0:Int)<((a.2.map A9).length:Int))(hb:Eg a.1 n.rq.path=true):Er dec a n=(a.1,a.2):=by unfold Er;rw[Ap (.inr ⟨ip h,hb⟩)]
theorem iF{a:ByteArray×List Nd}(hd:Do dec n.rq.path=false)(h:(0:Int)<((a.2.map A9).length:Int))(hb:Eg a.1 n.rq.path=false)(hs:Eg n.rq.path a.1=true):Er dec a n=(n.rq.path,[n]):=by
 unfold Er;rw[Aj (by rw[hd,hb];simp),Ap ⟨ip h,hs⟩]
theorem iG{a:ByteArray×List Nd}(hd:Do dec n.rq.path=false)(hb:Eg a.1 n.rq.path=false)(hs:Eg n.rq.path a.1=false):Er dec a n=(n.rq.path,a.2++[n]):=by
 unfold Er;rw[Aj (by rw[hd,hb];simp),Aj (by rw[hs];simp)]
theorem lC{a:ByteArray×List Nd}(hd:Do dec n.rq.path=false)(h:¬(0:Int)<((a.2.map A9).length:Int)):Er dec a n=(n.rq.path,a.2++[n]):=by
 have:=lr h
 unfold Er;rw[Aj (by rw[hd,this];simp),Aj (by rw[this];simp)]
theorem lB(a:ByteArray×List Nd)(n:Nd):(Er dec a n).2.length≤a.2.length+1:=by
 unfold Er;split
 ·omega
 ·split
  ·simp
  ·simp
theorem bl:∀(m:Nat),(Gs roots dec m).2.length≤m
 |0=>Al _
 |m+1=>by
  have ih:=bl m;cases h:(Dx roots dec)[m]? with
  |none =>
   have e:Gs roots dec (m+1)=Gs roots dec m:=by unfold Gs;rw[Bk,h];simp
   rw[e];omega
  |some n=>rw[YE h];exact Bx (lB _ _) (EC ih)
theorem YZ:∀{l l' : List (Nat×HO)},l.map Prod.fst=l'.map Prod.fst→(∀p∈l',p.2≠.free)→∀i,AT (Ak l Aa) i→AT (Ak l' Aa) i
 | [],[],_,_,_,h=>h
 |(a,o)::l,(a',o')::l',e,h,i,hu=>by
  rw[AP,AP]at e
  injection e with e1 e2
  have e1:a=a':=e1;subst e1;unfold AT at *
  by_cases q:i=a
  ·subst q;simp only[Ak,CX,JZ];exact h _ (Ab ..)
  ·simp only[Ak,CM q,Ew]at hu⊢;exact YZ e2 (fun p hp=>h p (Ai _ hp)) i hu
theorem iD(m:Nat):∀i,AT (Ak (iC roots C A s dec st 0) Aa) i→AT (Ak (iC roots C A s dec st m) Aa) i:=YZ rfl (by
 repeat (first | exact Da _ | refine Dk.2 ⟨by simp,?_⟩))
theorem bD:∀{l:List Cd},(∀c∈l,c.rel.reqs.length≤1073741824)→((l.map fun c=>c.rel.reqs.length)).sum≤l.length*1073741824
 | [],_=>by simp
 |c::l,h=>by
  have h1:=h c (Ab ..);have h2:=bD fun c hc=>h c (Ai _ hc);rw[AP,List.sum_cons,Az];omega
theorem de(hr:roots.length≤1073741824)(hd:dec.length≤1000)(h:∀c∈dec,c.rel.reqs.length≤1073741824):(Dx roots dec).length≤1074815565824:=by
 rw[←YH];unfold Fk;rw[DM]
 have:=bD h
 have:=Bh 1073741824 hd
 omega
end
theorem Yu(l:List Nd)(n:Nd):l.map A9++[A9 n]=(l++[n]).map A9:=by rw[Ay];rfl
theorem Pe(l:List Nd)(n:Nd):(l.map A9).length+([A9 n]:List (List AV)).length=(l.map A9++[A9 n]).length:=Ae.symm
attribute [local irreducible] uK qg Gs Dx Er
theorem s64(roots:List Rq)(C A:List (Value×AV))(s:SS)(dec:List Cd)(st:List (List Sk))(hr:roots.length≤1073741824)(hd:dec.length≤1000)(my:∀c∈dec,c.rel.reqs.length≤1073741824) :
  A6 Tryz.prog 87 [.ref 1000 0] (Ak (Jh roots C A s dec st) Aa) fun r h'=>r=.tup [vs (GT roots dec).1,sl A9 (GT roots dec).2]∧h'=Ak (Jh roots C A s dec st) Aa:=by
 refine bL 5 0 9 5 (Lg ⟨[],[],[],[],[],[],[],[],[],[],[]⟩) (Lg E4) Y7 rfl Cw rfl Cw hm rfl rfl Tryz.func87 (by kernel_rfl) rfl (Nz rfl) (by kernel_rfl) rfl 3 ?_;refine Yi (Nz rfl) ?_;refine Xi (.gen Y7 1) (Yi rfl (A6.imp (yz roots C A s dec st) ?_));intro v1 g1 q1;have lO:=q1.1;have lP:=q1.2;subst lO;subst lP;refine pm [.v (.slice none 0 0)] (by kernel_rfl) (by kernel_rfl) (by kernel_rfl) [(1000,1000),(1001,1001),(1002,1002),(1003,1003),(1004,1004),(10800,1005),(4,1006),(5,1007),(9,1008),(1,1009)] Y6 (iC roots C A s dec st 0) (iC roots C A s dec st (Dx roots dec).length) 170 [.ref 1005 0] rfl (by kernel_rfl) (by kernel_rfl) (by kernel_rfl) (by kernel_rfl) (by kernel_rfl) (fun l9 D9 f9 tm9 uo=>yA l9 roots C A s dec st hr (Bx hd (by decide)) my fun m n hn=>dU (σ:=Y6) 1007 0 1008 (Lg ⟨[],[(43,5)],[],[],[],[],[],[],[],[(500005,60001007)],[5]⟩) rfl Cw hm rfl rfl rfl uo (by kernel_rfl) (by kernel_rfl) (by kernel_rfl) (iD m) ?_) (by kernel_rfl) ?_
 ·have zP:m<(Dx roots dec).length:=(As.1 hn).1;have hol:=bl (roots:=roots) (dec:=dec) m;have hnl:=de hr hd my;have hF:=YE hn;refine Yi (Nz rfl) ?_;refine Yi ⟨rfl,rfl⟩ ?_;refine Xi ⟨[(1,.ref 1009 0),(4,.ref 1006 0),(5,.ref 1007 0),(6,.ref 6 0)],[(6,.cells (A9 n)),(60,.tok 5 ((Gs roots dec m).2.map A9).length),(1000,.cells (srM roots C A s dec 1004 st.length)),(1001,.tok 6 s.infs.length),(1002,.tok 1 s.drv.length),(1003,.map D0 (D3 0 s.infs)),(1004,.arr 1 (st.map AX)),(1005,.cells [.ref 1000 0]),(1006,.cells [vs (Gs roots dec m).1]),(1007,.cells [.slice (.id 60 5) ((Gs roots dec m).2.map A9)]),(1008,.vox m),(1009,.cells [.ref 1000 0])],Aa⟩ (Yi ⟨Z4,Z12,Fh,AB (by kernel_rfl)⟩ ?_)
  refine BT (Bt (Do dec n.rq.path)) (fun h2=>?_) (fun h2=>?_)
  ·have h2:(Do dec n.rq.path)=true:=h2;have Vl:=(td roots C A s dec st n.rq.path (Bx hd (by decide)));rw[show(Do dec n.rq.path)=true from h2]at Vl;refine Xi (.gen Y7 0) (Yi rfl (A6.imp Vl ?_));intro v4 g4 q4;have yh:=q4.1;have yi:=q4.2;subst yh;subst yi;refine Yi ⟨rfl,rfl⟩ ?_
   -- [('(Do dec n.rq.path)=true',True)]
   exact⟨rfl,TY (hF.trans (iE h2)) rfl rfl⟩
  have h2:(Do dec n.rq.path)=false:=h2;have mv:=(td roots C A s dec st n.rq.path (Bx hd (by decide)));rw[show(Do dec n.rq.path)=false from h2]at mv;refine Xi (.gen Y7 0) (Yi rfl (A6.imp mv ?_));intro v6 g6 q6;have yj:=q6.1;have ym:=q6.2;subst yj;subst ym;refine Yi (fun h7=>?_) (fun h7=>?_)
  ·have h7:(0:Int)<(((Gs roots dec m).2.map A9).length:Int):=h7;have n7:0<(Gs roots dec m).2.length:=by have q:=h7;rw[Lm]at q;omega
   refine Yi (fun h8=>?_) (fun h8=>?_)
   ·have h8:Eg (Gs roots dec m).1 n.rq.path=true:=(EX _ _).trans h8;refine Yi ⟨rfl,rfl⟩ ?_
    -- [('(Do dec n.rq.path)=true',False),('(0:Int)<(((Gs roots dec m).2.map A9).length:Int)',True),('Eg (Gs roots dec m).1 n.rq.path=true',True)]
    exact⟨rfl,TY (hF.trans (lA h7 h8)) rfl rfl⟩
   have h8:Eg (Gs roots dec m).1 n.rq.path=false:=(EX _ _).trans (AK.2 h8);refine Yi (fun _=>?_) (fun hf=>absurd h7 hf);refine Yi (fun h9=>?_) (fun h9=>?_)
   ·have h9:Eg n.rq.path (Gs roots dec m).1=true:=(EX _ _).trans h9;refine Yi (Nz rfl) ?_;refine Yi (Nz rfl) ?_;refine Yi (Nz rfl) ?_;have Y2:CQ 5 [(A9 n)]∧([(A9 n)]:List (List AV)).length*72≤140737488355328∧([(A9 n)]:List (List AV)).length≤9223372036854775807:=⟨⟨rfl,trivial⟩,(by simp only[Az,AJ];omega),(by simp only[Az,AJ];omega)⟩;refine Yi Y2 ?_;refine Yi (Nz rfl) ?_;refine Yi ⟨rfl,rfl⟩ ?_
    -- [('(Do dec n.rq.path)=true',False),('(0:Int)<(((Gs roots dec m).2.map A9).length:Int)',True),('Eg (Gs roots dec m).1 n.rq.path=true',False),('Eg n.rq.path (Gs roots dec m).1=true',True)]
    exact⟨rfl,TY (hF.trans (iF h2 h7 h8 h9)) rfl rfl⟩
   have h9:Eg n.rq.path (Gs roots dec m).1=false:=(EX _ _).trans (AK.2 h9);refine Yi (Nz rfl) ?_;refine Yi (Nz rfl) ?_;have nt:CQ 5 [(A9 n)]∧((Gs roots dec m).2.map A9).length=((Gs roots dec m).2.map A9).length∧(((Gs roots dec m).2.map A9).length+([(A9 n)]:List (List AV)).length)*72≤140737488355328∧((Gs roots dec m).2.map A9).length+([(A9 n)]:List (List AV)).length≤9223372036854775807:=⟨⟨rfl,trivial⟩,rfl,(by simp only[Lm,Az,AJ];omega),(by simp only[Lm,Az,AJ];omega)⟩;refine Yi nt ?_;refine Yi (Nz rfl) ?_;refine Yi ⟨(Pe _ n).symm,rfl⟩ ?_
   -- [('(Do dec n.rq.path)=true',False),('(0:Int)<(((Gs roots dec m).2.map A9).length:Int)',True),('Eg (Gs roots dec m).1 n.rq.path=true',False),('Eg n.rq.path (Gs roots dec m).1=true',False)]
   exact⟨rfl,TY (hF.trans (iG h2 h8 h9)) (Yu _ n) (Pe _ n)⟩
  have h7:¬((0:Int)<(((Gs roots dec m).2.map A9).length:Int)):=h7;have n7:¬0<(Gs roots dec m).2.length:=by have q:=h7;rw[Lm]at q;omega
  refine Yi (fun hf=>absurd hf h7) (fun _=>?_);refine Yi (Nz rfl) ?_;refine Yi (Nz rfl) ?_;have tV:CQ 5 [(A9 n)]∧((Gs roots dec m).2.map A9).length=((Gs roots dec m).2.map A9).length∧(((Gs roots dec m).2.map A9).length+([(A9 n)]:List (List AV)).length)*72≤140737488355328∧((Gs roots dec m).2.map A9).length+([(A9 n)]:List (List AV)).length≤9223372036854775807:=⟨⟨rfl,trivial⟩,rfl,(by simp only[Lm,Az,AJ];omega),(by simp only[Lm,Az,AJ];omega)⟩;refine Yi tV ?_;refine Yi (Nz rfl) ?_;refine Yi ⟨(Pe _ n).symm,rfl⟩ ?_
  -- [('(Do dec n.rq.path)=true',False),('(0:Int)<(((Gs roots dec m).2.map A9).length:Int)',False)]
  exact⟨rfl,TY (hF.trans (lC h2 h7)) (Yu _ n) (Pe _ n)⟩
 refine Yi (by kernel_rfl) ?_;exact Xi _ (Yi (.refl _) ⟨show AV.tup [vs (Gs roots dec (Dx roots dec).length).1,sl A9 (Gs roots dec (Dx roots dec).length).2]=_ by rw[lz (Al _)],rfl⟩)
end Go.Eng
namespace Go.Eng
open Go.Proofs
theorem cL{α:Type}(pr:α→Bool)(l:List α):(∃(k:Nat) (n:α),Ks pr l 0=(k:Nat)∧l[k]?=some n∧l.find? pr=some n)∨(Ks pr l 0=-1∧l.find? pr=none):=by
 have key:∀(l:List α) (b:Nat),(∃(k:Nat) (n:α),Ks pr l (b:Nat)=((b+k:Nat):Int)∧l[k]?=some n∧l.find? pr=some n)∨(Ks pr l (b:Nat)=-1∧l.find? pr=none):=by
  intro l
  induction l with
  |nil=>intro b;exact .inr Zr
  |cons y l ih =>
   intro b;cases h:pr y with
   |true=>exact .inl ⟨0,y,by unfold Ks;rw[Ap h];rfl,rfl,by rw[E0,h]⟩
   |false =>
    have e:Ks pr (y::l) (b:Nat)=Ks pr l ((b+1:Nat):Int):=by
     conv=>lhs;unfold Ks
     rw[Aj (by rw[h];decide)];rw[show((b+1:Nat):Int)=(b:Int)+1 by omega]
    have e2:(y::l).find? pr=l.find? pr:=by rw[E0,h]
    rcases ih (b+1)with ⟨k,n,h1,h2,h3⟩ | ⟨h1,h2⟩
    ·exact .inl ⟨k+1,n,by rw[e,h1];congr 1;omega,by simpa using h2,by rw[e2];exact h3⟩
    ·exact .inr ⟨by rw[e];exact h1,by rw[e2];exact h2⟩
 have:=key l 0
 simpa using this
section
variable {rec:List Cd→SS→List (List Sk)→Kf}{x:List Rl}{p:ByteArray}{N:List Nd}{n0:Nd}{dec:List Cd}{st:List (List Sk)}{cs:List Cd}{i:Nat}{S:SS}{rs:List Nat}{sk:List Sk}
theorem fm(h:¬i<cs.length):D7 rec x p N n0 dec st (cs.drop i) S rs sk=⟨(Ec x p n0 rs S).1,false,(Ec x p n0 rs S).2,dec,st⟩:=by
 rw[EP (by omega)];rfl
theorem kf(h:i<cs.length)(hf:S.full=true):D7 rec x p N n0 dec st (cs.drop i) S rs sk=⟨0,false,S,dec,st⟩:=by
 rw[A7 h,GD,Ap hf]
theorem qO(h:i<cs.length)(hf:S.full=false){n:Nd}(hn:N.find? (fun n=>!has n.rq.set cs[i].place)=some n):D7 rec x p N n0 dec st (cs.drop i) S rs sk=D7 rec x p N n0 dec st (cs.drop (i+1)) (Bm S n).2 (rs++[(Bm S n).1]) sk:=by
 rw[A7 h,GD,Aj (by rw[hf];decide),hn]
theorem Wu(h:i<cs.length)(hf:S.full=false)(hn:N.find? (fun n=>!has n.rq.set cs[i].place)=none){k:Nat}(he:OJ S.drv (AO (dec++[cs[i]]))=some k):D7 rec x p N n0 dec st (cs.drop i) S rs sk=JW rec x p N n0 dec st cs[i] (cs.drop (i+1)) rs sk k S:=by
 rw[A7 h,GD,Aj (by rw[hf];decide),hn];dsimp only;rw[he]
theorem XB(h:i<cs.length)(hf:S.full=false)(hn:N.find? (fun n=>!has n.rq.set cs[i].place)=none)(he:OJ S.drv (AO (dec++[cs[i]]))=none){n:Nd}(hc:Ek dec cs[i]=some n) :
  D7 rec x p N n0 dec st (cs.drop i) S rs sk=JW rec x p N n0 dec st cs[i] (cs.drop (i+1)) rs sk (Bm S n).1 (Bm S n).2:=by
 rw[A7 h,GD,Aj (by rw[hf];decide),hn];dsimp only;rw[he];dsimp only;rw[hc]
theorem Wv(h:i<cs.length)(hf:S.full=false)(hn:N.find? (fun n=>!has n.rq.set cs[i].place)=none)(he:OJ S.drv (AO (dec++[cs[i]]))=none)(hc:Ek dec cs[i]=none){o:Kf}(ho:o=rec (dec++[cs[i]]) S (st++[sk])) :
  D7 rec x p N n0 dec st (cs.drop i) S rs sk=if o.found=true then⟨0,true,o.ss,o.dec,o.stack⟩else if o.ss.full=true then⟨0,false,o.ss,dec,st⟩else JW rec x p N n0 dec st cs[i] (cs.drop (i+1)) rs sk o.res o.ss:=by
 rw[ho,A7 h,GD,Aj (by rw[hf];decide),hn];dsimp only;rw[he];dsimp only;rw[hc]
theorem aA{c:Cd}{l:List Cd}{k:Nat}(h:De (DP S k) p=false):JW rec x p N n0 dec st c l rs sk k S=⟨k,false,S,dec,st⟩:=by unfold JW;rw[Ap h]
theorem Wl{c:Cd}{l:List Cd}{k:Nat}(h:De (DP S k) p=true):JW rec x p N n0 dec st c l rs sk k S=D7 rec x p N n0 dec st l S (rs++[k]) (sk++[⟨p,c.place,(k:Nat)⟩]):=by unfold JW;rw[Aj (by rw[h];decide)]
end
theorem XH{x:List Rl}{dec:List Cd}(h:EN x dec):dec.length≤x.length:=by
 have h1:=Iy (m:=x.map (·.path)) h.nodup fun p hp=>by
  obtain⟨c,hc,rfl⟩:=Am.1 hp;exact Am.2 ⟨c.rel,(h.cand c hc).1,rfl⟩
 rw[Lm,Lm]at h1;exact h1
theorem U6(x:List Rl)(p:ByteArray):(Co x p).length≤x.length:=by
 unfold Co;rw[Lm];exact Bv _ _
end Go.Eng
