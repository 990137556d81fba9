/- Lemmas for the claims of this seat, without a condition: part 27 (S8a, S9, S10, S8b). -/
import Derived.Test.YtmcbkdbfaneofaaGreatDoorCA26
set_option maxHeartbeats 4000000
namespace Go.Eng
open Go.Proofs
abbrev Yn:IK:=[(1000,1000),(1001,1001),(1002,1002),(1003,1003),(500,1004)]
abbrev sj(roots:List Rq)(C A:List (Value×AV))(s:SS)(dec:List Cd)(st:List (List Sk)):List (Nat×HO) :=
 [(1000,.cells (srM roots C A s dec 2000 st.length)),(1001,.tok 6 s.infs.length),(1002,.tok 1 s.drv.length),(1003,.map DR (DT 0 s.infs)),(1004,.dead),(2000,.arr 1 (st.map AS))]
abbrev Yo(roots:List Rq)(C A:List (Value×AV))(o:JN)(r:AV)(h' : Nat→HO):Prop:=r=.tup [vi (o.res:Nat),vb o.found]∧h'=Ah (sj roots C A o.ss o.dec o.stack) Ab
def x5(roots:List Rq)(C A:List (Value×AV)):Prop:=∀(s:SS) (dec:List Cd) (st:List (List Sk)),dec.length≤1000→(∀c∈dec,c.rel.reqs.length≤1073741824) →
 Bd Tryz.prog 119 [.ref 1000 0] (Ah (IW roots C A s dec st) Ab) fun r h'=>r=.tup [vs (Gw roots dec).1,sl A8 (Gw roots dec).2]∧h'=Ah (IW roots C A s dec st) Ab
theorem Nb{roots:List Rq}{C A:List (Value×AV)}{o:JN}{k:Nat}{b:Bool}{s:SS}{dec:List Cd}{st:List (List Sk)}(e:o=⟨k,b,s,dec,st⟩) :
  AV.tup [vi (k:Nat),vb b]=.tup [vi (o.res:Nat),vb o.found]∧Ah (sj roots C A s dec st) Ab=Ah (sj roots C A o.ss o.dec o.stack) Ab:=by rw[e];exact Zr
abbrev Yl:IK:=[(1000,1000),(1001,1001),(1002,1002),(1003,1003),(1004,1004),(1005,1005),(1006,1006),(1007,1007),(1008,1008),(1009,1009)]
def FV(roots:List Rq)(dec:List Cd)(m:Nat):ByteArray×List Nd:=((Dr roots dec).take m).foldl (Eb dec) (mt,[])
theorem XX{roots:List Rq}{dec:List Cd}{m:Nat}{n:Nd}(h:(Dr roots dec)[m]?=some n):FV roots dec (m+1)=Eb dec (FV roots dec m) n:=by
 unfold FV;rw[Bs,h,J4];rfl
theorem kb{roots:List Rq}{dec:List Cd}{m:Nat}(h:(Dr roots dec).length≤m):FV roots dec m=Gw roots dec:=by
 unfold FV Gw;rw[AT h]
def EY(roots:List Rq)(dec:List Cd)(j:Nat):Nat:=roots.length+((dec.take j).map fun c=>c.rel.reqs.length).sum
theorem Tq(c:Cd):(PR c).length=c.rel.reqs.length:=Ku _ _ _
theorem cz(roots:List Rq)(dec:List Cd):EY roots dec 0=roots.length:=by unfold EY;simp
theorem cy{roots:List Rq}{dec:List Cd}{j:Nat}(h:j<dec.length):EY roots dec (j+1)=EY roots dec j+dec[j].rel.reqs.length:=by
 unfold EY;rw[J7 h,AH,List.sum_append];simp[Nat.add_assoc]
theorem X0(roots:List Rq)(dec:List Cd):EY roots dec dec.length=(Dr roots dec).length:=by
 unfold EY Dr Yb;rw[Du,Ad,Ku,List.length_flatten,BN]
 congr 2
 exact Be fun c _=>(Tq c).symm
theorem co{roots:List Rq}{dec:List Cd}{i:Nat}(h:i<roots.length):(Dr roots dec)[i]?=some ⟨roots[i],mt,0,(i:Nat)⟩:=by
 unfold Dr Yb;rw[AW (by rw[Ku];exact h),OP,Ge h,Fq,Bi]
theorem Xf{α:Type}:∀{l:List (List α)} {j k:Nat} (hj:j<l.length),k<l[j].length→l.flatten[((l.take j).map List.length).sum+k]?=l[j][k]?
 |y::l,0,k,_,hk=>by
  rw[By,List.take_zero,EW,List.sum_nil,Bi,AW (show k<y.length from hk)];rfl
 |y::l,j+1,k,hj,hk=>by
  rw[By,IJ,AP,List.sum_cons,A2 (by omega)]
  have:=Xf (l:=l) (j:=j) (k:=k) (by simpa using hj) hk
  rw[show y.length+((l.take j).map List.length).sum+k-y.length=((l.take j).map List.length).sum+k by omega,this]
  rfl
theorem fY{roots:List Rq}{dec:List Cd}{j k:Nat}(hj:j<dec.length)(hk:k<dec[j].rel.reqs.length):(Dr roots dec)[EY roots dec j+k]?=some ⟨dec[j].rel.reqs[k],dec[j].rel.path,dec[j].place,(k:Nat)⟩:=by
 unfold Dr Yb EY;rw[A2 (by rw[Ku];omega),Ku];have h:=Xf (l:=dec.map PR) (j:=j) (k:=k) (by simpa using hj) (by rw[List.getElem_map,Tq];exact hk);rw[←QU,BN,show(List.length ∘ PR)=fun c=>c.rel.reqs.length from funext Tq]at h;rw[show roots.length+((dec.take j).map fun c=>c.rel.reqs.length).sum+k-roots.length=((dec.take j).map fun c=>c.rel.reqs.length).sum+k by omega,h,List.getElem_map];unfold PR;rw[OP,Ge hk,Fq,Bi]
abbrev gn(roots:List Rq)(C A:List (Value×AV))(s:SS)(dec:List Cd)(st:List (List Sk))(m:Nat):List (Nat×HO) :=
  [(1000,.cells (si roots C A s dec st.length)),(1001,.tok 6 s.infs.length),(1002,.tok 1 s.drv.length),(1003,.map DR (DT 0 s.infs)),(1004,.arr 1 (st.map AS)),
   (1005,.cells [.ref 1000 0]),(1006,.cells [vs (FV roots dec m).1]),(1007,.cells [.slice (.ver 1008 5 m) ((FV roots dec m).2.map A8)]),(1008,.var 5 m ((FV roots dec m).2.map A8).length),(1009,.cells [.ref 1000 0])]
noncomputable abbrev yr(pl:TK)(l:Nat)(Y:Gh→World→Prop):Cx:=⟨Tryz.prog,lJ,pl,true,0,fun l' σ' g w=>l'=l→σ'=Yl→Y g w⟩
theorem IC.pre{P:Program}{Y Y' : Gh→World→Prop}{l:Nat}{args:List AV}{h0:Nat→HO}{Q:AV→(Nat→HO)→Prop}(h:IC P Y l args h0 Q)(hp:∀g w,Y' g w→Y g w):IC P Y' l args h0 Q :=
 fun g w vals q1 q2 q3 q4=>h g w vals q1 q2 q3 (hp g w q4)
theorem vW(roots:List Rq)(C A:List (Value×AV))(s:SS)(dec:List Cd)(st:List (List Sk)):Bd Tryz.prog 150 [.ref 1000 0] (Ah (IW roots C A s dec st) Ab) fun r h'=>r=.clo 192 [.ref 2000 0]∧h'=Ah (IW roots C A s dec st++[(2000,.cells [.ref 1000 0])]) Ab:=by
 refine Cm (Mo ⟨[],[],[],[],[],[],[],[],[],[],[]⟩) [(1000,1000),(1001,1001),(1002,1002),(1003,1003),(1004,1004),(1,2000)] rfl CK hm rfl Tryz.func150 (by kernel_rfl) rfl (Nz rfl) (by kernel_rfl) rfl ?_;exact Xi _ (Yi (.refl _) Zr)
theorem vX{Y:Gh→World→Prop}(l:Nat)(roots:List Rq)(C A:List (Value×AV))(s:SS)(dec:List Cd)(st:List (List Sk))(hr:roots.length≤1073741824)(hd:dec.length≤1073741824)(oe:∀c∈dec,c.rel.reqs.length≤1073741824)
  (hy:∀m n,(Dr roots dec)[m]?=some n→IC Tryz.prog Y l [.agg (A8 n)] (Ah (gn roots C A s dec st m) Ab) fun r h'=>r=vb true∧h'=Ah (gn roots C A s dec st (m+1)) Ab) :
  WE Tryz.prog Y Yl 192 [.v (.func (.yield l) #[] #[]),.ref 1005 0] (Ah (gn roots C A s dec st 0) Ab) fun _ h'=>h'=Ah (gn roots C A s dec st (Dr roots dec).length) Ab:=by
 have hr:roots.length≤1073741824:=hr;refine fE (l:=l) (yr ⟨[],[],[],[],[],[],[],[],[],[],[4,12]⟩ l Y) Yl rfl CK hm rfl Tryz.func192 (by kernel_rfl) rfl (Nz rfl) (by kernel_rfl) rfl rfl ?_;refine Xi {i:Nat // i≤roots.length} (Xi (fun q=>⟨[(0,.v (.func (.yield l) #[] #[])),(1,.ref 1005 0),(12,sl AM roots),(13,vi (roots.map AM).length),(14,vi q.1)],[(1000,.cells (srM roots C A s dec 1004 st.length)),(1001,.tok 6 s.infs.length),(1002,.tok 1 s.drv.length),(1003,.map DR (DT 0 s.infs)),(1004,.arr 1 (st.map AS)),(1005,.cells [.ref 1000 0]),(1006,.cells [vs (FV roots dec q.1).1]),(1007,.cells [.slice (.ver 1008 5 q.1) ((FV roots dec q.1).2.map A8)]),(1008,.var 5 q.1 ((FV roots dec q.1).2.map A8).length),(1009,.cells [.ref 1000 0])],Ab⟩) (Xi (fun q=>roots.length-q.1) (Yi (Xi ⟨0,AN _⟩ ?_) ?_)))
 ·exact⟨Z5,Z10,Fh,Ax (by kernel_rfl)⟩
 intro⟨i,i1⟩;have i1:i≤roots.length:=i1;refine Yi (fun h1=>?_) (fun h1=>?_)
 ·have h1:(i:Int)<((roots.map AM).length:Int):=h1;have n1:=KZ h1;refine Xi (AM roots[i]) (Yi (Pi n1) (Yi rfl ?_));refine Yi (Nz rfl) ?_;refine Yi (Nz rfl) ?_;refine Yi (Nz rfl) ?_;refine Xi (.gen Yl 0) (Yi rfl (IC.imp (IC.pre (hy i ⟨roots[i],mt,0,(i:Nat)⟩ (co n1)) (fun g w q=>q rfl rfl)) ?_));intro v2 g2 q2;have vw:=q2.1;have vz:=q2.2;subst vw;subst vz;refine Xi ⟨[(0,.v (.func (.yield l) #[] #[])),(1,.ref 1005 0),(12,sl AM roots),(13,vi (roots.map AM).length),(14,vi i)],[(1000,.cells (srM roots C A s dec 1004 st.length)),(1001,.tok 6 s.infs.length),(1002,.tok 1 s.drv.length),(1003,.map DR (DT 0 s.infs)),(1004,.arr 1 (st.map AS)),(1005,.cells [.ref 1000 0]),(1006,.cells [vs (FV roots dec (i+1)).1]),(1007,.cells [.slice (.ver 1008 5 (i+1)) ((FV roots dec (i+1)).2.map A8)]),(1008,.var 5 (i+1) ((FV roots dec (i+1)).2.map A8).length),(1009,.cells [.ref 1000 0])],Ab⟩ (Yi ⟨Z5,Z10,Fh,Ax (by kernel_rfl)⟩ ?_)
  refine Yi (Ii i (by omega)) ?_;refine Xi ⟨i+1,by omega⟩ ?_;exact⟨Dl roots.length i (by omega),Z5,Z10,Fh,Ax (by kernel_rfl)⟩
 have h1:¬((i:Int)<((roots.map AM).length:Int)):=h1;have n1:=KY h1;have hE:i=EY roots dec 0:=by rw[cz];omega
 refine Xi {j:Nat // j≤dec.length} (Xi (fun q=>⟨[(0,.v (.func (.yield l) #[] #[])),(29,sl AE dec),(30,vi (dec.map AE).length),(31,vi q.1)],[(1000,.cells (srM roots C A s dec 1004 st.length)),(1001,.tok 6 s.infs.length),(1002,.tok 1 s.drv.length),(1003,.map DR (DT 0 s.infs)),(1004,.arr 1 (st.map AS)),(1005,.cells [.ref 1000 0]),(1006,.cells [vs (FV roots dec (EY roots dec q.1)).1]),(1007,.cells [.slice (.ver 1008 5 (EY roots dec q.1)) ((FV roots dec (EY roots dec q.1)).2.map A8)]),(1008,.var 5 (EY roots dec q.1) ((FV roots dec (EY roots dec q.1)).2.map A8).length),(1009,.cells [.ref 1000 0])],Ab⟩) (Xi (fun q=>dec.length-q.1) (Yi (Xi ⟨0,AN _⟩ ?_) ?_)))
 ·exact⟨Z4,⟨Zr,Zr,Zr,Zr,Zr,Zr,⟨(show .cells [vs (FV roots dec i).1]=(.cells [vs (FV roots dec (EY roots dec 0)).1]:HO) by rw[hE]),rfl⟩,⟨(show .cells [.slice (.ver 1008 5 i) ((FV roots dec i).2.map A8)]=(.cells [.slice (.ver 1008 5 (EY roots dec 0)) ((FV roots dec (EY roots dec 0)).2.map A8)]:HO) by rw[hE]),rfl⟩,⟨(show .var 5 i ((FV roots dec i).2.map A8).length=(.var 5 (EY roots dec 0) ((FV roots dec (EY roots dec 0)).2.map A8).length:HO) by rw[hE]),rfl⟩,Zr,Tv⟩,Fh,Ax (by kernel_rfl)⟩
 intro⟨j,j1⟩;have j1:j≤dec.length:=j1;refine Yi (fun h4=>?_) (fun h4=>?_)
 ·have h4:(j:Int)<((dec.map AE).length:Int):=h4;have n4:=KZ h4;have rI:=oe dec[j] (Aq n4);refine Xi (AE dec[j]) (Yi (Pi n4) (Yi rfl ?_));refine Yi (Nz rfl) ?_;refine Yi (Nz rfl) ?_;refine Xi {k:Nat // k≤dec[j].rel.reqs.length} (Xi (fun q=>⟨[(0,.v (.func (.yield l) #[] #[])),(6,.ref 6 0),(29,sl AE dec),(30,vi (dec.map AE).length),(31,vi j),(37,sl AM dec[j].rel.reqs),(38,vi (dec[j].rel.reqs.map AM).length),(39,vi q.1)],[(6,.cells (AE dec[j])),(1000,.cells (srM roots C A s dec 1004 st.length)),(1001,.tok 6 s.infs.length),(1002,.tok 1 s.drv.length),(1003,.map DR (DT 0 s.infs)),(1004,.arr 1 (st.map AS)),(1005,.cells [.ref 1000 0]),(1006,.cells [vs (FV roots dec (EY roots dec j+q.1)).1]),(1007,.cells [.slice (.ver 1008 5 (EY roots dec j+q.1)) ((FV roots dec (EY roots dec j+q.1)).2.map A8)]),(1008,.var 5 (EY roots dec j+q.1) ((FV roots dec (EY roots dec j+q.1)).2.map A8).length),(1009,.cells [.ref 1000 0])],Ab⟩) (Xi (fun q=>dec[j].rel.reqs.length-q.1) (Yi (Xi ⟨0,AN _⟩ ?_) ?_)))
  ·exact⟨Z8,Z11,Fh,Ax (by kernel_rfl)⟩
  intro⟨k,k1⟩;have k1:k≤dec[j].rel.reqs.length:=k1;refine Yi (fun h5=>?_) (fun h5=>?_)
  ·have h5:(k:Int)<((dec[j].rel.reqs.map AM).length:Int):=h5;have n5:=KZ h5;refine Xi (AM dec[j].rel.reqs[k]) (Yi (Pi n5) (Yi rfl ?_));refine Yi (Nz rfl) ?_;refine Yi (Nz rfl) ?_;refine Yi (Nz rfl) ?_;refine Xi (.gen Yl 0) (Yi rfl (IC.imp (IC.pre (hy (EY roots dec j+k) ⟨dec[j].rel.reqs[k],dec[j].rel.path,dec[j].place,(k:Nat)⟩ (fY n4 n5)) (fun g w q=>q rfl rfl)) ?_));intro v6 g6 q6;have vK:=q6.1;have vL:=q6.2;subst vK;subst vL;refine Xi ⟨[(0,.v (.func (.yield l) #[] #[])),(6,.ref 6 0),(29,sl AE dec),(30,vi (dec.map AE).length),(31,vi j),(37,sl AM dec[j].rel.reqs),(38,vi (dec[j].rel.reqs.map AM).length),(39,vi k)],[(6,.cells (AE dec[j])),(1000,.cells (srM roots C A s dec 1004 st.length)),(1001,.tok 6 s.infs.length),(1002,.tok 1 s.drv.length),(1003,.map DR (DT 0 s.infs)),(1004,.arr 1 (st.map AS)),(1005,.cells [.ref 1000 0]),(1006,.cells [vs (FV roots dec (EY roots dec j+(k+1))).1]),(1007,.cells [.slice (.ver 1008 5 (EY roots dec j+(k+1))) ((FV roots dec (EY roots dec j+(k+1))).2.map A8)]),(1008,.var 5 (EY roots dec j+(k+1)) ((FV roots dec (EY roots dec j+(k+1))).2.map A8).length),(1009,.cells [.ref 1000 0])],Ab⟩ (Yi ⟨Z8,Z11,Fh,Ax (by kernel_rfl)⟩ ?_)
   refine Yi (Ii k (by omega)) ?_;refine Xi ⟨k+1,by omega⟩ ?_;exact⟨by show dec[j].rel.reqs.length-(k+1)<dec[j].rel.reqs.length-k;omega,Z8,Z11,Fh,Ax (by kernel_rfl)⟩
  have h5:¬((k:Int)<((dec[j].rel.reqs.map AM).length:Int)):=h5;have n5:=KY h5;refine Yi (Ii j (by omega)) ?_;have hE:EY roots dec j+k=EY roots dec (j+1):=by rw[cy n4];omega
  refine Xi ⟨j+1,by omega⟩ ?_;exact⟨Dl dec.length j (by omega),Z4,⟨Zr,Zr,Zr,Zr,Zr,Zr,⟨(show .cells [vs (FV roots dec (EY roots dec j+k)).1]=(.cells [vs (FV roots dec (EY roots dec (j+1))).1]:HO) by rw[hE]),rfl⟩,⟨(show .cells [.slice (.ver 1008 5 (EY roots dec j+k)) ((FV roots dec (EY roots dec j+k)).2.map A8)]=(.cells [.slice (.ver 1008 5 (EY roots dec (j+1))) ((FV roots dec (EY roots dec (j+1))).2.map A8)]:HO) by rw[hE]),rfl⟩,⟨(show .var 5 (EY roots dec j+k) ((FV roots dec (EY roots dec j+k)).2.map A8).length=(.var 5 (EY roots dec (j+1)) ((FV roots dec (EY roots dec (j+1))).2.map A8).length:HO) by rw[hE]),rfl⟩,Zr,Tv⟩,Fh,Ax (by kernel_rfl)⟩
 have h4:¬((j:Int)<((dec.map AE).length:Int)):=h4;have n4:=KY h4;exact Ac (fun m=>Ah (gn roots C A s dec st m) Ab) (show EY roots dec j=(Dr roots dec).length by rw[←X0];congr 1;omega)
theorem np{h:Nat→HO}{o k r sz:Nat}{cs:List AV}{K:(Nat→HO)→Prop}(c1:h o=.cells cs)(c2:IU cs k=.v (.slice none 0 0))(c3:h r=.free)(hk:K (AU (AU h r (.var sz 0 0)) o (.cells (Et cs k (.slice (.ver r sz 0) []))))):oA h o k r sz K:=by
 unfold oA;rw[c1];show match IU cs k with
  |.v (.slice none 0 0)=>match h r with
   |.free=>K (AU (AU h r (.var sz 0 0)) o (.cells (Et cs k (.slice (.ver r sz 0) []))))
   |_=>False
  |_=>False
 rw[c2,c3];exact hk
theorem nF{o k r0 sz:Nat}{bw:Cx}{P:Program}{N:Nat}{fn:Func}{σ:IK}{Q:AV→(Nat→HO)→Prop}{b rest:Code}{st:St}(cs:List AV)(c1:st.h o=.cells cs)(c2:IU cs k=.v (.slice none 0 0))(c3:st.h r0=.free)(σF σr:IK)(H0 Hn:List (Nat×HO))(gf:Nat)(caps:List AV)
  {kR s:Nat} {ps:Array Tmp} {Gu body:Code} (hb:b=.block kR (.rangeFunc (.tmp s) ps Gu body)) (k1:(Ef σF&&DC (AU (AU st.h r0 (.var sz 0 0)) o (.cells (Et cs k (.slice (.ver r0 sz 0) [])))) 0 0&&Dk σF 0 0)=true) (k2:Fr σF (AU (AU st.h r0 (.var sz 0 0)) o (.cells (Et cs k (.slice (.ver r0 sz 0) []))))=Ah H0 Ab) (k3:(Gz σr&&Ih σr H0)=true) (k4:Ih σr Hn=true)
  (k5:ren (Ct σF) (AU (AU st.h r0 (.var sz 0 0)) o (.cells (Et cs k (.slice (.ver r0 sz 0) [])))) (st.t s)=.clo gf caps)
  (k6:∀(l D:Nat) (f' : FuncId) (tm:Array Value),tm.size=N→WE P (fun g w=>w.heap[l]?=some (.loop (HG f' tm ps Gu body D .ready))∧∀i,BG g w (AR (Ah H0 Ab)) (ren (Ct σF) (AU (AU st.h r0 (.var sz 0 0)) o (.cells (Et cs k (.slice (.ver r0 sz 0) [])))) (st.t i)) (tm.getD i undef)) σr gf
   (.v (.func (.yield l) #[] #[])::caps) (Ah H0 Ab) fun _ h'=>h'=Ah Hn Ab)
  (k7:En N rest=true) (k8:QV bw rest (W6 bw fn.results.toList σr fun r h'=>Q (ren (Ct σ) (DZ σF 0 0 (AU (AU st.h r0 (.var sz 0 0)) o (.cells (Et cs k (.slice (.ver r0 sz 0) [])))) h') (ren (EX σF 0 0) h' r)) (Fr σ (DZ σF 0 0 (AU (AU st.h r0 (.var sz 0 0)) o (.cells (Et cs k (.slice (.ver r0 sz 0) [])))) h')))
   ⟨fun i=>ren (Ct σF) (AU (AU st.h r0 (.var sz 0 0)) o (.cells (Et cs k (.slice (.ver r0 sz 0) [])))) (st.t i),Ah Hn Ab⟩) (k9:N7 [] body=false:=by kernel_rfl):sr o k r0 sz bw P N fn σ Q b rest st :=
 np c1 c2 c3 ⟨σF,σr,H0,Hn,kR,s,ps,Gu,body,gf,caps,hb,k1,k2,k3,k4,k5,k6,k7,k9,k8⟩
section
variable {roots:List Rq}{C A:List (Value×AV)}{s:SS}{dec:List Cd}{st:List (List Sk)}{n:Nd}
theorem Tg{m:Nat}{p:ByteArray}{o:List Nd}(e:FV roots dec (m+1)=(p,o)){es:List (List AV)}{k:Nat}(h1:es=o.map A8)(h2:k=es.length) :
  Ah [(1000,.cells (si roots C A s dec st.length)),(1001,.tok 6 s.infs.length),(1002,.tok 1 s.drv.length),(1003,.map DR (DT 0 s.infs)),(1004,.arr 1 (st.map AS)),
   (1005,.cells [.ref 1000 0]),(1006,.cells [vs p]),(1007,.cells [.slice (.ver 1008 5 (m+1)) es]),(1008,.var 5 (m+1) k),(1009,.cells [.ref 1000 0])] Ab=Ah (gn roots C A s dec st (m+1)) Ab:=by
 subst h1;subst h2
 rw[show gn roots C A s dec st (m+1)=[(1000,.cells (si roots C A s dec st.length)),(1001,.tok 6 s.infs.length),(1002,.tok 1 s.drv.length),(1003,.map DR (DT 0 s.infs)),(1004,.arr 1 (st.map AS)),
   (1005,.cells [.ref 1000 0]),(1006,.cells [vs (FV roots dec (m+1)).1]),(1007,.cells [.slice (.ver 1008 5 (m+1)) ((FV roots dec (m+1)).2.map A8)]),(1008,.var 5 (m+1) ((FV roots dec (m+1)).2.map A8).length),(1009,.cells [.ref 1000 0])]from rfl,e]
theorem gq{a:ByteArray×List Nd}(h:De dec n.rq.path=true):Eb dec a n=(a.1,a.2):=by unfold Eb;rw[Aw (.inl h)]
theorem fX{o:List Nd}(h:(0:Int)<((o.map A8).length:Int)):o≠[]:=fun e=>by subst e;simp at h
theorem j7{o:List Nd}(h:¬(0:Int)<((o.map A8).length:Int)):o=[]:=by
 cases o with
 |nil=>rfl
 |cons y l=>exact absurd (by simp) h
theorem kc{a:ByteArray×List Nd}(h:(0:Int)<((a.2.map A8).length:Int))(hb:Fa a.1 n.rq.path=true):Eb dec a n=(a.1,a.2):=by unfold Eb;rw[Aw (.inr ⟨fX h,hb⟩)]
theorem gu{a:ByteArray×List Nd}(hd:De dec n.rq.path=false)(h:(0:Int)<((a.2.map A8).length:Int))(hb:Fa a.1 n.rq.path=false)(hs:Fa n.rq.path a.1=true):Eb dec a n=(n.rq.path,[n]):=by
 unfold Eb;rw[Ak (by rw[hd,hb];simp),Aw ⟨fX h,hs⟩]
theorem gv{a:ByteArray×List Nd}(hd:De dec n.rq.path=false)(hb:Fa a.1 n.rq.path=false)(hs:Fa n.rq.path a.1=false):Eb dec a n=(n.rq.path,a.2++[n]):=by
 unfold Eb;rw[Ak (by rw[hd,hb];simp),Ak (by rw[hs];simp)]
theorem kf{a:ByteArray×List Nd}(hd:De dec n.rq.path=false)(h:¬(0:Int)<((a.2.map A8).length:Int)):Eb dec a n=(n.rq.path,a.2++[n]):=by
 have:=j7 h
 unfold Eb;rw[Ak (by rw[hd,this];simp),Ak (by rw[this];simp)]
theorem kd(a:ByteArray×List Nd)(n:Nd):(Eb dec a n).2.length≤a.2.length+1:=by
 unfold Eb;split
 ·omega
 ·split
  ·simp
  ·simp
theorem au:∀(m:Nat),(FV roots dec m).2.length≤m
 |0=>Aj _
 |m+1=>by
  have ih:=au m;cases h:(Dr roots dec)[m]? with
  |none =>
   have e:FV roots dec (m+1)=FV roots dec m:=by unfold FV;rw[Bs,h];simp
   rw[e];omega
  |some n=>rw[XX h];exact A3 (kd _ _) (DH ih)
theorem Yg:∀{l l' : List (Nat×HO)},l.map Prod.fst=l'.map Prod.fst→(∀p∈l',p.2≠.free)→∀i,AR (Ah l Ab) i→AR (Ah l' Ab) i
 | [],[],_,_,_,h=>h
 |(a,o)::l,(a',o')::l',e,h,i,hu=>by
  rw[AP,AP]at e
  injection e with e1 e2
  have e1:a=a':=e1;subst e1;unfold AR at *
  by_cases q:i=a
  ·subst q;simp only[Ah,CV,JA];exact h _ (Aa ..)
  ·simp only[Ah,CH q,Eh]at hu⊢;exact Yg e2 (fun p hp=>h p (Af _ hp)) i hu
theorem gp(m:Nat):∀i,AR (Ah (gn roots C A s dec st 0) Ab) i→AR (Ah (gn roots C A s dec st m) Ab) i:=Yg rfl (by
 repeat (first | exact BU _ | refine Bu.2 ⟨by simp,?_⟩))
theorem aM:∀{l:List Cd},(∀c∈l,c.rel.reqs.length≤1073741824)→((l.map fun c=>c.rel.reqs.length)).sum≤l.length*1073741824
 | [],_=>by simp
 |c::l,h=>by
  have h1:=h c (Aa ..);have h2:=aM fun c hc=>h c (Af _ hc);rw[AP,List.sum_cons,At];omega
theorem cp(hr:roots.length≤1073741824)(hd:dec.length≤1000)(h:∀c∈dec,c.rel.reqs.length≤1073741824):(Dr roots dec).length≤1074815565824:=by
 rw[←X0];unfold EY;rw[Du]
 have:=aM h
 have:=Bg 1073741824 hd
 omega
end
theorem XK(l:List Nd)(n:Nd):l.map A8++[A8 n]=(l++[n]).map A8:=by rw[AH];rfl
theorem OF(l:List Nd)(n:Nd):(l.map A8).length+([A8 n]:List (List AV)).length=(l.map A8++[A8 n]).length:=Ad.symm
attribute [local irreducible] sr oA FV Dr Eb
theorem s64(roots:List Rq)(C A:List (Value×AV))(s:SS)(dec:List Cd)(st:List (List Sk))(hr:roots.length≤1073741824)(hd:dec.length≤1000)(oe:∀c∈dec,c.rel.reqs.length≤1073741824) :
  Bd Tryz.prog 119 [.ref 1000 0] (Ah (IW roots C A s dec st) Ab) fun r h'=>r=.tup [vs (Gw roots dec).1,sl A8 (Gw roots dec).2]∧h'=Ah (IW roots C A s dec st) Ab:=by
 refine aW 5 0 9 5 (Mo ⟨[],[],[],[],[],[],[],[],[],[],[]⟩) (Mo Gc) Ym rfl CK rfl CK hm rfl rfl Tryz.func119 (by kernel_rfl) rfl (Nz rfl) (by kernel_rfl) rfl 3 ?_;refine Yi (Nz rfl) ?_;refine Xi (.gen Ym 1) (Yi rfl (Bd.imp (vW roots C A s dec st) ?_));intro v1 g1 q1;have gN:=q1.1;have gO:=q1.2;subst gN;subst gO;refine nF [.v (.slice none 0 0)] (by kernel_rfl) (by kernel_rfl) (by kernel_rfl) [(1000,1000),(1001,1001),(1002,1002),(1003,1003),(1004,1004),(10800,1005),(4,1006),(5,1007),(9,1008),(1,1009)] Yl (gn roots C A s dec st 0) (gn roots C A s dec st (Dr roots dec).length) 192 [.ref 1005 0] rfl (by kernel_rfl) (by kernel_rfl) (by kernel_rfl) (by kernel_rfl) (by kernel_rfl) (fun l9 D9 f9 tm9 rV=>vX l9 roots C A s dec st hr (A3 hd (by decide)) oe fun m n hn=>df (σ:=Yl) 1007 0 1008 (Mo ⟨[],[(43,5)],[],[],[],[],[],[],[],[(500005,60001007)],[5]⟩) rfl CK hm rfl rfl rfl rV (by kernel_rfl) (by kernel_rfl) (by kernel_rfl) (gp m) ?_) (by kernel_rfl) ?_
 ·have xd:m<(Dr roots dec).length:=(As.1 hn).1;have hol:=au (roots:=roots) (dec:=dec) m;have hnl:=cp hr hd oe;have hF:=XX hn;refine Yi (Nz rfl) ?_;refine Yi ⟨rfl,rfl⟩ ?_;refine Xi ⟨[(1,.ref 1009 0),(4,.ref 1006 0),(5,.ref 1007 0),(6,.ref 6 0)],[(6,.cells (A8 n)),(60,.tok 5 ((FV roots dec m).2.map A8).length),(1000,.cells (srM roots C A s dec 1004 st.length)),(1001,.tok 6 s.infs.length),(1002,.tok 1 s.drv.length),(1003,.map DR (DT 0 s.infs)),(1004,.arr 1 (st.map AS)),(1005,.cells [.ref 1000 0]),(1006,.cells [vs (FV roots dec m).1]),(1007,.cells [.slice (.id 60 5) ((FV roots dec m).2.map A8)]),(1008,.vox m),(1009,.cells [.ref 1000 0])],Ab⟩ (Yi ⟨Z4,Z12,Fh,Ax (by kernel_rfl)⟩ ?_)
  refine BV (Bt (De dec n.rq.path)) (fun h2=>?_) (fun h2=>?_)
  ·have h2:(De dec n.rq.path)=true:=h2;have wP:=(rc roots C A s dec st n.rq.path (A3 hd (by decide)));rw[show(De dec n.rq.path)=true from h2]at wP;refine Xi (.gen Ym 0) (Yi rfl (Bd.imp wP ?_));intro v4 g4 q4;have vI:=q4.1;have vJ:=q4.2;subst vI;subst vJ;refine Yi ⟨rfl,rfl⟩ ?_
   -- [('(De dec n.rq.path)=true',True)]
   exact⟨rfl,Tg (hF.trans (gq h2)) rfl rfl⟩
  have h2:(De dec n.rq.path)=false:=h2;have wQ:=(rc roots C A s dec st n.rq.path (A3 hd (by decide)));rw[show(De dec n.rq.path)=false from h2]at wQ;refine Xi (.gen Ym 0) (Yi rfl (Bd.imp wQ ?_));intro v6 g6 q6;have vK:=q6.1;have vL:=q6.2;subst vK;subst vL;refine Yi (fun h7=>?_) (fun h7=>?_)
  ·have h7:(0:Int)<(((FV roots dec m).2.map A8).length:Int):=h7;have n7:0<(FV roots dec m).2.length:=by have q:=h7;rw[Lm]at q;omega
   refine Yi (fun h8=>?_) (fun h8=>?_)
   ·have h8:Fa (FV roots dec m).1 n.rq.path=true:=(HP _ _).trans h8;refine Yi ⟨rfl,rfl⟩ ?_
    -- [('(De dec n.rq.path)=true',False),('(0:Int)<(((FV roots dec m).2.map A8).length:Int)',True),('Fa (FV roots dec m).1 n.rq.path=true',True)]
    exact⟨rfl,Tg (hF.trans (kc h7 h8)) rfl rfl⟩
   have h8:Fa (FV roots dec m).1 n.rq.path=false:=(HP _ _).trans (AI.2 h8);refine Yi (fun _=>?_) (fun hf=>absurd h7 hf);refine Yi (fun h9=>?_) (fun h9=>?_)
   ·have h9:Fa n.rq.path (FV roots dec m).1=true:=(HP _ _).trans h9;refine Yi (Nz rfl) ?_;refine Yi (Nz rfl) ?_;refine Yi (Nz rfl) ?_;have Yh:Do 5 [(A8 n)]∧([(A8 n)]:List (List AV)).length*72≤140737488355328∧([(A8 n)]:List (List AV)).length≤9223372036854775807:=⟨⟨rfl,trivial⟩,(by simp only[At,AC];omega),(by simp only[At,AC];omega)⟩;refine Yi Yh ?_;refine Yi (Nz rfl) ?_;refine Yi ⟨rfl,rfl⟩ ?_
    -- [('(De dec n.rq.path)=true',False),('(0:Int)<(((FV roots dec m).2.map A8).length:Int)',True),('Fa (FV roots dec m).1 n.rq.path=true',False),('Fa n.rq.path (FV roots dec m).1=true',True)]
    exact⟨rfl,Tg (hF.trans (gu h2 h7 h8 h9)) rfl rfl⟩
   have h9:Fa n.rq.path (FV roots dec m).1=false:=(HP _ _).trans (AI.2 h9);refine Yi (Nz rfl) ?_;refine Yi (Nz rfl) ?_;have l6:Do 5 [(A8 n)]∧((FV roots dec m).2.map A8).length=((FV roots dec m).2.map A8).length∧(((FV roots dec m).2.map A8).length+([(A8 n)]:List (List AV)).length)*72≤140737488355328∧((FV roots dec m).2.map A8).length+([(A8 n)]:List (List AV)).length≤9223372036854775807:=⟨⟨rfl,trivial⟩,rfl,(by simp only[Lm,At,AC];omega),(by simp only[Lm,At,AC];omega)⟩;refine Yi l6 ?_;refine Yi (Nz rfl) ?_;refine Yi ⟨(OF _ n).symm,rfl⟩ ?_
   -- [('(De dec n.rq.path)=true',False),('(0:Int)<(((FV roots dec m).2.map A8).length:Int)',True),('Fa (FV roots dec m).1 n.rq.path=true',False),('Fa n.rq.path (FV roots dec m).1=true',False)]
   exact⟨rfl,Tg (hF.trans (gv h2 h8 h9)) (XK _ n) (OF _ n)⟩
  have h7:¬((0:Int)<(((FV roots dec m).2.map A8).length:Int)):=h7;have n7:¬0<(FV roots dec m).2.length:=by have q:=h7;rw[Lm]at q;omega
  refine Yi (fun hf=>absurd hf h7) (fun _=>?_);refine Yi (Nz rfl) ?_;refine Yi (Nz rfl) ?_;have rp:Do 5 [(A8 n)]∧((FV roots dec m).2.map A8).length=((FV roots dec m).2.map A8).length∧(((FV roots dec m).2.map A8).length+([(A8 n)]:List (List AV)).length)*72≤140737488355328∧((FV roots dec m).2.map A8).length+([(A8 n)]:List (List AV)).length≤9223372036854775807:=⟨⟨rfl,trivial⟩,rfl,(by simp only[Lm,At,AC];omega),(by simp only[Lm,At,AC];omega)⟩;refine Yi rp ?_;refine Yi (Nz rfl) ?_;refine Yi ⟨(OF _ n).symm,rfl⟩ ?_
  -- [('(De dec n.rq.path)=true',False),('(0:Int)<(((FV roots dec m).2.map A8).length:Int)',False)]
  exact⟨rfl,Tg (hF.trans (kf h2 h7)) (XK _ n) (OF _ n)⟩
 refine Yi (by kernel_rfl) ?_;exact Xi _ (Yi (.refl _) ⟨show AV.tup [vs (FV roots dec (Dr roots dec).length).1,sl A8 (FV roots dec (Dr roots dec).length).2]=_ by rw[kb (Aj _)],rfl⟩)
end Go.Eng
namespace Go.Eng
open Go.Proofs
theorem bU{α:Type}(pr:α→Bool)(l:List α):(∃(k:Nat) (n:α),HU pr l 0=(k:Nat)∧l[k]?=some n∧l.find? pr=some n)∨(HU pr l 0=-1∧l.find? pr=none):=by
 have key:∀(l:List α) (b:Nat),(∃(k:Nat) (n:α),HU pr l (b:Nat)=((b+k:Nat):Int)∧l[k]?=some n∧l.find? pr=some n)∨(HU pr l (b:Nat)=-1∧l.find? pr=none):=by
  intro l
  induction l with
  |nil=>intro b;exact .inr Zr
  |cons y l ih =>
   intro b;cases h:pr y with
   |true=>exact .inl ⟨0,y,by unfold HU;rw[Aw h];rfl,rfl,by rw[Fl,h]⟩
   |false =>
    have e:HU pr (y::l) (b:Nat)=HU pr l ((b+1:Nat):Int):=by
     conv=>lhs;unfold HU
     rw[Ak (by rw[h];decide)];rw[show((b+1:Nat):Int)=(b:Int)+1 by omega]
    have e2:(y::l).find? pr=l.find? pr:=by rw[Fl,h]
    rcases ih (b+1)with ⟨k,n,h1,h2,h3⟩ | ⟨h1,h2⟩
    ·exact .inl ⟨k+1,n,by rw[e,h1];congr 1;omega,by simpa using h2,by rw[e2];exact h3⟩
    ·exact .inr ⟨by rw[e];exact h1,by rw[e2];exact h2⟩
 have:=key l 0
 simpa using this
section
variable {rec:List Cd→SS→List (List Sk)→JN}{x:List Rl}{p:ByteArray}{N:List Nd}{n0:Nd}{dec:List Cd}{st:List (List Sk)}{cs:List Cd}{i:Nat}{S:SS}{rs:List Nat}{sk:List Sk}
theorem dT(h:¬i<cs.length):DW rec x p N n0 dec st (cs.drop i) S rs sk=⟨(DX x p n0 rs S).1,false,(DX x p n0 rs S).2,dec,st⟩:=by
 rw[G8 (by omega)];rfl
theorem je(h:i<cs.length)(hf:S.full=true):DW rec x p N n0 dec st (cs.drop i) S rs sk=⟨0,false,S,dec,st⟩:=by
 rw[Br h,F3,Aw hf]
theorem pg(h:i<cs.length)(hf:S.full=false){n:Nd}(hn:N.find? (fun n=>!has n.rq.set cs[i].place)=some n):DW rec x p N n0 dec st (cs.drop i) S rs sk=DW rec x p N n0 dec st (cs.drop (i+1)) (Bk S n).2 (rs++[(Bk S n).1]) sk:=by
 rw[Br h,F3,Ak (by rw[hf];decide),hn]
theorem VK(h:i<cs.length)(hf:S.full=false)(hn:N.find? (fun n=>!has n.rq.set cs[i].place)=none){k:Nat}(he:Oe S.drv (AK (dec++[cs[i]]))=some k):DW rec x p N n0 dec st (cs.drop i) S rs sk=Jx rec x p N n0 dec st cs[i] (cs.drop (i+1)) rs sk k S:=by
 rw[Br h,F3,Ak (by rw[hf];decide),hn];dsimp only;rw[he]
theorem WT(h:i<cs.length)(hf:S.full=false)(hn:N.find? (fun n=>!has n.rq.set cs[i].place)=none)(he:Oe S.drv (AK (dec++[cs[i]]))=none){n:Nd}(hc:D1 dec cs[i]=some n) :
  DW rec x p N n0 dec st (cs.drop i) S rs sk=Jx rec x p N n0 dec st cs[i] (cs.drop (i+1)) rs sk (Bk S n).1 (Bk S n).2:=by
 rw[Br h,F3,Ak (by rw[hf];decide),hn];dsimp only;rw[he];dsimp only;rw[hc]
theorem VL(h:i<cs.length)(hf:S.full=false)(hn:N.find? (fun n=>!has n.rq.set cs[i].place)=none)(he:Oe S.drv (AK (dec++[cs[i]]))=none)(hc:D1 dec cs[i]=none){o:JN}(ho:o=rec (dec++[cs[i]]) S (st++[sk])) :
  DW rec x p N n0 dec st (cs.drop i) S rs sk=if o.found=true then⟨0,true,o.ss,o.dec,o.stack⟩else if o.ss.full=true then⟨0,false,o.ss,dec,st⟩else Jx rec x p N n0 dec st cs[i] (cs.drop (i+1)) rs sk o.res o.ss:=by
 rw[ho,Br h,F3,Ak (by rw[hf];decide),hn];dsimp only;rw[he];dsimp only;rw[hc]
theorem ZG{c:Cd}{l:List Cd}{k:Nat}(h:CZ (DK S k) p=false):Jx rec x p N n0 dec st c l rs sk k S=⟨k,false,S,dec,st⟩:=by unfold Jx;rw[Aw h]
theorem VC{c:Cd}{l:List Cd}{k:Nat}(h:CZ (DK S k) p=true):Jx rec x p N n0 dec st c l rs sk k S=DW rec x p N n0 dec st l S (rs++[k]) (sk++[⟨p,c.place,(k:Nat)⟩]):=by unfold Jx;rw[Ak (by rw[h];decide)]
end
theorem W2{x:List Rl}{dec:List Cd}(h:Ey x dec):dec.length≤x.length:=by
 have h1:=H9 (m:=x.map (·.path)) h.nodup fun p hp=>by
  obtain⟨c,hc,rfl⟩:=Am.1 hp;exact Am.2 ⟨c.rel,(h.cand c hc).1,rfl⟩
 rw[Lm,Lm]at h1;exact h1
theorem Uw(x:List Rl)(p:ByteArray):(Co x p).length≤x.length:=by
 unfold Co;rw[Lm];exact BD _ _
end Go.Eng
