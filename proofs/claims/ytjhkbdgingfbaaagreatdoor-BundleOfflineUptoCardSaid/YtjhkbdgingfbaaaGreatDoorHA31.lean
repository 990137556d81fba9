/- Lemmas 31. -/
import Derived.Test.YtjhkbdgingfbaaaGreatDoorHA30
import Derived.Shelf.Strings.Cut
import Derived.Shelf.Strconv.AtoiAll
import Derived.Shelf.Small.Strs
import Derived.Shelf.GgClosure.StringsIndexFuncTop
import Derived.Shelf.Strings.Builder1
import Derived.Room.Shelf.Join48
import Derived.Ground.NamesProg
import Derived.Ground.GgwProg
import Derived.Lib.SmallJoins
import Derived.Lib.AppendIntMem
import Derived.Lib.ItoaLen
import Derived.Lib.ItoaMem
set_option maxHeartbeats 4000000
namespace Go.Eng
open Go.Proofs
variable {cs:List AV}{i:Nat}{N:List Rl}{fF:Nat}{s:List Cp}(x:List Rl)(a:List Sl)(ifs:List (List AV))(b:List Sl)(l:List Cp)
theorem rH{a b:Cp}:(a.path=b.path/\a.ver.a=b.ver.a/\a.ver.b=b.ver.b/\a.ver.c=b.ver.c/\a.bytes=b.bytes/\True)↔a=b:=by
 constructor
 .rintro⟨h1,h2,h3,h4,h5,_⟩
  obtain⟨p,⟨x,y,z⟩,c⟩:=a;obtain⟨p',⟨x',y',z'⟩,c'⟩:=b;simp only at h1 h2 h3 h4 h5;rw[h1,h2,h3,h4,h5]
 .intro h;subst h;exact⟨rfl,rfl,rfl,rfl,rfl,trivial⟩
theorem pc{α:Type}{a b:List α}(hl:a.length=b.length)(h:∀j (h1:j<a.length) (h2:j<b.length),j<i->a[j]=b[j])(hi:a.length<=i):a=b:=
 List.ext_getElem hl fun j h1 h2=>h j h1 h2 ch
theorem sQ(a b:List Cp)(ha:Cw a):PC 14 [sl BY a,sl BY b] (vb (decide (a=b))):=by
 have ha0:a.length<=1073741824:=ha;refine Ps DU Tryz.func14 rfl (Nz rfl) (Yi (fun h1=>?_) (fun h1=>?_))
 .have h1:((a.map BY).length:Int)≠((b.map BY).length:Int):=h1;exact EY.of_eq (show vb false=vb (decide (a=b)) by rw[Am (fun e=>h1 (by rw[e]))])
 have h1:((a.map BY).length:Int)=((b.map BY).length:Int):=Bc h1;have oO:a.length=b.length:=by have q:=h1;rw[Lm,Lm]at q;omega
 refine Xi {q:Nat // q<=a.length/\∀j (h1:j<a.length) (h2:j<b.length),j<q->a[j]=b[j]} (Xi (fun q=>⟨[(0,sl BY a),(1,sl BY b),(5,vi q.1)],[],Ad⟩) (Xi (fun q=>a.length-q.1) (Yi (Xi ⟨0,AE _,fun _ _ _ h=>absurd h (FM _)⟩ ?_) ?_)))
 .exact⟨Z3,Tv,Fh,Tv⟩
 intro⟨i,i1,i2⟩;have i1:i<=a.length:=i1;have i2:∀j (h1:j<a.length) (h2:j<b.length),j<i->a[j]=b[j]:=i2;refine Yi (fun h3=>?_) (fun h3=>?_)
 .have h3:(i:Int)<((a.map BY).length:Int):=h3;have n3:=Lu h3;have nb:i<b.length:=by omega
  refine Xi (BY a[i]) (Yi (Y4 n3) (Yi rfl (yN (Xi (BY b[i]) (Yi (Y4 nb) (Yi rfl (yN (Yi (fun h4=>?_) (fun h4=>?_)))))))))
  .have h4:(a[i].path:ByteArray)=b[i].path/\(a[i].ver.a:Int)=b[i].ver.a/\(a[i].ver.b:Int)=b[i].ver.b/\(a[i].ver.c:Int)=b[i].ver.c/\(a[i].bytes:ByteArray)=b[i].bytes/\True:=h4;refine Yi aa0 (Yi (Ii i ch) (Xi ⟨i+1,n3,fun j g1 g2 g3=>by rcases BT j i with g4 | g4;exact i2 j g1 g2 g4;have e:j=i:=ch;subst e;exact rH.1 h4⟩ ?_));exact⟨Dl a.length i ch,Z3,Tv,Fh,Tv⟩
  have h4:¬((a[i].path:ByteArray)=b[i].path/\(a[i].ver.a:Int)=b[i].ver.a/\(a[i].ver.b:Int)=b[i].ver.b/\(a[i].ver.c:Int)=b[i].ver.c/\(a[i].bytes:ByteArray)=b[i].bytes/\True):=h4;refine Yi aa0 ?_;exact EY.of_eq (show vb false=vb (decide (a=b)) by rw[Am (fun e=>h4 (rH.2 (by subst e;rfl)))])
 have h3:¬((i:Int)<((a.map BY).length:Int)):=h3;have n3:=Ip h3;exact EY.of_eq (show vb true=vb (decide (a=b)) by rw[Ap (pc oO i2 (Hh (Ip h3)))])
def SN(c:Cp):Option Rl:=(DH x (Es c)).map fun r=>{ r with yanked:=false }
def J6(x:List Rl):List Cp->Option (List Rl)
 | []=>some []
 |c::l=>(SN x c).bind fun r=>(J6 x l).map (r :: ·)
theorem UQ(x:List Rl):∀(s t:List Cp),J6 x (s++t)=(J6 x s).bind fun a=>(J6 x t).map (a++·)
 | [],t=>by show J6 x t=(some []).bind _;simp
 |y::s,t=>by
  show(SN x y).bind (fun c=>(J6 x (s++t)).map (c :: ·))=Option.bind ((SN x y).bind fun c=>(J6 x s).map (c :: ·)) _;rw[UQ x s t];cases SN x y with
  |none=>rfl
  |some c=>
   cases J6 x s with
   |none=>rfl
   |some a=>cases J6 x t<;>rfl
theorem jf{x:List Rl}(h:i<s.length){c:Rl}(hN:J6 x (s.take i)=some N)(hc:SN x s[i]=some c):J6 x (s.take (i+1))=some (N++[c]):=by
 rw[AZ,Ge h,UQ,hN];show Option.map _ ((SN x s[i]).bind _)=_;rw[hc];rfl
theorem jg{x:List Rl}(h:i<s.length)(hc:SN x s[i]=none):J6 x s=none:=by
 have e:s=s.take i++s[i]::s.drop (i+1):=by rw[<-AY h,Fi]
 rw[e,UQ];cases J6 x (s.take i)with
 |none=>rfl
 |some a=>show Option.map _ ((SN x s[i]).bind _)=_;rw[hc];rfl
theorem UR{x:List Rl}:∀{s:List Cp} {N:List Rl},J6 x s=some N->N.length=s.length
 | [],N,h=>by cases h;rfl
 |y::s,N,h=>by
  have h:(SN x y).bind (fun c=>(J6 x s).map (c :: ·))=some N:=h;cases hc:SN x y with
  |none=>rw[hc]at h;cases h
  |some c=>
   rw[hc]at h;have h:(J6 x s).map (c :: ·)=some N:=h;obtain⟨M,h1,rfl⟩:=AD.1 h;rw[Al,UR h1];rfl
def Nl(N:List Rl):Bool:=(l.zip N).all fun p=>decide (EB p.1.bytes=p.2.arch)
theorem jJ{l:List Cp}(hl:N.length=l.length)(h:∀j (h1:j<l.length) (h2:j<N.length),j<i->EB l[j].bytes=N[j].arch)(hi:l.length<=i):Nl l N=true:=by
 rw[Nl,AP];intro p hp;obtain⟨j,hj,rfl⟩:=B1.1 hp;rw[List.length_zip]at hj;rw[List.getElem_zip];exact Ap (h j ch ch ch)
theorem jK{l:List Cp}(h1:i<l.length)(h2:i<N.length)(h:¬EB l[i].bytes=N[i].arch):Nl l N=false:=by
 rw[AH,Nl,Ne,AP];intro q;have hz:i<(l.zip N).length:=by rw[List.length_zip];omega
 have:=q _ (Aq hz)
 rw[List.getElem_zip]at this;exact h (BO this)
def PV:List Rl×Int:=
 if Bd x≠0 then([],1)else if GZ l≠0 then([],GZ l)else match J6 x l with
  |none=>([],6)
  |some N=>if Nl l N=true then(N,0)else([],9)
def dj:AV:=.tup [LO (PV x l).1 (if(PV x l).2=0 then ifs else []),vi (PV x l).2]
theorem PW{x:List Rl}{ifs:List (List AV)}{l:List Cp}{e:Int}(h:PV x l=([],e))(he:e≠0):EY (.tup [.agg [nzA,nzA],vi e]) (dj x ifs l):=by
 unfold dj;rw[h,Ah he];exact .tup ⟨.agg ⟨.nil,.nil,trivial⟩,.refl _,trivial⟩
theorem rG(hx:∀r∈x,Jw r)(hl:Cw l)(hp:∀c∈l,Er c.path)(hb:∀c∈l,c.bytes.size<=100000000)(p8:PC 48 [.slice .none ifs] (.slice .none ifs)):PC 16 [.agg (Ic x ifs),sl BY l] (dj x ifs l):=by
 have tU:l.length<=1073741824:=hl;refine Ps ⟨[2],[],[],[],[],[],[],[(28,(7,0,48,9))],[],[],[6,11,20,21]⟩ Tryz.func16 rfl (Nz rfl) (yN (Xi .pure (Xi _ (Yi (wV Zn x ifs hx) (Yi (fun h1=>?_) (fun h1=>?_))))))
 .have h1:((Bd x):Int)≠(0:Int):=h1;refine yN (yN ?_);exact PW (by rw[PV,As h1]) Cl
 have h1:((Bd x):Int)=(0:Int):=Bc h1;refine Xi .pure (Xi _ (Yi (Pj l hl hp) (Yi (fun h3=>?_) (fun h3=>?_))))
 .have h3:((GZ l):Int)≠(0:Int):=h3;refine yN (yN ?_);exact PW (by rw[PV,Ah (fun c=>c h1),As h3]) h3
 have h3:((GZ l):Int)=(0:Int):=Bc h3;refine cU [(1,sl BY l),(2,.ref 2 0),(4,.ref 4 0)] [(2,.ro (Ic x ifs)),(4,.cells [nzA,nzA])] Z3 Z2 (Xi .pure (Xi _ (Yi p8 (yN (Xi {q:Nat×List Rl // q.1<=l.length/\J6 x (l.take q.1)=some q.2} (Xi (fun q=>⟨[(1,sl BY l),(2,.ref 2 0),(4,.ref 4 0),(7,.ref 7 0),(28,sl BY l),(29,vi (l.map BY).length),(30,vi q.1.1)],[(2,.ro (Ic x ifs)),(4,.cells [nzA,nzA]),(7,.cells [.slice (.id 48 9) (q.1.2.map BS),.slice .none ifs]),(48,.tok 9 q.1.2.length)],Ad⟩) (Xi (fun q=>l.length-q.1.1) (Yi (Xi ⟨(0,[]),AE _,rfl⟩ ?_) ?_))))))))
 .exact⟨Z7,Z4,Fh,Tv⟩
 intro⟨⟨i,N⟩,i1,i2⟩;have i1:i<=l.length:=i1;have i2:J6 x (l.take i)=some N:=i2;have i3:N.length<=l.length:=by rw[UR i2,AA];omega
 refine Yi (fun h5=>?_) (fun h5=>?_)
 .have h5:(i:Int)<((l.map BY).length:Int):=h5;have n5:=Lu h5;refine Xi (BY l[i]) (Yi (Y4 n5) (Yi rfl (yN (yN (yN (yN (BL (Rj (DH x (Es l[i]))) (fun h6=>?_) (fun h6=>?_))))))))
  .refine BA h6 (fun r h6=>?_);have xB:=c53 x ifs l[i].path l[i].ver (c84 x ifs hx) hx;rw[h6]at xB;refine Xi .pure (Xi _ (Yi xB (yN (cU [(1,sl BY l),(2,.ref 2 0),(4,.ref 4 0),(7,.ref 7 0),(10,.ref 10 0),(11,vb true),(28,sl BY l),(29,vi (l.map BY).length),(30,vi i)] [(2,.ro (Ic x ifs)),(4,.cells [nzA,nzA]),(7,.cells [.slice (.id 48 9) (N.map BS),.slice .none ifs]),(10,.cells (BS r)),(48,.tok 9 N.length)] Z9 Z5 (yN (yN (Yi (gA rfl ch Cl) (yN (Yi (Ii i ch) (Xi ⟨(i+1,N++[{ r with yanked:=false }]),n5,jf n5 i2 (by rw[SN,h6];rfl)⟩ ?_))))))))));exact⟨Dl l.length i ch,Z7,⟨Zr,Zr,⟨(show HO.cells [.slice (.id 48 9) ((N.map BS)++[[vs r.path,vi r.ver.a,vi r.ver.b,vi r.ver.c,sl A2 r.reqs,vs r.arch,vs r.ifc,vs r.cert,vb false]]),.slice .none ifs]=.cells [.slice (.id 48 9) ((N++[({ r with yanked:=false }:Rl)]).map BS),.slice .none ifs] by rw[Az];rfl),rfl⟩,⟨hkA,rfl⟩,Tv⟩,Fh,Tv⟩
  have xB:=c53 x ifs l[i].path l[i].ver (c84 x ifs hx) hx;rw[h6]at xB;refine Xi .pure (Xi _ (Yi xB (yN (cU [(1,sl BY l),(2,.ref 2 0),(4,.ref 4 0),(7,.ref 7 0),(10,.ref 10 0),(11,vb false),(28,sl BY l),(29,vi (l.map BY).length),(30,vi i)] [(2,.ro (Ic x ifs)),(4,.cells [nzA,nzA]),(7,.cells [.slice (.id 48 9) (N.map BS),.slice .none ifs]),(10,.cells [vs ⟨#[]⟩,vi 0,vi 0,vi 0,nzA,vs ⟨#[]⟩,vs ⟨#[]⟩,vs ⟨#[]⟩,vb false]),(48,.tok 9 N.length)] Z9 Z5 (yN (yN ?_))))));exact PW (by rw[PV,Ah (fun c=>c h1),Ah (fun c=>c h3),jg n5 (by rw[SN,h6];rfl)]) Cl
 have h5:¬((i:Int)<((l.map BY).length:Int)):=h5;have n5:=Ip h5;have i4:J6 x l=some N:=by rw[AB (Hh (Ip h5))]at i2;exact i2
 have i5:N.length=l.length:=UR i4;refine Xi {q:Nat // q<=l.length/\∀j (h1:j<l.length) (h2:j<N.length),j<q->EB l[j].bytes=N[j].arch} (Xi (fun q=>⟨[(4,.ref 4 0),(7,.ref 7 0),(54,sl BY l),(55,vi (l.map BY).length),(56,vi q.1)],[(4,.cells [nzA,nzA]),(7,.cells [.slice (.id 48 9) (N.map BS),.slice .none ifs]),(48,.tok 9 N.length)],Ad⟩) (Xi (fun q=>l.length-q.1) (Yi (Xi ⟨0,AE _,fun _ _ _ h=>absurd h (FM _)⟩ ?_) ?_)))
 .exact⟨Z5,Z3,Fh,Tv⟩
 intro⟨k,k1,k2⟩;have k1:k<=l.length:=k1;have k2:∀j (h1:j<l.length) (h2:j<N.length),j<k->EB l[j].bytes=N[j].arch:=k2;refine Yi (fun Nx=>?_) (fun Nx=>?_)
 .have Nx:(k:Int)<((l.map BY).length:Int):=Nx;have n10:=Lu Nx;have nN:k<N.length:=by have q:=Lu Nx;omega
  refine Xi (BY l[k]) (Yi (Y4 n10) (Yi rfl (yN (yN (Xi _ (Yi (Wc l[k].bytes (hb _ (Aq n10))) (Xi (BS N[k]) (Yi (Y4 nN) (Yi rfl (Yi (fun Vs=>?_) (fun Vs=>?_)))))))))))
  .have Vs:((EB l[k].bytes):ByteArray)≠N[k].arch:=Vs;refine Yi aa0 (cU [(4,.ref 4 0)] [(4,.cells [nzA,nzA])] Z1 Z1 (yN (yN ?_)));exact PW (by rw[PV,Ah (fun c=>c h1),Ah (fun c=>c h3),i4];show(if Nl l N=true then _ else _)=_;rw[jK n10 ch Vs];rfl) Cl
  have Vs:((EB l[k].bytes):ByteArray)=N[k].arch:=Bc Vs;refine Yi aa0 (cU [(4,.ref 4 0),(7,.ref 7 0),(54,sl BY l),(55,vi (l.map BY).length),(56,vi k)] [(4,.cells [nzA,nzA]),(7,.cells [.slice (.id 48 9) (N.map BS),.slice .none ifs]),(48,.tok 9 N.length)] Z5 Z3 (Yi (Ii k ch) (Xi ⟨k+1,n10,fun j g1 g2 g3=>by rcases BT j k with g4 | g4;exact k2 j g1 g2 g4;have e:j=k:=ch;subst e;exact Vs⟩ ?_)));exact⟨Dl l.length k ch,Z5,Z3,Fh,Tv⟩
 have Nx:¬((k:Int)<((l.map BY).length:Int)):=Nx;have n10:=Ip Nx;refine yN (yN (yN ?_));have e:PV x l=(N,0):=by rw[PV,Ah (fun c=>c h1),Ah (fun c=>c h3),i4];show(if Nl l N=true then _ else _)=_;rw[jJ ch k2 (Hh (Ip Nx))];rfl
 exact EY.of_eq (show AV.tup [.agg (Ic N ifs),vi 0]=dj x ifs l by rw[dj,e];rfl)
theorem bim(l:List Sl)(p:Sl->Bool)(hF:∀x∈l,PC fF [.agg (Ao x),.cptr cs] (vb (p x)))(hl:Cw l):Bb Tryz.prog 151 [.msl 1000 l.length,.clo fF [.cptr cs]] (Ag [(1000,.arr 4 (l.map Ao))] Ad) fun r h'=>r=vi (IL p l 0)/\h'=Ag [(1000,HO.arr 4 (l.map Ao))] Ad:=by
 have hl:l.length<=1073741824:=hl;refine Cm (MC DU) [(1000,1000)] rfl Cu hm rfl Tryz.func151 aa0 rfl (Nz rfl) aa0 rfl (Xi {q:Nat // q<=l.length/\∀j (hj:j<l.length),j<q->p l[j]=false} (Xi (fun q=>⟨[(0,.msl 1000 l.length),(1,.clo fF [.cptr cs]),(7,vi l.length),(8,vi q.1)],[(1000,.arr 4 (l.map Ao))],Ad⟩) (Xi (fun q=>l.length-q.1) (Yi (Xi ⟨0,AE _,fun _ _ h=>absurd h (FM _)⟩ ?_) ?_))))
 .exact⟨Z4,Z1,Fh,BQ aa0⟩
 intro⟨i,i1,i2⟩;have i1:i<=l.length:=i1;have i2:∀j (hj:j<l.length),j<i->p l[j]=false:=i2;refine Yi (fun h1=>?_) (fun h1=>?_)
 .have h1:(i:Int)<(l.length:Int):=h1;have n1:i<l.length:=by omega
  have g1:l[i]?=some l[i]:=Ge n1;refine Yi (by show(0:Int)<=i/\(i:Int)<(l.length:Nat);omega) (Yi (show l.length=(l.map Ao).length by rw[Lm]) (Xi (Ao l[i]) (Yi (Ee g1) (yN (BL (Bt (p l[i])) (fun h2=>?_) (fun h2=>?_))))))
  .have h2:(p l[i])=true:=h2;refine Xi .pure (Xi _ (Yi (cb h2 (hF l[i] (Aq n1))) ?_));exact Xi _ (Yi (.refl _) ⟨show vi i=vi (IL p l 0) by rw[Jk n1 (fun j hj Iu=>i2 j hj Iu) h2,EU],rfl⟩)
  have h2:(p l[i])=false:=h2;refine Xi .pure (Xi _ (Yi (cb h2 (hF l[i] (Aq n1))) (Yi (Ii i ch) ?_)));refine Xi ⟨i+1,n1,fun j hj Iu=>if e:j<i then i2 j hj e else by
    have e:j=i:=by omega
    subst e;exact h2⟩ ?_
  exact⟨Dl l.length i ch,Z4,Z1,Fh,BQ aa0⟩
 have h1:¬((i:Int)<(l.length:Int)):=h1;have n1:¬i<l.length:=by omega
 exact Xi _ (Yi (.refl _) ⟨show vi (-1)=vi (IL p l 0) by rw[Gq fun j hj=>i2 j hj ch],rfl⟩)
theorem bdn(l:List Sl)(p:Sl->Bool)(ix:Bb Tryz.prog 151 [.msl 1000 l.length,.clo fF [.cptr cs]] (Ag [(1000,.arr 4 (l.map Ao))] Ad) fun r h'=>r=vi (-1)/\h'=Ag [(1000,HO.arr 4 (l.map Ao))] Ad)(FN:∀j (hj:j<l.length),p l[j]=false):Bb Tryz.prog 88 [.msl 1000 l.length,.clo fF [.cptr cs]] (Ag [(1000,.arr 4 (l.map Ao))] Ad) fun r h'=>r=.msl 2000 (kept p l).length/\h'=Ag [(1000,.dead),(2000,.arr 4 ((kept p l).map Ao))] Ad:=by
 refine Cm (MC ⟨[],[],[],[],[],[],[],[],[],[(200003,41000)],[3,6,9]⟩) [(1000,1000),(41,2000)] rfl Cu hm rfl Tryz.func88 aa0 rfl (Nz rfl) aa0 rfl (Xi (.gen [(1000,1000)] 0) (Yi rfl (Bb.to2 (ix) ?_)));refine Yi (fun _=>?_) (fun h=>absurd Cl h);refine Yi (show l.length=(l.map Ao).length by rw[Lm]) (cU [(0,.msl 41 l.length)] [(41,.arr 4 (l.map Ao)),(1000,.dead)] Z1 Z2 ?_)
 exact Xi _ (Yi (.refl _) ⟨show AV.msl 2000 l.length=.msl 2000 (kept p l).length by rw[QX FN],show Ag [(1000,HO.dead),(2000,.arr 4 (l.map Ao))] Ad=Ag [(1000,.dead),(2000,.arr 4 ((kept p l).map Ao))] Ad by rw[QX FN]⟩)
theorem bds(l:List Sl)(p:Sl->Bool)(hF:∀x∈l,PC fF [.agg (Ao x),.cptr cs] (vb (p x)))(hl:Cw l)(i0:Nat)(xO:i0<l.length)(rV:p l[i0]=true)(hb:∀j (hj:j<l.length),j<i0->p l[j]=false)(ix:Bb Tryz.prog 151 [.msl 1000 l.length,.clo fF [.cptr cs]] (Ag [(1000,.arr 4 (l.map Ao))] Ad) fun r h'=>r=vi (i0:Nat)/\h'=Ag [(1000,HO.arr 4 (l.map Ao))] Ad):Bb Tryz.prog 88 [.msl 1000 l.length,.clo fF [.cptr cs]] (Ag [(1000,.arr 4 (l.map Ao))] Ad) fun r h'=>r=.msl 2000 (kept p l).length/\h'=Ag [(1000,.dead),(2000,.arr 4 ((kept p l).map Ao))] Ad:=by
 have hl:l.length<=1073741824:=hl;refine Cm (MC (pT [] [(41,4)] [6,9])) [(1000,1000),(41,2000)] rfl Cu hm rfl Tryz.func88 aa0 rfl (Nz rfl) aa0 rfl (Xi (.gen [(1000,1000)] 0) (Yi rfl (Bb.to2 (ix) ?_)));refine Yi (fun h1=>?_) (fun h1=>?_)
 .have h1:(i0:Int)=((-1):Int):=h1;exact absurd h1 ch
 have h1:¬((i0:Int)=((-1):Int)):=h1;refine Yi (Ii i0 ch) (Xi {q:Nat×Nat×List Sl // i0<q.1/\q.1<=l.length/\q.2.1=(kept p (l.take q.1)).length/\q.2.2.length=l.length/\q.2.2.take q.2.1=kept p (l.take q.1)/\q.2.2.drop q.1=l.drop q.1} (Xi (fun q=>⟨[(0,.msl 1000 l.length),(1,.clo fF [.cptr cs]),(5,vi q.1.2.1),(6,vi q.1.1)],[(1000,.arr 4 (q.1.2.2.map Ao))],Ad⟩) (Xi (fun q=>l.length-q.1.1) (Yi (Xi ⟨(i0+1,i0,l),Gf _,xO,by show i0=(kept p (l.take (i0+1))).length;rw[Uu xO hb rV,AA];omega,rfl,by show l.take i0=kept p (l.take (i0+1));rw[Uu xO hb rV],rfl⟩ ?_) ?_))))
 .exact⟨Z4,Z1,Fh,BQ aa0⟩
 intro⟨⟨j,i,N⟩,k0,k1,k2,k3,k4,k5⟩;have k0:i0<j:=k0;have k1:j<=l.length:=k1;have k2:i=(kept p (l.take j)).length:=k2;have k3:N.length=l.length:=k3;have k4:N.take i=kept p (l.take j):=k4;have k5:N.drop j=l.drop j:=k5;have k6:i<=j:=by rw[k2];exact A9 (qu _ _) (by rw[AA];omega)
 refine Yi (fun h2=>?_) (fun h2=>?_)
 .have h2:(j:Int)<(l.length:Int):=h2;have n2:j<l.length:=by omega
  have g2:l[j]?=some l[j]:=Ge n2;have nj:j<N.length:=by omega
  have gj:N[j]?=some N[j]:=Ge nj;refine Yi (by show(0:Int)<=j/\(j:Int)<(l.length:Nat);omega) (Yi (show l.length=(N.map Ao).length by rw[Lm];exact k3.symm) (Xi (Ao N[j]) (Yi (Ee gj) (yN (yN (yN (BL (Bt (p N[j])) (fun h3=>?_) (fun h3=>?_))))))))
  .have h3:(p N[j])=true:=h3;refine Xi .pure (Xi _ (Yi (cb h3 (hF N[j] (by have q:N[j]=l[j]:=(by have q:=Aa (fun z=>z[0]?) k5;simp only[CA,DX]at q;rw[Ge nj,Ge n2]at q;exact BW q);rw[q];exact Aq _))) ?_));refine cU [(0,.msl 1000 l.length),(1,.clo fF [.cptr cs]),(5,vi i),(6,vi j)] [(1000,.arr 4 (N.map Ao))] Z4 Z1 (Yi (Ii j ch) ?_);have eN:N[j]=l[j]:=by have q:=Aa (fun z=>z[0]?) k5;simp only[CA,DX]at q;rw[Ge nj,Ge n2]at q;exact BW q
   have kn:kept p (l.take (j+1))=kept p (l.take j):=by rw[QW n2,As (by rw[<-eN];exact h3),BZ]
   refine Xi ⟨(j+1,i,N),Nat.lt_succ_of_lt k0,n2,by rw[kn];exact k2,k3,by rw[kn];exact k4,by show N.drop (j+1)=l.drop (j+1);rw[<-He,<-He,k5]⟩ ?_;exact⟨Dl l.length j ch,Z4,Z1,Fh,BQ aa0⟩
  have h3:(p N[j])=false:=h3;have ni:i<N.length:=by omega
  have gi:N[i]?=some N[i]:=Ge ni;refine Xi .pure (Xi _ (Yi (cb h3 (hF N[j] (by have q:N[j]=l[j]:=(by have q:=Aa (fun z=>z[0]?) k5;simp only[CA,DX]at q;rw[Ge nj,Ge n2]at q;exact BW q);rw[q];exact Aq _))) ?_));refine cU [(0,.msl 1000 l.length),(1,.clo fF [.cptr cs]),(5,vi i),(6,vi j),(7,.ref 7 0)] [(7,.cells (Ao N[j])),(1000,.arr 4 (N.map Ao))] Z5 Z2 (yN (Yi (by show(0:Int)<=i/\(i:Int)<(l.length:Nat);omega) (Yi (show l.length=(N.map Ao).length by rw[Lm];exact k3.symm) (Xi (Ao N[i]) (Yi (Ee gi) (yN (Yi (Ii i ch) (cU [(0,.msl 1000 l.length),(1,.clo fF [.cptr cs]),(5,vi (i+1)),(6,vi j)] [(1000,.arr 4 ((N.map Ao).set i (Ao N[j])))] Z4 Z1 (Yi (Ii j ch) ?_)))))))));have eN:N[j]=l[j]:=by have q:=Aa (fun z=>z[0]?) k5;simp only[CA,DX]at q;rw[Ge nj,Ge n2]at q;exact BW q
  have kn:kept p (l.take (j+1))=kept p (l.take j)++[l[j]]:=by rw[QW n2,Ah (by rw[<-eN,h3];decide)]
  have ki:i<N.length:=by omega
  refine Xi ⟨(j+1,i+1,N.set i N[j]),Nat.lt_succ_of_lt k0,n2,by show i+1=(kept p (l.take (j+1))).length;rw[kn,Ac,<-k2];rfl,by show(N.set i N[j]).length=_;rw[CZ];exact k3,by show(N.set i N[j]).take (i+1)=kept p (l.take (j+1));rw[kn,AZ,List.take_set_of_le (Ai _),k4,List.getElem?_set_self ki,eN];rfl,by show(N.set i N[j]).drop (j+1)=l.drop (j+1);rw[List.drop_set_of_lt ch,<-He,<-He,k5]⟩ ?_;exact⟨Dl l.length j ch,Z4,⟨⟨(show HO.arr 4 ((N.map Ao).set i (Ao N[j]))=.arr 4 ((N.set i N[j]).map Ao) by rw[K8]),rfl⟩,Tv⟩,Fh,BQ aa0⟩
 have h2:¬((j:Int)<(l.length:Int)):=h2;have n2:¬j<l.length:=by omega
 refine Yi (show l.length=(N.map Ao).length/\(0:Int)<=i/\(i:Int)<=((N.map Ao).length:Nat)from⟨by rw[Lm];exact k3.symm,by omega,by rw[Lm];omega⟩) (Yi (show l.length=(((N.map Ao).take i++List.replicate ((N.map Ao).length-i) [vs ⟨#[]⟩,vi 0,vi 0,vi 0]):List (List AV)).length/\(0:Int)<=i/\(i:Int)<=((((N.map Ao).take i++List.replicate ((N.map Ao).length-i) [vs ⟨#[]⟩,vi 0,vi 0,vi 0]):List (List AV)).length:Nat)from⟨by rw[Ac,AA,Bv,Lm];omega,by omega,by rw[Ac,AA,Bv,Lm];omega⟩) ?_);have ej:j=l.length:=by omega
 have e1:kept p l=kept p (l.take j):=by rw[ej,CK]
 have e2:i=(kept p l).length:=by rw[e1];exact k2
 have e3:((N.map Ao).take i++List.replicate ((N.map Ao).length-i) [vs ⟨#[]⟩,vi 0,vi 0,vi 0]).take i=(kept p l).map Ao:=by
  rw[FA (by rw[AA,Lm];omega),La,Nat.min_self,<-List.map_take,k4,e1]
 exact Xi _ (Yi (.refl _) ⟨show AV.msl 2000 i=.msl 2000 (kept p l).length from Aa (AV.msl 2000) e2,show Ag [(1000,HO.dead),(2000,.arr 4 (((N.map Ao).take i++List.replicate ((N.map Ao).length-i) [vs ⟨#[]⟩,vi 0,vi 0,vi 0]).take i))] Ad=_ from Aa (fun z=>Ag [(1000,HO.dead),(2000,.arr 4 z)] Ad) e3⟩)
theorem bd(l:List Sl)(p:Sl->Bool)(hF:∀x∈l,PC fF [.agg (Ao x),.cptr cs] (vb (p x)))(hl:Cw l):Bb Tryz.prog 88 [.msl 1000 l.length,.clo fF [.cptr cs]] (Ag [(1000,.arr 4 (l.map Ao))] Ad) fun r h'=>r=.msl 2000 (kept p l).length/\h'=Ag [(1000,.dead),(2000,.arr 4 ((kept p l).map Ao))] Ad:=by
 have ix:=bim l p hF hl;rcases cR p l with ⟨e,h⟩ | ⟨i,hi,e,hp,hb⟩
 .rw[e]at ix;exact bdn l p ix h
 .rw[e]at ix;exact bds l p hF hl i hi hp hb ix
theorem ph(l:List Sl)(hl:Cw l)(Dv:l≠[]):Bb Tryz.prog 89 [sl Ao l] (Ag [] Ad) fun r h'=>r=.msl 2000 l.length/\h'=Ag [(2000,.arr 4 (l.map Ao))] Ad:=by
 refine Cm (MC ⟨[],[],[(5,4)],[],[],[],[],[],[],[],[]⟩) [(5,2000)] rfl Cu hm rfl Tryz.func89 aa0 rfl (Nz rfl) aa0 rfl ?_;have GA:CR 4 (l.map Ao)/\([]:List (List AV)).length=0/\(([]:List (List AV)).length+(l.map Ao).length)*40<=140737488355328/\([]:List (List AV)).length+(l.map Ao).length<=9223372036854775807:=by
  refine⟨Fj (enc:=Ao) (n:=4) (fun _=>rfl) l,rfl,?_,?_⟩<;>simp only[Ax,Lm]<;>unfold Cw at hl<;>omega
 refine Yi ?_ ?_
 .intro _;refine Yi GA ?_;have e1:AV.msl 2000 (([]:List (List AV)).length+(l.map Ao).length)=.msl 2000 l.length:=by simp
  refine Xi (.msl 2000 (([]:List (List AV)).length+(l.map Ao).length)) (Yi (.refl _) (Yi e1 ?_))
  rfl
 .intro h;exact absurd (FS.1 h) Dv
theorem Aah(s:Sl)(b:List Sl)(hb:Cw b):PC 90 [.agg (Ao s),.cptr [sl Ao b]] (vb (decide (s∈b))):=by
 refine Ps DU Tryz.func90 rfl (Nz rfl) (yN (BL (Bt (decide (s∈b))) (fun h1=>?_) (fun h1=>?_)))
 .have h1:(decide (s∈b))=true:=h1;refine Xi .pure (Xi _ (Yi (cb h1 (z8 b s hb)) ?_));exact EY.of_eq (Aa vb h1.symm)
 have h1:(decide (s∈b))=false:=h1;refine Xi .pure (Xi _ (Yi (cb h1 (z8 b s hb)) ?_));exact EY.of_eq (Aa vb h1.symm)
theorem sM:PC 88 [sl Ao ([]:List Sl),.clo fF [.cptr cs]] (sl Ao ([]:List Sl)):=by
 refine Ps DU Tryz.func88 rfl (Nz rfl) (Xi .pure (Xi _ (Yi (zq (DD.ptr cs) [] (fun _=>false) (fun x hx=>absurd hx List.not_mem_nil) Cl) (Yi (fun _=>?_) (fun h=>absurd Cl h)))));exact .refl _
theorem kV:PC 50 [sl Ao ([]:List Sl),sl Ao b] (sl Ao ([]:List Sl)):=by
 refine Ps (pC [3] []) Tryz.func50 rfl (Nz rfl) (Xi .pure (Xi _ (Yi (c32 [] (AE _)) (Xi .pure (Xi _ (Yi sM ?_))))));exact .refl _
theorem kW(ha:Cw a)(hb:Cw b)(Dv:a≠[]):PC 50 [sl Ao a,sl Ao b] (sl Ao (kept (fun s=>decide (s∈b)) a)):=by
 refine Ps ⟨[3],[],[],[],[],[],[],[],[],[(4,8)],[]⟩ Tryz.func50 rfl (Nz rfl) (Xi (.gen [] 1) (Yi rfl (Bb.to2 (ph a ha Dv) ?_)));refine Xi (.gen [(10600,1000)] 1) (Yi rfl (Bb.to2 (bd (fF:=90) (cs:=[sl Ao b]) a (fun s=>decide (s∈b)) (fun s _=>Aah s b hb) ha) ?_));refine Yi (show(kept (fun s=>decide (s∈b)) a).length=((kept (fun s=>decide (s∈b)) a).map Ao).length by rw[Lm]) ?_;exact .refl _
theorem dV(ha:Cw a)(hb:Cw b):PC 50 [sl Ao a,sl Ao b] (sl Ao (kept (fun s=>decide (s∈b)) a)):=by
 by_cases h:a=[]
 .subst h;exact kV b
 .exact kW a b ha hb h
abbrev iU:List Sl:=kept (fun s=>decide (s∈b)) a
def lz(s:List Sl):List Sl×List Sl×Int:=
 if GZ l≠0 then([],[],GZ l)else if B6 s=true then(iU s (l.map Es),iU (l.map Es) s,0)else([],[],1)
abbrev dfV(p:List Sl×List Sl×Int):AV:=.tup [sl Ao p.1,sl Ao p.2.1,vi p.2.2]
theorem T0{l:List Cp}(hl:Cw l):Cw (l.map Es):=by unfold Cw;rw[Lm];exact hl
theorem kQ(s:List Sl)(hl:Cw l)(hs:Cw s)(hp:∀c∈l,Er c.path):PC 18 [sl BY l,sl Ao s] (dfV (lz l s)):=by
 refine Ps DU Tryz.func18 rfl (Nz rfl) (Xi .pure (Xi _ (Yi (Pj l hl hp) (Yi (fun h1=>?_) (fun h1=>?_)))))
 .have h1:((GZ l):Int)≠(0:Int):=h1;have e:lz l s=([],[],GZ l):=by rw[lz,As h1]
  rw[e];exact .tup ⟨.nil,.nil,.refl _,trivial⟩
 have h1:((GZ l):Int)=(0:Int):=Bc h1;refine BL (Bt (B6 s)) (fun h3=>?_) (fun h3=>?_)
 .have h3:(B6 s)=true:=h3;refine Xi .pure (Xi _ (Yi (cb h3 (Wb s hs)) (Xi .pure (Xi _ (Yi (XL l hl) (Xi .pure (Xi _ (Yi (dV s (l.map Es) hs (T0 hl)) (Xi .pure (Xi _ (Yi (dV (l.map Es) s (T0 hl) hs) ?_)))))))))));exact EY.of_eq (show AV.tup [sl Ao (iU s (l.map Es)),sl Ao (iU (l.map Es) s),vi 0]=dfV (lz l s) by rw[lz,Ah (fun c=>c h1),As h3])
 have h3:(B6 s)=false:=h3;refine Xi .pure (Xi _ (Yi (cb h3 (Wb s hs)) ?_));have e:lz l s=([],[],1):=by rw[lz,Ah (fun c=>c h1),Ah (by rw[h3];decide)]
 rw[e];exact .tup ⟨.nil,.nil,.refl _,trivial⟩
end Go.Eng
namespace Go.Proofs
open Go.Shelf
def Tryz.layCut2_ren:Go.Shelf.Ren:=⟨fun | 145=>65 | 220=>103 | 219=>162 | 217=>212 | 225=>213 | 224=>214 | 267=>215 | 266=>263 | 314=>264 | n=>n,fun | 9=>9 | 4=>4 | 59=>117 | 3=>3 | 5=>5 | 46=>127 | 146=>285 | 51=>155 | n=>n,fun | 1=>0 | n=>n⟩
theorem Tryz.layCut2:Go.Proofs.Lays.n145 Tryz.prog Tryz.layCut2_ren:={
 mixed:=by kernel_rfl
 f145:=Tryz.func65.trans (congrArg some Go.Eng.aa0)
 f217:=Tryz.func212.trans (congrArg some Go.Eng.aa0)
 f219:=Tryz.func162.trans (congrArg some Go.Eng.aa0)
 f220:=Tryz.func103.trans (congrArg some Go.Eng.aa0)
 f224:=Tryz.func214.trans (congrArg some Go.Eng.aa0)
 f225:=Tryz.func213.trans (congrArg some Go.Eng.aa0)
 f266:=Tryz.func263.trans (congrArg some Go.Eng.aa0)
 f267:=Tryz.func215.trans (congrArg some Go.Eng.aa0)
 f314:=Tryz.func264.trans (congrArg some Go.Eng.aa0)
 t3:=Tryz.underlying3
 a3:=Tryz.isAgg3
 z3:=Tryz.sizeOf3
 v3:=Tryz.zeroValue3
 t4:=Tryz.underlying4
 a4:=Tryz.isAgg4
 z4:=Tryz.sizeOf4
 v4:=Tryz.zeroValue4
 t5:=Tryz.underlying5
 a5:=Tryz.isAgg5
 z5:=Tryz.sizeOf5
 v5:=Tryz.zeroValue5
 t9:=Tryz.underlying9
 a9:=Tryz.isAgg9
 z9:=Tryz.sizeOf9
 v9:=Tryz.zeroValue9
 t46:=Tryz.underlying127
 a46:=Tryz.isAgg127
 z46:=Tryz.sizeOf127
 v46:=Tryz.zeroValue127
 t51:=Tryz.underlying155
 a51:=Tryz.isAgg155
 z51:=Tryz.sizeOf155
 v51:=Tryz.zeroValue155
 t59:=Tryz.underlying117
 a59:=Tryz.isAgg117
 z59:=Tryz.sizeOf117
 v59:=Tryz.zeroValue117
 t146:=Tryz.underlying285
 a146:=Tryz.isAgg285
 z146:=Tryz.sizeOf285
 v146:=Tryz.zeroValue285
 g1:=by kernel_rfl }
def Tryz.layAtoi_ren:Go.Shelf.Ren:=⟨fun | 172=>166 | 244=>220 | 245=>221 | 247=>269 | 279=>270 | 280=>271 | 281=>272 | 282=>273 | 287=>300 | 316=>172 | 171=>101 | 205=>301 | 321=>327 | 322=>328 | 243=>161 | 246=>211 | 283=>259 | 284=>260 | 285=>261 | 286=>262 | 129=>121 | 317=>295 | 318=>296 | 319=>297 | 320=>298 | 337=>325 | 338=>326 | n=>n,fun | 9=>9 | 3=>3 | 75=>106 | 76=>107 | 4=>4 | 5=>5 | 167=>324 | 37=>68 | 0=>0 | 85=>325 | 2=>2 | 168=>327 | 53=>177 | 175=>347 | 46=>127 | 210=>350 | 127=>170 | 145=>374 | 143=>372 | 21=>21 | 171=>317 | 173=>319 | 212=>345 | 51=>155 | 20=>20 | 213=>346 | 232=>382 | 233=>383 | 80=>112 | n=>n,fun | 15=>2 | 16=>3 | 17=>1 | 18=>6 | 19=>7 | n=>n⟩
theorem Tryz.layAtoi:Go.Proofs.LaysC.n172 Tryz.prog Tryz.layAtoi_ren:={
 mixed:=by kernel_rfl
 f129:=Tryz.func121.trans (congrArg some Go.Eng.aa0)
 f171:=Tryz.func101.trans (congrArg some Go.Eng.aa0)
 f172:=Tryz.func166.trans (congrArg some Go.Eng.aa0)
 f205:=Tryz.func301.trans (congrArg some Go.Eng.aa0)
 f243:=Tryz.func161.trans (congrArg some Go.Eng.aa0)
 f244:=Tryz.func220.trans (congrArg some Go.Eng.aa0)
 f245:=Tryz.func221.trans (congrArg some Go.Eng.aa0)
 f246:=Tryz.func211.trans (congrArg some Go.Eng.aa0)
 f247:=Tryz.func269.trans (congrArg some Go.Eng.aa0)
 f279:=Tryz.func270.trans (congrArg some Go.Eng.aa0)
 f280:=Tryz.func271.trans (congrArg some Go.Eng.aa0)
 f281:=Tryz.func272.trans (congrArg some Go.Eng.aa0)
 f282:=Tryz.func273.trans (congrArg some Go.Eng.aa0)
 f283:=Tryz.func259.trans (congrArg some Go.Eng.aa0)
 f284:=Tryz.func260.trans (congrArg some Go.Eng.aa0)
 f285:=Tryz.func261.trans (congrArg some Go.Eng.aa0)
 f286:=Tryz.func262.trans (congrArg some Go.Eng.aa0)
 f287:=Tryz.func300.trans (congrArg some Go.Eng.aa0)
 f316:=Tryz.func172.trans (congrArg some Go.Eng.aa0)
 f317:=Tryz.func295.trans (congrArg some Go.Eng.aa0)
 f318:=Tryz.func296.trans (congrArg some Go.Eng.aa0)
 f319:=Tryz.func297.trans (congrArg some Go.Eng.aa0)
 f320:=Tryz.func298.trans (congrArg some Go.Eng.aa0)
 f321:=Tryz.func327.trans (congrArg some Go.Eng.aa0)
 f322:=Tryz.func328.trans (congrArg some Go.Eng.aa0)
 f337:=Tryz.func325.trans (congrArg some Go.Eng.aa0)
 f338:=Tryz.func326.trans (congrArg some Go.Eng.aa0)
 t0:=Tryz.underlying0
 a0:=Tryz.isAgg0
 z0:=Tryz.sizeOf0
 v0:=Tryz.zeroValue0
 t2:=Tryz.underlying2
 a2:=Tryz.isAgg2
 z2:=Tryz.sizeOf2
 v2:=Tryz.zeroValue2
 t3:=Tryz.underlying3
 a3:=Tryz.isAgg3
 z3:=Tryz.sizeOf3
 v3:=Tryz.zeroValue3
 t4:=Tryz.underlying4
 a4:=Tryz.isAgg4
 z4:=Tryz.sizeOf4
 v4:=Tryz.zeroValue4
 t5:=Tryz.underlying5
 a5:=Tryz.isAgg5
 z5:=Tryz.sizeOf5
 v5:=Tryz.zeroValue5
 t9:=Tryz.underlying9
 a9:=Tryz.isAgg9
 z9:=Tryz.sizeOf9
 v9:=Tryz.zeroValue9
 t20:=Tryz.underlying20
 a20:=Tryz.isAgg20
 z20:=Tryz.sizeOf20
 v20:=Tryz.zeroValue20
 t21:=Tryz.underlying21
 a21:=Tryz.isAgg21
 z21:=Tryz.sizeOf21
 v21:=Tryz.zeroValue21
 t37:=Tryz.underlying68
 a37:=Tryz.isAgg68
 z37:=Tryz.sizeOf68
 v37:=Tryz.zeroValue68
 t46:=Tryz.underlying127
 a46:=Tryz.isAgg127
 z46:=Tryz.sizeOf127
 v46:=Tryz.zeroValue127
 t51:=Tryz.underlying155
 a51:=Tryz.isAgg155
 z51:=Tryz.sizeOf155
 v51:=Tryz.zeroValue155
 t53:=Tryz.underlying177
 a53:=Tryz.isAgg177
 z53:=Tryz.sizeOf177
 v53:=Tryz.zeroValue177
 t75:=Tryz.underlying106
 a75:=Tryz.isAgg106
 z75:=Tryz.sizeOf106
 v75:=Tryz.zeroValue106
 t76:=Tryz.underlying107
 a76:=Tryz.isAgg107
 z76:=Tryz.sizeOf107
 v76:=Tryz.zeroValue107
 t85:=Tryz.underlying325
 a85:=Tryz.isAgg325
 z85:=Tryz.sizeOf325
 v85:=Tryz.zeroValue325
 t127:=Tryz.underlying170
 a127:=Tryz.isAgg170
 z127:=Tryz.sizeOf170
 v127:=Tryz.zeroValue170
 t143:=Tryz.underlying372
 a143:=Tryz.isAgg372
 z143:=Tryz.sizeOf372
 v143:=Tryz.zeroValue372
 t145:=Tryz.underlying374
 a145:=Tryz.isAgg374
 z145:=Tryz.sizeOf374
 v145:=Tryz.zeroValue374
 t167:=Tryz.underlying324
 a167:=Tryz.isAgg324
 z167:=Tryz.sizeOf324
 v167:=Tryz.zeroValue324
 t168:=Tryz.underlying327
 a168:=Tryz.isAgg327
 z168:=Tryz.sizeOf327
 v168:=Tryz.zeroValue327
 t171:=Tryz.underlying317
 a171:=Tryz.isAgg317
 z171:=Tryz.sizeOf317
 v171:=Tryz.zeroValue317
 t173:=Tryz.underlying319
 a173:=Tryz.isAgg319
 z173:=Tryz.sizeOf319
 v173:=Tryz.zeroValue319
 t175:=Tryz.underlying347
 a175:=Tryz.isAgg347
 z175:=Tryz.sizeOf347
 v175:=Tryz.zeroValue347
 t210:=Tryz.underlying350
 a210:=Tryz.isAgg350
 z210:=Tryz.sizeOf350
 v210:=Tryz.zeroValue350
 t212:=Tryz.underlying345
 a212:=Tryz.isAgg345
 z212:=Tryz.sizeOf345
 v212:=Tryz.zeroValue345
 t213:=Tryz.underlying346
 a213:=Tryz.isAgg346
 z213:=Tryz.sizeOf346
 t232:=Tryz.underlying382
 a232:=Tryz.isAgg382
 z232:=Tryz.sizeOf382
 v232:=Tryz.zeroValue382
 t233:=Tryz.underlying383
 a233:=Tryz.isAgg383
 z233:=Tryz.sizeOf383
 v233:=Tryz.zeroValue383
 g15:=by kernel_rfl
 g16:=by kernel_rfl
 g17:=by kernel_rfl
 g18:=by kernel_rfl
 g19:=by kernel_rfl
 t80:=Tryz.underlying112
 a80:=Tryz.isAgg112
 z80:=Tryz.sizeOf112
 v80:=Tryz.zeroValue112
 i0:=by kernel_rfl
 i2:=by kernel_rfl
 i3:=by kernel_rfl
 i4:=by kernel_rfl
 i5:=by kernel_rfl
 i9:=by kernel_rfl
 i20:=by kernel_rfl
 i21:=by kernel_rfl
 i37:=by kernel_rfl
 i46:=by kernel_rfl
 i51:=by kernel_rfl
 i53:=by kernel_rfl
 i75:=by kernel_rfl
 i76:=by kernel_rfl
 i80:=by kernel_rfl
 i85:=by kernel_rfl
 i127:=by kernel_rfl
 i143:=by kernel_rfl
 i145:=by kernel_rfl
 i167:=by kernel_rfl
 i168:=by kernel_rfl
 i171:=by kernel_rfl
 i173:=by kernel_rfl
 i175:=by kernel_rfl
 i210:=by kernel_rfl
 i212:=by kernel_rfl
 i232:=by kernel_rfl
 i233:=by kernel_rfl
 m15:=by kernel_rfl
 m16:=by kernel_rfl
 m17:=by kernel_rfl
 m18:=by kernel_rfl
 m19:=by kernel_rfl
 c0:=by kernel_rfl
 c2:=by kernel_rfl
 c3:=by kernel_rfl
 c4:=by kernel_rfl
 c5:=by kernel_rfl
 c9:=by kernel_rfl
 c20:=by kernel_rfl
 c21:=by kernel_rfl
 c37:=by kernel_rfl
 c46:=by kernel_rfl
 c51:=by kernel_rfl
 c53:=by kernel_rfl
 c75:=by kernel_rfl
 c76:=by kernel_rfl
 c80:=by kernel_rfl
 c85:=by kernel_rfl
 c127:=by kernel_rfl
 c143:=by kernel_rfl
 c145:=by kernel_rfl
 c167:=by kernel_rfl
 c168:=by kernel_rfl
 c171:=by kernel_rfl
 c173:=by kernel_rfl
 c175:=by kernel_rfl
 c210:=by kernel_rfl
 c212:=by kernel_rfl
 c213:=by kernel_rfl
 c232:=by kernel_rfl
 c233:=by kernel_rfl }
def Tryz.layIxB_ren:Go.Shelf.Ren:=⟨fun | 137=>167 | 217=>212 | 266=>263 | n=>n,fun | 9=>9 | 5=>5 | 3=>3 | n=>n,fun | n=>n⟩
theorem Tryz.layIxB:Go.Proofs.Lays.n137 Tryz.prog Tryz.layIxB_ren:={
 mixed:=by kernel_rfl
 f137:=Tryz.func167.trans (congrArg some Go.Eng.aa0)
 f217:=Tryz.func212.trans (congrArg some Go.Eng.aa0)
 f266:=Tryz.func263.trans (congrArg some Go.Eng.aa0)
 t3:=Tryz.underlying3
 a3:=Tryz.isAgg3
 z3:=Tryz.sizeOf3
 v3:=Tryz.zeroValue3
 t5:=Tryz.underlying5
 a5:=Tryz.isAgg5
 z5:=Tryz.sizeOf5
 v5:=Tryz.zeroValue5
 t9:=Tryz.underlying9
 a9:=Tryz.isAgg9
 z9:=Tryz.sizeOf9
 v9:=Tryz.zeroValue9 }
def Tryz.layCF_ren:Go.Shelf.Ren:=⟨fun | 17=>164 | 15=>219 | 20=>268 | n=>n,fun | 9=>9 | 23=>239 | 4=>4 | 3=>3 | 0=>0 | 21=>21 | n=>n,fun | n=>n⟩
theorem Tryz.layCF:Go.Proofs.LaysGw.n17 Tryz.prog Tryz.layCF_ren:={
 mixed:=by kernel_rfl
 f15:=Tryz.func219.trans (congrArg some Go.Eng.aa0)
 f17:=Tryz.func164.trans (congrArg some Go.Eng.aa0)
 f20:=Tryz.func268.trans (congrArg some Go.Eng.aa0)
 t0:=Tryz.underlying0
 a0:=Tryz.isAgg0
 z0:=Tryz.sizeOf0
 v0:=Tryz.zeroValue0
 i0:=by kernel_rfl
 t3:=Tryz.underlying3
 a3:=Tryz.isAgg3
 z3:=Tryz.sizeOf3
 v3:=Tryz.zeroValue3
 i3:=by kernel_rfl
 t4:=Tryz.underlying4
 a4:=Tryz.isAgg4
 z4:=Tryz.sizeOf4
 v4:=Tryz.zeroValue4
 i4:=by kernel_rfl
 t9:=Tryz.underlying9
 a9:=Tryz.isAgg9
 z9:=Tryz.sizeOf9
 v9:=Tryz.zeroValue9
 i9:=by kernel_rfl
 t21:=Tryz.underlying21
 a21:=Tryz.isAgg21
 z21:=Tryz.sizeOf21
 v21:=Tryz.zeroValue21
 i21:=by kernel_rfl
 t23:=Tryz.underlying239
 a23:=Tryz.isAgg239
 z23:=Tryz.sizeOf239
 v23:=Tryz.zeroValue239
 i23:=by kernel_rfl }
def Tryz.layJoin_ren:Go.Shelf.Ren:=⟨fun | 156=>58 | 165=>99 | 166=>57 | 169=>61 | 240=>98 | 241=>160 | 276=>159 | 277=>210 | n=>n,fun | 31=>27 | 9=>9 | 3=>3 | 4=>4 | 0=>0 | 20=>20 | 72=>104 | 76=>107 | 70=>102 | 37=>68 | 75=>106 | 127=>170 | 164=>235 | 5=>5 | 80=>112 | n=>n,fun | n=>n⟩
theorem Tryz.layJoin:Go.Proofs.Lays.n156 Tryz.prog Tryz.layJoin_ren:={
 mixed:=by kernel_rfl
 f156:=Tryz.func58.trans (congrArg some Go.Eng.aa0)
 f165:=Tryz.func99.trans (congrArg some Go.Eng.aa0)
 f166:=Tryz.func57.trans (congrArg some Go.Eng.aa0)
 f169:=Tryz.func61.trans (congrArg some Go.Eng.aa0)
 f240:=Tryz.func98.trans (congrArg some Go.Eng.aa0)
 f241:=Tryz.func160.trans (congrArg some Go.Eng.aa0)
 f276:=Tryz.func159.trans (congrArg some Go.Eng.aa0)
 f277:=Tryz.func210.trans (congrArg some Go.Eng.aa0)
 t0:=Tryz.underlying0
 a0:=Tryz.isAgg0
 z0:=Tryz.sizeOf0
 v0:=Tryz.zeroValue0
 t3:=Tryz.underlying3
 a3:=Tryz.isAgg3
 z3:=Tryz.sizeOf3
 v3:=Tryz.zeroValue3
 t4:=Tryz.underlying4
 a4:=Tryz.isAgg4
 z4:=Tryz.sizeOf4
 v4:=Tryz.zeroValue4
 t9:=Tryz.underlying9
 a9:=Tryz.isAgg9
 z9:=Tryz.sizeOf9
 v9:=Tryz.zeroValue9
 t20:=Tryz.underlying20
 a20:=Tryz.isAgg20
 z20:=Tryz.sizeOf20
 v20:=Tryz.zeroValue20
 t31:=Tryz.underlying27
 a31:=Tryz.isAgg27
 z31:=Tryz.sizeOf27
 v31:=Tryz.zeroValue27
 t37:=Tryz.underlying68
 a37:=Tryz.isAgg68
 z37:=Tryz.sizeOf68
 v37:=Tryz.zeroValue68
 t70:=Tryz.underlying102
 a70:=Tryz.isAgg102
 z70:=Tryz.sizeOf102
 v70:=Tryz.zeroValue102
 t72:=Tryz.underlying104
 a72:=Tryz.isAgg104
 z72:=Tryz.sizeOf104
 v72:=Tryz.zeroValue104
 t75:=Tryz.underlying106
 a75:=Tryz.isAgg106
 z75:=Tryz.sizeOf106
 v75:=Tryz.zeroValue106
 t76:=Tryz.underlying107
 a76:=Tryz.isAgg107
 z76:=Tryz.sizeOf107
 v76:=Tryz.zeroValue107
 t127:=Tryz.underlying170
 a127:=Tryz.isAgg170
 z127:=Tryz.sizeOf170
 v127:=Tryz.zeroValue170
 t164:=Tryz.underlying235
 a164:=Tryz.isAgg235
 z164:=Tryz.sizeOf235
 v164:=Tryz.zeroValue235 }
theorem Tryz.layJoinX:Builder.Extra Tryz.prog Tryz.layJoin_ren:={
 sizeBuilder:=by kernel_rfl
 liesBuilder:=by kernel_rfl
 t5:=Tryz.underlying5
 a5:=Tryz.isAgg5
 z5:=Tryz.sizeOf5
 v5:=Tryz.zeroValue5
 infoByte:=by kernel_rfl
 cellsByte:=by kernel_rfl
 sizeByte:=by kernel_rfl
 neB5:=by decide }
def Tryz.layBStr_ren:Go.Shelf.Ren:=⟨fun | 169=>61 | n=>n,fun | 70=>102 | 9=>9 | 0=>0 | 72=>104 | 37=>68 | 127=>170 | 3=>3 | 5=>5 | n=>n,fun | n=>n⟩
theorem Tryz.layBStr:Go.Proofs.Lays.n169 Tryz.prog Tryz.layBStr_ren:={
 mixed:=by kernel_rfl
 f169:=Tryz.func61.trans (congrArg some Go.Eng.aa0)
 t0:=Tryz.underlying0
 a0:=Tryz.isAgg0
 z0:=Tryz.sizeOf0
 v0:=Tryz.zeroValue0
 t3:=Tryz.underlying3
 a3:=Tryz.isAgg3
 z3:=Tryz.sizeOf3
 v3:=Tryz.zeroValue3
 t9:=Tryz.underlying9
 a9:=Tryz.isAgg9
 z9:=Tryz.sizeOf9
 v9:=Tryz.zeroValue9
 t37:=Tryz.underlying68
 a37:=Tryz.isAgg68
 z37:=Tryz.sizeOf68
 v37:=Tryz.zeroValue68
 t70:=Tryz.underlying102
 a70:=Tryz.isAgg102
 z70:=Tryz.sizeOf102
 v70:=Tryz.zeroValue102
 t72:=Tryz.underlying104
 a72:=Tryz.isAgg104
 z72:=Tryz.sizeOf104
 v72:=Tryz.zeroValue104
 t127:=Tryz.underlying170
 a127:=Tryz.isAgg170
 z127:=Tryz.sizeOf170
 v127:=Tryz.zeroValue170 }
theorem Tryz.layBStrX:Builder.Extra Tryz.prog Tryz.layBStr_ren:={
 sizeBuilder:=by kernel_rfl
 liesBuilder:=by kernel_rfl
 t5:=Tryz.underlying5
 a5:=Tryz.isAgg5
 z5:=Tryz.sizeOf5
 v5:=Tryz.zeroValue5
 infoByte:=by kernel_rfl
 cellsByte:=by kernel_rfl
 sizeByte:=by kernel_rfl
 neB5:=by decide }
end Go.Proofs
namespace Go.Eng
open Go.Proofs
open Go.RowKit
variable {w:World}(s:ByteArray)(v:Ver)(Vx:ByteArray)(n:Nat)(l:List ByteArray)(i:Nat)
theorem jz : Tryz.prog.globalNamed "internal/strconv.uint64pow10" = some 1 := by decide +kernel
theorem uZ (h : ∀ x ∈ lV, w.cell? ⟨x.1, x.2.1, none⟩ = x.2.2) : Go.Lib.TabIs Tryz.prog w "internal/strconv.uint64pow10" .u64 Go.Lib.pow10Tab := by
 unfold Go.Lib.TabIs World.var?;rw[jz];simp only[Option.bind_some];have vA:=h (1,20,none) (Ab ..);have hi:∀i,i<20->w.cell? ⟨1,i,none⟩=some (.int .u64 ((10 ^ i:Nat):Int)):=fun i hi=>h (1,i,some (.int .u64 ((10 ^ i:Nat):Int))) (Ae _ (Ak.2 ⟨i,IW.2 hi,rfl⟩));have h0:=hi 0 Cl;unfold World.cell? at h0 vA hi;cases e:w.heap[1]? with
 |none=>rw[e]at h0;cases h0
 |some o=>
  cases o with
  |cells cs E fr=>
   simp only[e,Pa,CM,FZ]at vA hi;have hs:cs.size=20:=by
    have h19:=hi 19 Cl
    have:=(Be.1 h19).1
    have:=Array.getElem?_eq_none_iff.1 vA
    omega
   show some cs=_
   congr 1
   apply Tn
   .simp[hs,Go.Lib.pow10Tab]
   .intro i h1 h2
    have:=hi i ch
    rw[Bj h1]at this;rw[BW this];simp[Go.Lib.pow10Tab]
  |_=>rw[e]at h0;simp at h0
theorem vg(n:Int)(h:A5 n):PC 101 [vi n] (vs (IN n)):=by
 unfold A5 at h;refine HP [.int .i64 n] (.string (IN n)) (VI 101 Tryz.func101 aa0 rfl) rfl (fun g w=>.v _ _) fun w _ ht=>?_;refine(Any.strconv_Itoa Tryz.layItoa n h.1 ch w (uZ ht)).mono ?_
 rintro e w' ⟨rfl,k,os,rfl⟩
 exact⟨rfl,Go.Lib.below_grow _ _ (Ai _) _ _⟩
theorem gz{g:Gh}{w':World}{x:Value}(hI:Dr w g Ad Ad g w)(q:Below w.heap.size w w') :
  ∃v r h' g',Ending.returned x=.returned v/\(r=.v x/\h'=Ad)/\Br g' w' (AN h') r v/\Dr w g Ad h' g' w'/\Le Ad g w h' g' w':=by
 have hK:EV g w g w':=fun b o hb=>by
  have Dx:=hI.slt b o hb;exact⟨hb,by simp only[World.cell?,q.block b Dx],fun es ck he=>(q.block b Dx).trans he⟩
 exact⟨x,.v x,Ad,g,rfl,Zr,.v _ _,⟨q.os,q.tape,q.output,q.size,fun b hb _=>q.block b hb,fun b o hs=>Bx (hI.slt b o hs) q.size,fun _=>Tv,fun _ _ _ h=>h.elim,fun _ _ h=>h.elim,fun b o hs=>.inl hs,hI.glob.keep hK⟩,⟨.refl _ _,fun _ h=>h,hK⟩⟩
abbrev WC:Nat:=(Gr Vx l).data.toList.length
theorem kT(Vx:ByteArray)(hl:l.length<=1073741824)(hj:WC Vx l<=281474976710656):PC 58 [sl BJ l,vs Vx] (vs (Gr Vx l)):=by
 refine⟨VI 58 Tryz.func58 aa0 rfl,fun g w us hs hv hI=>?_⟩
 match us,hs,hv with
 | ⟨[v0,v1]⟩,_,hv=>
  have r0:Br g w (AN Ad) (.slice .none (l.map BJ)) v0:=hv 0 _ v0 rfl rfl;have r1:=(hv 1 _ v1 rfl rfl).v_eq;subst r1;have hj:(Go.Lib.join (l.map (·.data.toList)) Vx.data.toList).length<=281474976710656:=by simpa[WC,Gr]using hj
  generalize hes:l.map BJ=es at r0;have fin:∀{e:Ending} {w' : World},e=.returned (.string (Gr Vx l))/\Below w.heap.size w w'->∃v r h' g',e=.returned v/\(r=vs (Gr Vx l)/\h'=Ad)/\Br g' w' (AN h') r v/\Dr w g Ad h' g' w'/\Le Ad g w h' g' w':=by
   rintro e w' ⟨rfl,q⟩
   exact gz hI q
  cases r0 with
  |snil _ a cap=>
   have:l=[]:=by simpa using hes
   subst this;refine(Any.strings_Join_none Tryz.layJoin Tryz.layJoinX a cap Vx w).mono fun e w' ⟨h1,h2⟩=>fin ⟨h1,?_⟩;subst h2;exact .refl _ _
  |slice _ _ b off sz cap val hc D5 Dg D8=>
   subst hes;cases l with
   |nil=>exact(Any.strings_Join_none Tryz.layJoin Tryz.layJoinX (some ⟨b,off,none⟩) cap Vx w).mono fun e w' ⟨h1,h2⟩=>fin ⟨h1,h2▸.refl _ _⟩
   |cons x r=>
    have h1:sz=1:=(D5 0 (BJ x) rfl).symm;subst h1;have L8:∀(j:Nat) y,(x::r)[j]?=some y->g.S b (off+j)/\w.cell? ⟨b,off+j,none⟩=some (.string y):=fun j y hy=>by
     have e1:((x::r).map BJ)[j]?=some (BJ y):=by rw[Aw,hy];rfl
     obtain⟨q1,q2,_⟩:=Dg j _ 0 (vs y) e1 rfl
     have:=(D8 j _ 0 (vs y) e1 rfl).v_eq
     rw[this]at q2;simp only[IX,DX]at q1 q2;exact⟨q1,q2⟩
    have hb:b<w.heap.size:=hI.slt b _ (L8 0 x rfl).1
    have:=Any.strings_Join_48 Tryz.layJoin Tryz.layJoinX b off cap (x::r) Vx w (fun j y hy=>(L8 j y hy).2) hb ch (by simpa using hc) hj
    rw[Lm];exact this.mono fun e w' h=>fin h
theorem wz(p:ByteArray)(hs:s.size<4294967281):PC 65 [vs s,vs p] (.tup [vs ⟨(Go.Lib.cut s.data.toList p.data.toList).1.toArray⟩,vs ⟨(Go.Lib.cut s.data.toList p.data.toList).2.1.toArray⟩,vb (Go.Lib.cut s.data.toList p.data.toList).2.2]):=by
 refine HP [.string s,.string p] _ (VI 65 Tryz.func65 aa0 rfl) rfl (fun g w=>U5 [.string ⟨(Go.Lib.cut s.data.toList p.data.toList).1.toArray⟩,.string ⟨(Go.Lib.cut s.data.toList p.data.toList).2.1.toArray⟩,.bool (Go.Lib.cut s.data.toList p.data.toList).2.2]) fun w hm _=>?_;obtain⟨m,hm⟩:=hm;refine(Any.strings_Cut Tryz.layCut2 s p m w hs hm).mono ?_
 rintro e w' ⟨rfl,n,rfl⟩
 exact⟨rfl,Go.Joins.below_draws _ _ _⟩
theorem kP(v:Int)(hs:s.size<=9223372036854775806)(h:Go.Lib.atoiAll s.data.toList=.ok v):PC 166 [vs s] (.tup [vi v,.v .nilIface]):=by
 refine HP [.string s] _ (VI 166 Tryz.func166 aa0 rfl) rfl (fun g w=>U5 [.int .i64 v,.nilIface]) fun w _ _=>?_;refine(Any.strconv_Atoi_ok Tryz.layAtoi s hs v h w).mono ?_
 rintro e w' ⟨rfl,rfl | ⟨t,rfl⟩⟩
 .exact⟨rfl,RowKit.Below.refl _ _⟩
 .exact⟨rfl,Go.Joins.below_bytesWorld _ _ _ _ (Ai _)⟩
theorem wD(c:Int):PC 167 [vs s,.v (.int .u8 c)] (vi (Go.Lib.indexByte s.data.toList c.toNat.toUInt8)):=
 J7 [.string s,.int .u8 c] (.int .i64 (Go.Lib.indexByte s.data.toList c.toNat.toUInt8)) (VI 167 Tryz.func167 aa0 rfl) rfl (fun g w=>.v _ _) fun w _=>Any.strings_IndexByte Tryz.layIxB s c w
abbrev YC(x:Nat):Bool:=decide (x<48)||decide (57<x)
theorem je(W:World)(x:Nat):Calls Tryz.prog 165 #[.int .i32 x] W fun e w'=>e=.returned (.bool (YC x))/\w'=W:=by
 go_enter Tryz.func165,Tryz.ntmps165
 by_cases h1:(x:Int)<48
 .go_wp2
  go_ret
  exact⟨by simp[YC,show x<48 by omega],rfl⟩
 .by_cases h2:(57:Int)<x
  .go_wp2
   go_ret
   exact⟨by simp[YC,show 57<x by omega],rfl⟩
  .go_wp2
   go_ret
   exact⟨by simp[YC,show ¬x<48 by omega,show ¬57<x by omega],rfl⟩
theorem wF:PC 164 [vs s,.v (.func (.func 165) #[] #[])] (vb (decide (0<=Go.Lib.idxFunc YC true s))):=by
 refine HP [.string s,.func (.func 165) #[] #[]] (.bool (decide (0<=Go.Lib.idxFunc YC true s))) (VI 164 Tryz.func164 aa0 rfl) rfl (fun g w=>.v _ _) fun W _ _=>?_;exact Any.strings_ContainsFunc Tryz.layCF 165 #[] (enters_of Tryz.func165 aa0 rfl) YC s W fun W' x _=>(je W' x).mono fun e w' h=>⟨h.1,0,h.2⟩
def SD:List UInt8:=if n<10 then [UInt8.ofNat (48+n)]else if n<100 then [UInt8.ofNat (48+n / 10),UInt8.ofNat (48+n % 10)]else [UInt8.ofNat (48+n / 100),UInt8.ofNat (48+n / 10 % 10),UInt8.ofNat (48+n % 10)]
theorem pK{n:Nat}(h:n<1000):Go.Lib.decDigits n=SD n:=by
 unfold SD
 by_cases h1:n<10
 .rw[As h1,Go.Lib.decDigits_one h1]
 .by_cases h2:n<100
  .rw[Ah h1,As h2,Go.Lib.decDigits_two h1 h2]
  .rw[Ah h1,Ah h2,Go.Lib.decDigits,dif_neg h1,Go.Lib.decDigits_two ch ch];simp only[DA,E7];rw[show n / 10 / 10=n / 100 by omega]
def wY:Bool:=decide ((SD n).length<=3)&&decide (1<=(SD n).length)&&(decide ((SD n).length=1)||decide (((SD n)[0]?.getD 0).toNat≠48))&&decide (¬0<=Go.Lib.idxFunc YC true ⟨(SD n).toArray⟩)&&(SD n).all fun c=>decide (48<=c.toNat/\c.toNat<=57)
theorem lq:∀n,n<1000->wY n=true:=by decide +kernel
structure sr(s:ByteArray):Prop where
 le:s.size<=3
 ge:1<=s.size
 lead:¬s.size=1->(CV s 0).toNat≠48
 odd:decide (0<=Go.Lib.idxFunc YC true s)=false
 dig:∀c∈s.data.toList,48<=c.toNat/\c.toNat<=57
theorem Ys(h:n<1000):IN (n:Int)=⟨(SD n).toArray⟩:=by
 unfold IN;rw[Go.Lib.itoa_nonneg,pK h]
theorem qt{n:Int}(h0:0<=n)(h1:n<=999):sr (IN n)/\Go.Lib.atoiAll (IN n).data.toList=.ok n:=by
 obtain⟨k,rfl⟩:∃k:Nat,n=k:=⟨n.toNat,by omega⟩;have hk:k<1000:=by omega
 have q:=lq k hk;unfold wY at q;simp only[Af,CD,Au,AP]at q;obtain⟨⟨⟨⟨q1,q2⟩,q3⟩,q4⟩,q5⟩:=q;have e:=Ys k hk;refine⟨⟨?_,?_,?_,?_,?_⟩,?_⟩
 .rw[e];simpa[ByteArray.size]using q1
 .rw[e];simpa[ByteArray.size]using q2
 .rw[e];intro h;rcases q3 with q3 | q3
  .exact absurd (by simpa[ByteArray.size]using q3) h
  .unfold CV;simpa using q3
 .rw[e];exact Am q4
 .rw[e];simpa using q5
 .unfold IN;rw[Go.Lib.itoa_nonneg];show Go.Lib.atoiAll (vY (Go.Lib.decDigits k)).data.toList=_;rw[show(vY (Go.Lib.decDigits k)).data.toList=Go.Lib.decDigits k by simp];exact kL ch
theorem aJ:∀{m l:List ByteArray},m.map (·.data.toList)=l.map (·.data.toList)->m=l
 | [],[],_=>rfl
 | [],_::_,h=>by cases h
 |_::_,[],h=>by cases h
 |a::m,b::l,h=>by
  rw[AK,AK,Eu]at h;rw[aJ h.2,show a=b from ByteArray.ext (Jb.1 h.1)]
theorem jO{s:ByteArray}{c:UInt8}{l:List ByteArray}(h:B2 c s.data.toList=l.map (·.data.toList)):Go.Lib.splitB ⟨#[c]⟩ 0 (Go.Lib.countB s ⟨#[c]⟩) s=l:=
 aJ ((Xf s c).trans h)
theorem dW(c:UInt8)(l:List ByteArray)(hs:Er s)(hl:B2 c s.data.toList=l.map (·.data.toList)):PC 104 [vs s,vs ⟨#[c]⟩] (sl BJ l):=by
 unfold Er at hs;have e:=jO hl;have h:=WU (P:=Tryz.prog) (f:=104) (args:=[vs s,vs ⟨#[c]⟩]) [.string s,.string ⟨#[c]⟩] (l.map Value.string) 9 (VI 104 Tryz.func104 aa0 rfl) rfl (fun x hx=>by
  obtain⟨y,_,rfl⟩:=Ak.1 hx;rfl) (fun w hm=>by
  obtain⟨m,hm⟩:=hm;have hl:l.length=Go.Lib.countB s ⟨#[c]⟩+1:=by rw[<-e];exact Go.Lib.splitB_all ⟨#[c]⟩ (Ai 1) 0 _ s rfl
  refine(Any.strings_Split Tryz.laySplit aa0 s ⟨#[c]⟩ m w ch hm (Ai 1)).mono ?_
  rintro e' w' ⟨rfl,rfl⟩
  rw[e];exact⟨by rw[Lm,hl],rfl⟩)
 rw[Bw]at h;exact h
theorem dJ{c:UInt8}:∀{a:List UInt8},c∉a->B2 c a=[a]
 | [],_=>rfl
 |b::a,h=>by
  rw[B2,Ah (fun e=>h (by rw[e];exact Ab ..)),dJ (fun hm=>h (Ae _ hm))]
theorem Vj{c:UInt8}{b:List UInt8}:∀{a:List UInt8},c∉a->B2 c (a++c::b)=a::B2 c b
 | [],_=>by show B2 c (c::b)=_;rw[B2,As rfl]
 |x::a,h=>by
  show B2 c (x::(a++c::b))=_;rw[B2,Ah (fun e=>h (by rw[e];exact Ab ..)),Vj (fun hm=>h (Ae _ hm))]
abbrev wv:List ByteArray:=(List.range i).map fun j=>IN (part v j)
theorem Vp{v:Ver}(h:B3 v=true):∀i,i<3->0<=part v i/\part v i<=999
 |0,_=>by have:=Fc h;exact⟨this.1,this.2.1⟩
 |1,_=>by have:=Fc h;exact⟨this.2.2.1,this.2.2.2.1⟩
 |2,_=>by have:=Fc h;exact⟨this.2.2.2.2.1,this.2.2.2.2.2⟩
 |_+3,h=>by omega
theorem im(h:i<3)(K:AV->Prop):Ls (([vi v.a,vi v.b,vi v.c]).drop ((i:Int).toNat*1)) K=K (vi (part v i)):=by
 match i,h with
 |0,_=>rfl
 |1,_=>rfl
 |2,_=>rfl
 |_+3,h=>omega
theorem rD:wv v (i+1)=wv v i++[IN (part v i)]:=by unfold wv;rw[List.range_succ,Az];rfl
theorem fV:Gr Zh (wv v 3)=Ja v.a v.b v.c:=j7 v.a v.b v.c
theorem oG(h:B3 v=true):WC Zh (wv v 3)<=281474976710656:=by
 unfold WC;rw[fV]
 have:=Fc h
 have:=RG (a:=v.a) (b:=v.b) (c:=v.c) ch ch ch
 have e:(Ja v.a v.b v.c).data.toList.length=(Ja v.a v.b v.c).size:=rfl;omega
def jY:Int:=if B3 v then 0 else 2
abbrev zl:AV:=.tup [vs (jZ v),vi (jY v)]
theorem wB:PC 59 [.agg (Jh v)] (zl v):=by
 refine Ps (pT [] [(4,1)] []) Tryz.func59 rfl (Nz rfl) (yN (BL (Bt (B3 v)) (fun h1=>?_) (fun h1=>?_)))
 .have h1:(B3 v)=true:=h1;refine Xi .pure (Xi _ (Yi (cb h1 (gH v)) (yN (Xi .pure (Xi _ (Yi (pt v) (Xi {i:Nat // i<=3} (Xi (fun q=>⟨[(4,.slice (.id 4 1) ((wv v q.1).map BJ)),(11,.agg [vi v.a,vi v.b,vi v.c]),(12,vi q.1)],[(4,.tok 1 q.1)],Ad⟩) (Xi (fun q=>3-q.1) (Yi (Xi ⟨0,by decide⟩ ?_) ?_))))))))))
  .exact⟨Z3,Z1,Fh,Tv⟩
  intro⟨i,i1⟩;have i1:i<=3:=i1;have Uk:(List.range i).length=i:=Is;refine Yi (fun h2=>?_) (fun h2=>?_)
  .have h2:(i:Int)<(3:Int):=h2;have kj:i<3:=by omega
   refine Yi ⟨by show(0:Int)<=i;omega,by show(i:Int)<3;omega⟩ ?_;refine(im v i kj _).mpr (Xi .pure (Xi _ (Yi (vg (part v i) (by have q:=Vp h1 i kj;unfold A5;omega)) ?_)));have b3:CR 1 [[vs (IN (part v i))]]/\((wv v i).map BJ).length=i/\(((wv v i).map BJ).length+([[vs (IN (part v i))]]:List (List AV)).length)*16<=140737488355328/\((wv v i).map BJ).length+([[vs (IN (part v i))]]:List (List AV)).length<=9223372036854775807:=⟨⟨rfl,trivial⟩,(by first | (simp;done) | (rw[Lm];assumption)),(by simp only[Lm,Al,Ax];omega),(by simp only[Lm,Al,Ax];omega)⟩
   refine Yi b3 (Yi (Ii i ch) (Xi ⟨i+1,by omega⟩ ?_));exact⟨Dl 3 i ch,⟨⟨(show AV.slice (.id 4 1) ((wv v i).map BJ++[[vs (IN (part v i))]])=.slice (.id 4 1) ((wv v (i+1)).map BJ) by rw[rD,Az];rfl),rfl⟩,Zr,Zr,Tv⟩,⟨⟨(show HO.tok 1 (((wv v i).map BJ).length+([[vs (IN (part v i))]]:List (List AV)).length)=.tok 1 (i+1) by simp),rfl⟩,Tv⟩,Fh,Tv⟩
  have h2:¬((i:Int)<(3:Int)):=h2;have kj:i=3:=by omega
  have xa:=kT (wv v 3) Zh (by show(3:Nat)<=_;decide) (oG v h1);rw[<-kj]at xa;refine Xi .pure (Xi _ (Yi xa ?_));exact .of_eq (show AV.tup [vs (Gr Zh (wv v i)),vi 0]=.tup [vs (jZ v),vi (jY v)] by rw[kj,fV];unfold jZ jY;rw[h1];rfl)
 have h1:(B3 v)=false:=h1;refine Xi .pure (Xi _ (Yi (cb h1 (gH v)) ?_));exact .of_eq (show AV.tup [vs ⟨#[]⟩,vi 2]=.tup [vs (jZ v),vi (jY v)] by unfold jZ jY;rw[h1];rfl)
end Go.Eng
