/- Lemmas 34. -/
import Derived.Test.YteaiieomnhbmgaaGreatDoorFA33
set_option maxHeartbeats 4000000
namespace Go.Eng
open Go.Proofs
variable {a:Ad}(y:Bool)(p:Sl->Bool)(x:List Rl)(ifs:List (List AV))(i:Nat)(q:List Rq)
def M5(a:Ad):Bool:=!(decide (100<a.id.size)||(decide (100<a.path.size)||(decide (8<a.set.length)||((decide (12<a.syms.length)&&decide (a.syms.length<=1024))||(decide (100<a.note.size)&&decide (a.note.size<=65536))))))
def I0(l:List Ad):Bool:=l.all M5&&decide (l.length<=5)
theorem sD(l:List Ad)(hl:B8 l)(_hal:∀a∈l,Ks a):PC 27 [sl BA l] (vb (I0 l)):=by
 refine Ps (pC [4] [3,6]) Tryz.func27 rfl (Nz rfl) (Xi {q:Nat // q<=l.length/\∀j (hj:j<l.length),j<q->M5 l[j]=true} (Xi (fun q=>⟨[(0,sl BA l),(3,vi q.1)],[],Ag⟩) (Xi (fun q=>l.length-q.1) (Yi (Xi ⟨0,AB _,fun _ _ h=>absurd h (Iw _)⟩ ?_) ?_))))
 .exact⟨Z2,Tv,Fh,Tv⟩
 intro⟨i,i1,i2⟩;refine Yi (fun h1=>?_) (fun h1=>?_)
 .have h1:(i:Int)<((l.map BA).length:Int):=h1;have n1:=FJ h1;refine Xi (BA l[i]) (Yi (Lv n1) (Yi rfl (yN (yN (Yi (fun h2=>?_) (fun h2=>?_))))))
  .have h2:(100:Int)<(l[i].id.size:Int):=h2;refine cU [] [] Tv Tv ?_
   exact CX.of_eq (Aa vb (show false=I0 l by rw[I0,Xg n1 (show M5 l[i]=false by rw[M5,Ak (p:=100<l[i].id.size) (by have q:=h2;omega)];simp),LG]))
  have h2:¬((100:Int)<(l[i].id.size:Int)):=h2;refine Yi (fun h4=>?_) (fun h4=>?_)
  .have h4:(100:Int)<(l[i].path.size:Int):=h4;refine cU [] [] Tv Tv ?_
   exact CX.of_eq (Aa vb (show false=I0 l by rw[I0,Xg n1 (show M5 l[i]=false by rw[M5,Ae (p:=100<l[i].id.size) (by have q:=h2;omega),Ak (p:=100<l[i].path.size) (by have q:=h4;omega)];simp),LG]))
  have h4:¬((100:Int)<(l[i].path.size:Int)):=h4;refine Yi (fun h6=>?_) (fun h6=>?_)
  .have h6:(8:Int)<((l[i].set.map AE).length:Int):=h6;have n6:8<l[i].set.length:=by have q:=h6;rw[Lm]at q;omega
   refine cU [] [] Tv Tv ?_
   exact CX.of_eq (Aa vb (show false=I0 l by rw[I0,Xg n1 (show M5 l[i]=false by rw[M5,Ae (p:=100<l[i].id.size) (by have q:=h2;omega),Ae (p:=100<l[i].path.size) (by have q:=h4;omega),Ak (p:=8<l[i].set.length) (by have q:=h6;rw[Lm]at q;omega)];simp),LG]))
  have h6:¬((8:Int)<((l[i].set.map AE).length:Int)):=h6;have n6:¬8<l[i].set.length:=by have q:=h6;rw[Lm]at q;omega
  refine Yi (fun h8=>?_) (fun h8=>?_)
  .have h8:(12:Int)<((l[i].syms.map AF).length:Int):=h8;have n8:12<l[i].syms.length:=by have q:=h8;rw[Lm]at q;omega
   refine Yi (fun h9=>?_) (fun h9=>?_)
   .have h9:((l[i].syms.map AF).length:Int)<=(1024:Int):=h9;refine cU [] [] Tv Tv ?_
    exact CX.of_eq (Aa vb (show false=I0 l by rw[I0,Xg n1 (show M5 l[i]=false by rw[M5,Ae (p:=100<l[i].id.size) (by have q:=h2;omega),Ae (p:=100<l[i].path.size) (by have q:=h4;omega),Ae (p:=8<l[i].set.length) (by have q:=h6;rw[Lm]at q;omega),Ak (p:=12<l[i].syms.length) (by have q:=h8;rw[Lm]at q;omega),Ak (p:=l[i].syms.length<=1024) (by have q:=h9;rw[Lm]at q;omega)];simp),LG]))
   have h9:¬(((l[i].syms.map AF).length:Int)<=(1024:Int)):=h9;refine Yi (fun Kz=>?_) (fun Kz=>?_)
   .have Kz:(100:Int)<(l[i].note.size:Int):=Kz;refine Yi (fun uT=>?_) (fun uT=>?_)
    .have uT:(l[i].note.size:Int)<=(65536:Int):=uT;refine cU [] [] Tv Tv ?_
     exact CX.of_eq (Aa vb (show false=I0 l by rw[I0,Xg n1 (show M5 l[i]=false by rw[M5,Ae (p:=100<l[i].id.size) (by have q:=h2;omega),Ae (p:=100<l[i].path.size) (by have q:=h4;omega),Ae (p:=8<l[i].set.length) (by have q:=h6;rw[Lm]at q;omega),Ak (p:=12<l[i].syms.length) (by have q:=h8;rw[Lm]at q;omega),Ae (p:=l[i].syms.length<=1024) (by have q:=h9;rw[Lm]at q;omega),Ak (p:=100<l[i].note.size) (by have q:=Kz;omega),Ak (p:=l[i].note.size<=65536) (by have q:=uT;omega)];simp),LG]))
    have uT:¬((l[i].note.size:Int)<=(65536:Int)):=uT;refine cU [(0,sl BA l),(3,vi i)] [] Z2 Tv (Yi (Ii i ch) ?_);refine Xi ⟨i+1,n1,fun j hj I6=>by
      rcases CR j i with e|e
      .exact i2 j hj e
      .have e:j=i:=by omega
       subst e;rw[M5,Ae (p:=100<l[j].id.size) (by have q:=h2;omega),Ae (p:=100<l[j].path.size) (by have q:=h4;omega),Ae (p:=8<l[j].set.length) (by have q:=h6;rw[Lm]at q;omega),Ak (p:=12<l[j].syms.length) (by have q:=h8;rw[Lm]at q;omega),Ae (p:=l[j].syms.length<=1024) (by have q:=h9;rw[Lm]at q;omega),Ak (p:=100<l[j].note.size) (by have q:=Kz;omega),Ae (p:=l[j].note.size<=65536) (by have q:=uT;omega)];simp⟩ ?_
    exact⟨Dl l.length i ch,Z2,Tv,Fh,Tv⟩
   have Kz:¬((100:Int)<(l[i].note.size:Int)):=Kz;refine cU [(0,sl BA l),(3,vi i)] [] Z2 Tv (Yi (Ii i ch) ?_);refine Xi ⟨i+1,n1,fun j hj I6=>by
     rcases CR j i with e|e
     .exact i2 j hj e
     .have e:j=i:=by omega
      subst e;rw[M5,Ae (p:=100<l[j].id.size) (by have q:=h2;omega),Ae (p:=100<l[j].path.size) (by have q:=h4;omega),Ae (p:=8<l[j].set.length) (by have q:=h6;rw[Lm]at q;omega),Ak (p:=12<l[j].syms.length) (by have q:=h8;rw[Lm]at q;omega),Ae (p:=l[j].syms.length<=1024) (by have q:=h9;rw[Lm]at q;omega),Ae (p:=100<l[j].note.size) (by have q:=Kz;omega)];simp⟩ ?_
   exact⟨Dl l.length i ch,Z2,Tv,Fh,Tv⟩
  have h8:¬((12:Int)<((l[i].syms.map AF).length:Int)):=h8;have n8:¬12<l[i].syms.length:=by have q:=h8;rw[Lm]at q;omega
  refine Yi (fun GQ=>?_) (fun GQ=>?_)
  .have GQ:(100:Int)<(l[i].note.size:Int):=GQ;refine Yi (fun uU=>?_) (fun uU=>?_)
   .have uU:(l[i].note.size:Int)<=(65536:Int):=uU;refine cU [] [] Tv Tv ?_
    exact CX.of_eq (Aa vb (show false=I0 l by rw[I0,Xg n1 (show M5 l[i]=false by rw[M5,Ae (p:=100<l[i].id.size) (by have q:=h2;omega),Ae (p:=100<l[i].path.size) (by have q:=h4;omega),Ae (p:=8<l[i].set.length) (by have q:=h6;rw[Lm]at q;omega),Ae (p:=12<l[i].syms.length) (by have q:=h8;rw[Lm]at q;omega),Ak (p:=100<l[i].note.size) (by have q:=GQ;omega),Ak (p:=l[i].note.size<=65536) (by have q:=uU;omega)];simp),LG]))
   have uU:¬((l[i].note.size:Int)<=(65536:Int)):=uU;refine cU [(0,sl BA l),(3,vi i)] [] Z2 Tv (Yi (Ii i ch) ?_);refine Xi ⟨i+1,n1,fun j hj I6=>by
     rcases CR j i with e|e
     .exact i2 j hj e
     .have e:j=i:=by omega
      subst e;rw[M5,Ae (p:=100<l[j].id.size) (by have q:=h2;omega),Ae (p:=100<l[j].path.size) (by have q:=h4;omega),Ae (p:=8<l[j].set.length) (by have q:=h6;rw[Lm]at q;omega),Ae (p:=12<l[j].syms.length) (by have q:=h8;rw[Lm]at q;omega),Ak (p:=100<l[j].note.size) (by have q:=GQ;omega),Ae (p:=l[j].note.size<=65536) (by have q:=uU;omega)];simp⟩ ?_
   exact⟨Dl l.length i ch,Z2,Tv,Fh,Tv⟩
  have GQ:¬((100:Int)<(l[i].note.size:Int)):=GQ;refine cU [(0,sl BA l),(3,vi i)] [] Z2 Tv (Yi (Ii i ch) ?_);refine Xi ⟨i+1,n1,fun j hj I6=>by
    rcases CR j i with e|e
    .exact i2 j hj e
    .have e:j=i:=by omega
     subst e;rw[M5,Ae (p:=100<l[j].id.size) (by have q:=h2;omega),Ae (p:=100<l[j].path.size) (by have q:=h4;omega),Ae (p:=8<l[j].set.length) (by have q:=h6;rw[Lm]at q;omega),Ae (p:=12<l[j].syms.length) (by have q:=h8;rw[Lm]at q;omega),Ae (p:=100<l[j].note.size) (by have q:=GQ;omega)];simp⟩ ?_
  exact⟨Dl l.length i ch,Z2,Tv,Fh,Tv⟩
 have h1:¬((i:Int)<((l.map BA).length:Int)):=h1;have n1:=DP h1;refine Yi (fun c8=>?_) (fun c8=>?_)
 .have c8:((l.map BA).length:Int)<=(5:Int):=c8;exact CX.of_eq (Aa vb (show true=I0 l by rw[I0,lG i2 (Bl (DP h1)),Ak (by have q:=c8;rw[Lm]at q;omega)];rfl))
 have c8:¬(((l.map BA).length:Int)<=(5:Int)):=c8;exact CX.of_eq (Aa vb (show false=I0 l by rw[I0,lG i2 (Bl (DP h1)),Ae (by have q:=c8;rw[Lm]at q;omega)];rfl))
theorem AaT(hq:B8 q):PC 36 [sl AW q] (vb (!EN q)):=by
 refine Ps Ej Tryz.func36 rfl (Nz rfl) (BX (Bt (EN q)) (fun h1=>?_) (fun h1=>?_))
 .refine Xi .pure (Xi _ (Yi (cb h1 (c35 q hq)) ?_));exact CX.of_eq (Aa vb (show false=!EN q by rw[h1];rfl))
 refine Xi .pure (Xi _ (Yi (cb h1 (c35 q hq)) ?_));exact CX.of_eq (Aa vb (show true=!EN q by rw[h1];rfl))
theorem wM(cl:List (List Rq))(hl:B8 cl)(h:∀q∈cl,B8 q):PC 28 [sl BF cl,.v (.func (.func 36) #[] #[])] (vb (cl.any fun q=>!EN q)):=
 (z28 (fF:=36) CU.nil cl (fun q=>!EN q) (fun q hq=>AaT q (h q hq)) hl).args ⟨.refl _,CX.fn 36,trivial⟩
def Kd(l:List Ad):Int:=if Mf x l=0 then EV (yk true (VX l) x) q else Mf x l
def Pc(l:List Ad):List Sl:=if Mf x l=0 then B9 (yk true (VX l) x) q else []
theorem wW(y:List Rl)(ifs:List (List AV))(q:List Rq)(l:List Ad)(Wr:PC 62 [Iu x ifs,sl BA l] (.tup [Iu y ifs,vi 0]))(h37:PC 37 [Iu y ifs,sl AW q] (.tup [sl Aq (B9 y q),vi (EV y q)])):PC 38 [Iu x ifs,sl AW q,sl BA l] (.tup [sl Aq (B9 y q),vi (EV y q)]):=by
 refine Ps (pC [3,8] [2]) Tryz.func38 rfl (Nz rfl) (yN (Xi .pure (Xi _ (Yi Wr (yN (cU [(1,sl AW q),(8,.ref 8 0),(9,vi 0)] [(8,.ro (Ic y ifs))] Z3 Z1 (Yi (fun h=>absurd h Cl) (fun _=>?_))))))));refine yN (Xi .pure (Xi _ (Yi h37 ?_)));exact .refl _
theorem wV(l:List Ad)(e:Int)(c0:¬e=0)(Wr:PC 62 [Iu x ifs,sl BA l] (.tup [.agg [nzA,nzA],vi e])):PC 38 [Iu x ifs,sl AW q,sl BA l] (.tup [sl Aq [],vi e]):=by
 refine Ps (pC [3,8] [2]) Tryz.func38 rfl (Nz rfl) (yN (Xi .pure (Xi _ (Yi Wr (yN (cU [(1,sl AW q),(8,.ref 8 0),(9,vi e)] [(8,.ro [nzA,nzA])] Z3 Z1 (Yi (fun h1=>?_) (fun h1=>?_))))))))
 .exact CX.tup (show KX [nzA,vi e] [sl Aq [],vi e]from⟨CX.nil,CX.refl _,trivial⟩)
 have h1:(e:Int)=(0:Int):=AH h1;exact absurd h1 c0
theorem tM(l:List Ad)(hx:Uc x)(vC:∀r∈x,r.reqs.length<=1000)(hl:B8 l)(gy:∀a∈l,Ks a)(hcl:PC 103 [.slice .none ifs] (.slice .none ifs))(hq:∀z∈q,JH z):PC 38 [Iu x ifs,sl AW q,sl BA l] (.tup [sl Aq (Pc x q l),vi (Kd x q l)]):=by
 have Wr:=pK x ifs l hx vC hl gy hcl;rw[sf]at Wr
 by_cases c0:Mf x l=0
 .rw[Ap c0]at Wr;rw[Pc,Kd,Ap c0,Ap c0];exact wW x _ ifs q l Wr (s16 _ ifs q (iL hx.few) hq)
 .rw[Aj c0]at Wr;rw[Pc,Kd,Aj c0,Aj c0];exact wV x ifs q l _ c0 Wr
theorem Af9(b:Bk)(i:Nat):PC 40 [.agg (Bu b),.cptr [vi (i:Nat)]] (vb (decide (b.client=i))):=by
 refine Ps (pC [2] []) Tryz.func40 rfl (Nz rfl) (Yi (fun h1=>?_) (fun h1=>?_))
 .exact CX.of_eq (Aa vb (show true=decide (b.client=i)from(Ak (by have q:=h1;omega)).symm))
 exact CX.of_eq (Aa vb (show false=decide (b.client=i)from(Ae (by have q:=h1;omega)).symm))
theorem z39{fF:Nat}{caps:List AV}(hs:CU caps)(l:List (Bk))(p:Bk->Bool)(hF:∀x∈l,PC fF ([.agg (Bu x)]++caps) (vb (p x)))(hl:l.length<9223372036854775807) :
  PC 39 [sl Bu l,.clo fF caps] (vi (FS p l 0)):=by
 refine Ps Ej Tryz.func39 rfl (Nz rfl) (Xi {i:Nat // i<=l.length/\∀j (hj:j<l.length),j<i->p l[j]=false} (Xi (fun i=>⟨[(0,sl Bu l),(1,.clo fF caps),(7,vi (l.map Bu).length),(8,vi i.1)],[],Ag⟩) (Xi (fun i=>l.length-i.1) (Yi (Xi ⟨0,by simp⟩ ?_) ?_))))
 .exact⟨⟨Zr,⟨rfl,hs.ids _⟩,Zr,Zr,Tv⟩,Tv,Fh,Tv⟩
 .intro⟨i,h1,h2⟩;refine Yi ?_ ?_
  .intro h;have h:i<l.length:=by simpa using h
   have hg:l[i]?=some l[i]:=Ge h;refine Xi (Bu l[i]) (Yi (Yi (Nn i) (by simp[hg])) (Yi rfl (yN ?_)));have Ck:∀h,PC fF ([.agg (Bu l[i])]++caps.map (str0 h)) (vb (p l[i])):=fun h=>by rw[hs.map];exact hF l[i] (Ao _)
   cases hp:p l[i]with
   |true=>
    rw[hp]at Ck;refine Xi .pure (Xi (vb true) (Yi (Ck _) ?_));rw[H2 h (fun j hj I6=>h2 j hj I6) hp,EF];exact .refl _
   |false=>
    rw[hp]at Ck;refine Xi .pure (Xi (vb false) (Yi (Ck _) (Yi (Ii i ch) (Xi ⟨i+1,by omega,fun j hj I6=>?_⟩ ?_))))
    .by_cases e:j=i
     .subst e;exact hp
     .exact h2 j hj ch
    .exact⟨Dl l.length i ch,⟨Zr,⟨rfl,hs.ids _⟩,Zr,Zr,Tv⟩,Tv,Fh,Tv⟩
  .intro h;have h:¬i<l.length:=by simpa using h
   rw[F9 fun j hj=>h2 j hj ch];exact .refl _
theorem AaO(l:List Bk)(i:Nat)(hl:B8 l):PC 39 [sl Bu l,.clo 40 [.cptr [vi (i:Nat)]]] (vi (FS (fun b:Bk=>decide (b.client=i)) l 0)):=
 z39 (fF:=40) (CU.ptr _) l (fun b=>decide (b.client=i)) (fun b _=>Af9 b i) (by have q:l.length<=1073741824:=hl;omega)
section
variable {α:Type}(c:α->α->Int)
theorem Yc{f:α->α}(hf:∀a b,c (f a) (f b)=c a b):∀(j:Nat) (l:List α),(Hp c j l).map f=Hp c j (l.map f)
 |0,_=>rfl
 |j+1,l=>by
  rw[Hp,Hp,AG,AG];cases h1:l[j+1]? with
  |none=>rfl
  |some a=>
   cases h2:l[j]? with
   |none=>rfl
   |some b=>
    show(if c a b<0 then Hp c j ((l.set (j+1) b).set j a)else l).map f=if c (f a) (f b)<0 then Hp c j (((l.map f).set (j+1) (f b)).set j (f a))else l.map f
    rw[hf];split
    .rw[Yc hf j,JK,JK]
    .rfl
theorem bD{f:α->α}(hf:∀a b,c (f a) (f b)=c a b):∀(i:Nat) (l:List α),(DW c i l).map f=DW c i (l.map f)
 |0,_=>rfl
 |i+1,l=>by rw[Ih,Ih,Yc c hf,bD hf i]
theorem bE{x:List α}(h:x.Pairwise fun a b=>¬c b a<0)(n:α):∀i,i<=x.length->DW c i (x++[n])=x++[n]
 |0,_=>rfl
 |i+1,hi=>by
  rw[Ih,bE h n i ch]
  by_cases h0:i=0
  .subst h0;rfl
  .exact MK c ch (a:=x[i]) (b:=x[i-1]' ch) (by rw[AT ch];exact Ge _) (by rw[AT ch];exact Ge _) ((AU.1 h) (i-1) i ch ch ch)
theorem cK{R:α->α->Prop}(DF:∀a b,c a b<0->R a b)(htr:∀a b d,R a b->R b d->R a d){a:α}:∀(n:Nat) (A B:List α),A.length=n->(A++B).Pairwise R->(∀b∈B,R a b)->(∀z∈A,¬c a z<0->R z a)->(Hp c n (A++a::B)).Pairwise R
 |0,A,B,hn,h,hb,_=>by
  rw[EP.1 hn]at h⊢;exact Bw.2 ⟨hb,h⟩
 |n+1,A,B,hn,h,hb,hz=>by
  obtain⟨A',z,rfl⟩:∃A' z,A=A'++[z]:=⟨A.dropLast,A.getLast (fun e=>by rw[e]at hn;cases hn),(List.dropLast_concat_getLast _).symm⟩;have hl:A'.length=n:=by simpa using hn
  have eL:(A'++[z])++a::B=A'++z::a::B:=by simp
  have hA:(A'++z::B).Pairwise R:=by simpa using h
  have g1:(A'++z::a::B)[n+1]?=some a:=by rw[<-hl];simp
  have g2:(A'++z::a::B)[n+1-1]?=some z:=by rw[<-hl];simp
  rw[eL]
  by_cases hc:c a z<0
  .rw[VZ c (Nat.succ_pos _) g1 g2 hc];have e:((A'++z::a::B).set (n+1) z).set (n+1-1) a=A'++a::z::B:=by rw[<-hl];simp
   rw[e];exact cK DF htr n A' (z::B) hl hA (fun b lp=>by
    rcases Ay.1 lp with rfl|lp
    .exact DF _ _ hc
    .exact hb b lp) fun y hy=>hz y (By _ hy)
  .rw[MK c (Nat.succ_pos _) g1 g2 hc];have za:=hz z (Bo _ (Ar.2 rfl)) hc;rw[List.pairwise_append]at hA⊢;obtain⟨p1,p2,p3⟩:=hA;obtain⟨p4,p5⟩:=Bw.1 p2;refine⟨p1,Bw.2 ⟨fun y hy=>?_,Bw.2 ⟨hb,p5⟩⟩,fun y hy u hu=>?_⟩
   .rcases Ay.1 hy with rfl|hy
    .exact za
    .exact p4 y hy
   .have yz:=p3 y hy z (Ab ..);rcases Ay.1 hu with rfl|hu
    .exact yz
    .rcases Ay.1 hu with rfl|hu
     .exact htr _ _ _ yz za
     .exact p3 y hy u (Ah _ hu)
end
theorem UF{a b:Rl}:CY a b<0↔Zn a b:=Nk (a:=MD a) (b:=MD b)
theorem ru{a b:Rl}(h:Zn a b):¬CY b a<0:=fun c=>G2 (N6 h (UF.1 c)) rfl
theorem rv{a b:Rl}(h:¬CY a b<0)(hk:Fa b≠Fa a):Zn b a:=rx (a:=MD a) (b:=MD b) (fun c=>h (UF.2 c)) fun e=>hk e.symm
theorem rD{x:List Rl}{n:Rl}(hx:A0 x=0)(GQ:x.length<=16)(hn:Dq n=0)(hk:∀r∈x,Fa r≠Fa n):A0 (DW CY (x++[n]).length (x++[n]))=0:=by
 obtain⟨_,h2,h3⟩:=Jt.1 hx;refine Jt.2 ⟨by rw[JA,Ac];show x.length+1<=256;omega,fun r hr=>?_,?_⟩
 .rcases AN.1 (KG CY _ _ r hr)with h|h
  .exact h2 r h
  .rw[Ar.1 h];exact hn
 .rw[Ac,show x.length+[n].length=x.length+1 from rfl,Ih,bE CY (h3.imp fun {a b} h=>ru h) n _ (Am _)];exact cK CY (fun a b h=>UF.1 h) (fun _ _ _ h k=>N6 h k) _ x [] rfl (by rw[BQ];exact h3) (fun _ h=>by cases h) fun z hz h=>rv h (hk z hz)
theorem xe(a b:Rl):CY (if p (MD a)=true then { a with yanked:=y }else a) (if p (MD b)=true then { b with yanked:=y }else b)=CY a b:=by split<;>split<;>rfl
theorem xf(x:List Rl):yk y p (DW CY i x)=DW CY i (yk y p x):=bD CY (xe y p) i x
theorem xg:yk y p (Fv x)=Fv (yk y p x):=by
 rw[Fv,Fv,<-KU (y:=y) (p:=p) (x:=x),<-xf,pV,KU];split
 .rfl
 .rfl
theorem o5{x:List Rl}{roots:List Rq}(h:EV x roots=0):∀z∈B9 x roots,∃r∈x,MD r=z/\r.yanked=false:=by
 have h0:=h;unfold EV at h0;split at h0
 .rename_i hs;exact absurd h0 hs
 .rename_i hs;have hs:GM x roots=0:=BT.1 hs;split at h0
  .rename_i hf;have hv:El x roots=true:=by
    cases e:El x roots with
    |true=>rfl
    |false=>unfold GM at hs;rw[e]at hs;cases hs
   have U9:(DM x roots).ss.full=false:=by
    cases e:(DM x roots).ss.full with
    |false=>rfl
    |true=>unfold GM at hs;rw[hv,e]at hs;cases hs
   obtain⟨hx,hr⟩:=Mc hv;have hA:Hw x roots=Tu x roots:=by unfold Hw;rw[Ap ⟨hv,U9⟩]
   rw[hA]at hf;have OD:(DM x roots).found=true:=by
    cases e:(DM x roots).found with
    |true=>rfl
    |false=>unfold Tu at hf;rw[e]at hf;cases hf
   have vF:B9 x roots=DZ (AS (DM x roots).dec):=by
    unfold B9;rw[Ap h,hA];unfold Tu;rw[Ap OD]
   obtain⟨_,t,sl,y2,y3,y4,y5⟩:=(Kq hx hr).yes OD;have m8:(DM x roots).dec∈Ht x roots (x.length+1) []:=Sz y5;have lf:=I9 (EI.nil x) (Iy.nil roots) _ m8;rw[vF];intro z hz;rw[Gd]at hz;obtain⟨c,hc,rfl⟩:=Ai.1 hz;exact⟨c.rel,(lf.ok.cand c hc).1,rfl,(lf.ok.cand c hc).2.1⟩
  .cases h0
theorem o0{x:List Rl}{q:List Rq}{p:Sl->Bool}:∀z∈B9 (yk true p x) q,p z=false:=fun z hz=>by
 by_cases h:EV (yk true p x) q=0
 .obtain⟨r,hr,e,hy⟩:=o5 h z hz;obtain⟨r0,_,rfl⟩:=Ai.1 hr;rw[pW]at e;subst e;cases c:p (MD r0)with
  |false=>rfl
  |true=>rw[Ap c]at hy;cases hy
 .unfold B9 at hz;rw[Aj h]at hz;cases hz
theorem gE{α:Type}{p:α->Bool}{b0:α}:∀{l:List α} {k:Int},b0∈l->p b0=true->(∀b∈l,p b=true->b=b0)->∃j:Nat,FS p l k=k+(j:Nat)/\l[j]?=some b0
 | [],_,h,_,_=>by cases h
 |a::l,k,h,h0,hu=>by
  unfold FS;cases e:p a with
  |true=>
   rw[Ap rfl];exact⟨0,by omega,by rw[hu a (Ab ..) e];rfl⟩
  |false=>
   rw[Aj Fy];rcases Ay.1 h with rfl|h
   .rw[h0]at e;cases e
   .obtain⟨j,h1,h2⟩:=gE (k:=k+1) h h0 fun b hb=>hu b (Ah _ hb);exact⟨j+1,by rw[h1];omega,h2⟩
theorem YY{x sx:List Rl}{a:Ad}:∀{l:List (List Rq)} {j i:Nat} (_:i<l.length),In x sx a (l.getD i [])=true->(⟨j+i,BO x a (l.getD i [])⟩:Wd)∈Nr x sx a l j
 | [],_,_,h,_=>absurd h (Iw _)
 |q::l,j,0,_,hw=>by
  have hw:In x sx a q=true:=hw;rw[Nr,Ap hw];exact Ab ..
 |q::l,j,i+1,h,hw=>by
  have q1:=YY (x:=x) (sx:=sx) (a:=a) (l:=l) (j:=j+1) (i:=i) (by simpa using h) hw;rw[show j+1+i=j+(i+1) by omega]at q1;rw[Nr];split
  .exact Ah _ q1
  .exact q1
theorem sX{x sx:List Rl}{cl:List (List Rq)}{i:Nat}(hi:i<cl.length)(hw:In x sx a (cl.getD i [])=true):∃j:Nat,FS (fun b:Bk=>decide (b.client=i)) ((Kb x sx a cl).map (GU x sx a cl)) 0=(j:Nat)/\((Kb x sx a cl).map (GU x sx a cl))[j]?=some (GU x sx a cl ⟨i,BO x a (cl.getD i [])⟩):=by
 have h1:=YY (x:=x) (sx:=sx) (a:=a) (j:=0) hi hw;rw[Bb]at h1;obtain⟨j,h2,h3⟩:=gE (p:=fun b:Bk=>decide (b.client=i)) (k:=0) (List.mem_map_of_mem (f:=GU x sx a cl) h1) (Ak rfl) fun b hb he=>by
  obtain⟨w,hw',rfl⟩:=Ai.1 hb;obtain⟨_,_,_,h4⟩:=Ql hw';have he:w.client=i:=AP he;rw[Nat.sub_zero,he]at h4
  have:w=⟨i,BO x a (cl.getD i [])⟩:=by cases w;simp_all
  rw[this]
 exact⟨j,by show FS (fun b:Bk=>decide (b.client=i)) ((Nr x sx a cl 0).map (GU x sx a cl)) 0=(j:Nat);rw[h2];omega,h3⟩
theorem x7{x sx:List Rl}{cl:List (List Rq)}{i:Nat}(hw:In x sx a (cl.getD i [])=false):FS (fun b:Bk=>decide (b.client=i)) ((Kb x sx a cl).map (GU x sx a cl)) 0=-1:=by
 refine F9 fun j hj=>?_;obtain⟨w,hw',e⟩:=Ai.1 (Ao hj);rw[<-e];obtain⟨_,_,h3,_⟩:=Ql hw';rw[Nat.sub_zero]at h3;refine Ae fun he=>?_;have he:w.client=i:=he;rw[he,hw]at h3;cases h3
theorem Y4{b:Int}:∀(l:List Ver) (c:Int),c<=l.foldl (bT b) c/\∀v∈l,v.b=b->v.c<=l.foldl (bT b) c
 | [],c=>⟨Bs _,fun _ h=>by cases h⟩
 |u::l,c=>by
  obtain⟨h1,h2⟩:=Y4 l (bT b c u);have h3:c<=bT b c u:=by unfold bT;split<;>omega
  refine⟨Int.le_trans h3 h1,fun v hv e=>?_⟩;rcases Ay.1 hv with rfl|hv
  .have h4:v.c<=bT b c v:=by unfold bT;rw[Ap e];omega
   exact Int.le_trans h4 h1
  .exact h2 v hv e
theorem wb{x:List Rl}{v:Ver}:∀r∈x,Fa r≠⟨a.path,Wu x a v⟩:=fun r hr e=>by
 have e1:r.path=a.path:=Aa Sl.path e;have e2:r.ver=Wu x a v:=Aa Sl.ver e;have h:=(Y4 (b:=v.b) (Jm (ce x a.path)) v.c).2 r.ver (List.mem_map_of_mem (Br.2 ⟨hr,Ak e1⟩)) (by rw[e2];rfl);have e3:r.ver.c=ZW x a v+1:=by rw[e2];rfl
 rw[e3]at h;unfold ZW at h;omega
theorem lR{x:List Rl}{a:Ad}:∀{l:List Wd},au x a l=0->∀w∈l,ZW x a w.rel.ver+1<=999
 | [],_,_,h=>by cases h
 |u::l,h,w,hw=>by
  rw[au]at h;split at h
  .exact absurd h Cl
  .rename_i h1;rcases Ay.1 hw with rfl|hw
   .omega
   .exact lR h w hw
theorem Aa4{r:Rl}(h:Dq r=0):(∃m,CD r.path=some m/\r.ver.a=m)/\Ci r.ver=true/\BH r.reqs=0:=by
 unfold Dq at h;split at h
 .exact absurd h Cl
 .rename_i m hm;split at h
  .exact absurd h Cl
  .rename_i h1;split at h
   .rename_i h2;exact absurd h h2
   .rename_i h2;cases e1:Ci r.ver with
    |false=>rw[e1]at h1;exact absurd rfl h1
    |true=>
     rw[e1]at h1;exact⟨⟨m,hm,AH fun c=>h1 (by rw[Ae c];rfl)⟩,rfl,BT.1 h2⟩
theorem vY{x:List Rl}{w:Wd}(hx:A0 x=0)(hr:w.rel∈x)(hp:w.rel.path=a.path)(hm:ZW x a w.rel.ver+1<=999):Dq (QO x a w)=0/\Ci (Wu x a w.rel.ver)=true:=by
 obtain⟨⟨m,h1,h2⟩,h3,h4⟩:=Aa4 ((Jt.1 hx).2.1 _ hr);have v:=Im h3;have h5:=(Y4 (b:=w.rel.ver.b) (Jm (ce x a.path)) w.rel.ver.c).1;have h5:w.rel.ver.c<=ZW x a w.rel.ver:=h5;have hv:Ci (Wu x a w.rel.ver)=true:=by
  simp only[Ci,Af,AA]at h3⊢;exact⟨h3.1,⟨by show 0<=ZW x a w.rel.ver+1;omega,hm⟩⟩
 refine⟨?_,hv⟩;unfold Dq QO;rw[<-hp,h1];show(if(!Ci (Wu x a w.rel.ver)||!decide (w.rel.ver.a=m))=true then(2:Int)else if BH w.rel.reqs≠0 then BH w.rel.reqs else if(E9 ⟨#[]⟩&&E9 ⟨#[]⟩&&E9 ⟨#[]⟩)=true then 0 else 1)=0;rw[hv,h2,Ak rfl,h4];rfl
abbrev oC:ByteArray:=⟨#[99,47,118,49]⟩
abbrev kn:ByteArray:=⟨#[97,47,118,49]⟩
abbrev ZX:ByteArray:=⟨#[98,47,118,49]⟩
abbrev v45(m:Int):Ver:=⟨1,m,0⟩
abbrev ME(m:Int):List (Int×Int):=[(1000*m,1000*m+1)]
abbrev cC(p:ByteArray)(m:Int)(q:List Rq):Rl:=⟨p,v45 m,q,mt,mt,mt,false⟩
abbrev Aa0:List Rq:=[⟨ZX,ME 0⟩]
abbrev Aa1:List Rq:=[⟨ZX,ME 1⟩,⟨oC,[(0,1000000)]⟩]
abbrev aa:List Rl:=[cC kn 0 Aa0,cC kn 1 Aa1,cC ZX 0 [],cC ZX 1 [],cC oC 0 []]
abbrev UO:List Sl:=[⟨kn,v45 0⟩,⟨ZX,v45 0⟩]
abbrev t45:List Sl:=[⟨kn,v45 1⟩,⟨ZX,v45 1⟩,⟨oC,v45 0⟩]
abbrev WU:List cY:=[⟨5,10⟩,⟨20,100⟩]
abbrev X5:Ro:=⟨⟨#[117,112]⟩,[⟨[oC],WU⟩,⟨[kn,ZX],WU⟩]⟩
abbrev a45:Ad:=⟨⟨#[65]⟩,ZX,ME 1,[⟨#[102]⟩],mt⟩
abbrev yn:List (List Rq):=[[⟨kn,ME 1⟩],[⟨ZX,[(1000,1000000)]⟩]]
abbrev b45:List Bk:=[⟨0,⟨1,1,1⟩,false⟩,⟨1,⟨1,1,1⟩,true⟩]
theorem YT:ff WU 4=0/\ff WU 19=10/\DT WU=0/\LB WU 4=0/\LB WU 20=100:=⟨by kernel_rfl,by kernel_rfl,by kernel_rfl,by kernel_rfl,by kernel_rfl⟩
theorem AcL:Sq aa UO t45=0:=by kernel_rfl
theorem AcI:J0 UO t45=[kn,ZX,oC]:=by simp[J0];unfold rm;kernel_rfl
theorem AcK:cZ aa a45 yn=0:=by kernel_rfl
theorem AcH:HR aa a45 yn=b45:=by kernel_rfl
theorem AcJ:MN [oC,kn,ZX]=[kn,ZX,oC]:=by unfold MN;simp[K8,List.mergeSort,List.MergeSort.Internal.splitInTwo,List.splitAt,List.splitAt.go,List.merge];rw[Aj Cl];simp[List.merge];rw[Ap Cl,Aj Cl];kernel_rfl
theorem AcM:fN aa UO t45 [[oC],[kn,ZX]]=true:=by kernel_rfl
theorem mw:Pw aa UO t45 X5=0:=by
 have h:HH aa UO t45 (ZY X5)=0:=by
  unfold HH;rw[Ap AcL,Ap (show(ZY X5).all gZ=true by kernel_rfl),Ap (show MN (ZY X5).flatten=J0 UO t45 by rw[AcI];exact AcJ),Ap (show fN aa UO t45 (ZY X5)=true from AcM)]
 have k:(if 65536<X5.name.size then(7:Int)else KQ X5.waves)=0:=by kernel_rfl
 show(if HH aa UO t45 (ZY X5)=0 then(if 65536<X5.name.size then(7:Int)else KQ X5.waves)else HH aa UO t45 (ZY X5))=0;exact(Ap h).trans k
abbrev ik(p:ByteArray)(b:Int):List AV:=[vs p,vi 1,vi b,vi 0,nzA,vs mt,vs mt,vs mt,vb false]
abbrev pS:List AV:=[.slice .none [AC (cC kn 0 Aa0),AC (cC kn 1 Aa1),ik ZX 0,ik ZX 1,ik oC 0],nzA]
theorem T7:CX (.agg pS) (Iu aa []):=
 have h (p:ByteArray) (b:Int):KX (ik p b) (AC (cC p b [])):=⟨.refl _,.refl _,.refl _,.refl _,.nil,.refl _,.refl _,.refl _,.refl _,trivial⟩
 CX.agg ⟨CX.slice ⟨.refl _,.refl _,h ZX 0,h ZX 1,h oC 0,trivial⟩,.nil,trivial⟩
theorem Y0(p:ByteArray)(s:List (Int×Int))(hp:Gq p)(hs:B8 s):∀q∈[(⟨p,s⟩:Rq)],JH q:=Bj.2 ⟨⟨hs,hp⟩,Cn _⟩
theorem gn:PI aa:=
 have a:Gq kn:=by decide
 have b:Gq ZX:=by decide
 have c:Gq oC:=by decide
 ⟨show 5<=16 by decide,Bj.2 ⟨⟨a,Y0 _ _ b (show 1<=1073741824 by decide)⟩,Bj.2 ⟨⟨a,Bj.2 ⟨⟨show 1<=1073741824 by decide,b⟩,Y0 _ _ c (show 1<=1073741824 by decide)⟩⟩,Bj.2 ⟨⟨b,Cn _⟩,Bj.2 ⟨⟨b,Cn _⟩,Bj.2 ⟨⟨c,Cn _⟩,Cn _⟩⟩⟩⟩⟩⟩
theorem wo:∀r∈aa,r.reqs.length<=1000:=
 Bj.2 ⟨show 1<=1000 by decide,Bj.2 ⟨show 2<=1000 by decide,Bj.2 ⟨AB _,Bj.2 ⟨AB _,Bj.2 ⟨AB _,Cn _⟩⟩⟩⟩⟩
theorem ZE:Ui X5:=⟨show 2<=1000 by decide,Bj.2 ⟨show 2<=1073741824 by decide,Bj.2 ⟨show 2<=1073741824 by decide,Cn _⟩⟩,Bj.2 ⟨show 1<=1000 by decide,Bj.2 ⟨show 2<=1000 by decide,Cn _⟩⟩⟩
theorem qj:Ks a45:=⟨show 1<=1073741824 by decide,show 4<=1073741824 by decide,show 1<=1073741824 by decide,show 1<=1073741824 by decide,Bj.2 ⟨show 1<=1073741824 by decide,Cn _⟩,show 0<=1073741824 by decide⟩
theorem AcE:∀q∈yn,∀z∈q,JH z:=Bj.2 ⟨Y0 _ _ (show 4<=1073741824 by decide) (show 1<=1073741824 by decide),Bj.2 ⟨Y0 _ _ (show 4<=1073741824 by decide) (show 1<=1073741824 by decide),Cn _⟩⟩
theorem xY(u:ByteArray):iZ aa UO t45 X5 u 4=.tup [sl Aq UO,vi 0]/\iZ aa UO t45 X5 u 20=.tup [sl Aq t45,vi 0]:=by
 unfold iZ;rw[(fW u 4 mw).2.1,(fW u 20 mw).2.1,qq mw (Bj.2 ⟨by rw[YT.2.2.2.1];exact Bs _,Bj.2 ⟨by rw[YT.2.2.2.1];exact Bs _,Cn _⟩⟩),uq mw (show 2<=1073741824 by decide) (show 3<=1073741824 by decide) (Bj.2 ⟨by rw[YT.2.2.2.2];exact Bs _,Bj.2 ⟨by rw[YT.2.2.2.2];exact Bs _,Cn _⟩⟩)];exact Zr
theorem WW(m:Int):PC 45 [vi m] (.agg [vi 1,vi m,vi 0]):=by
 refine Ps Ej Tryz.func45 rfl (Nz rfl) (yN (yN ?_));exact .refl _
theorem sC(m:Int)(h0:0<=m)(h1:m<=1):PC 46 [vi m] (sl AE (ME m)):=by
 refine Ps Ej Tryz.func46 rfl (Nz rfl) (Yi (by show Bc ((1000:Int)*(m:Int));unfold Bc;omega) (Yi (by show Bc ((1000:Int)*(m:Int));unfold Bc;omega) (Yi (by show Bc ((1000*m:Int)+(1:Int));unfold Bc;omega) ?_)));exact .refl _
theorem ZN  : PC 10 [] (vb true):=by
 have hcl:=o46 [] Cl (Cn _);have Kz:=tJ WU 4 (show 2<=1073741824 by decide);have g11:=tJ WU 19 (show 2<=1073741824 by decide);rw[YT.1,YT.2.2.1]at Kz;rw[YT.2.1,YT.2.2.1]at g11;have c8:=(AaE aa [] UO t45 X5 ⟨#[109,101]⟩ 4 gn.few (show 2<=16 by decide) (show 3<=16 by decide) ZE (show 2<=10000000 by decide) (show 2<=100000000 by decide)).args (args':=[.agg pS,sl Aq UO,sl Aq t45,.agg (Jv X5),vs ⟨#[109,101]⟩,vi 4]) ⟨T7,.refl _,.refl _,.refl _,.refl _,.refl _,trivial⟩;rw[(xY _).1]at c8;have g21:=(AaE aa [] UO t45 X5 ⟨#[109,101]⟩ 20 gn.few (show 2<=16 by decide) (show 3<=16 by decide) ZE (show 2<=10000000 by decide) (show 2<=100000000 by decide)).args (args':=[.agg pS,sl Aq UO,sl Aq t45,.agg (Jv X5),vs ⟨#[109,101]⟩,vi 20]) ⟨T7,.refl _,.refl _,.refl _,.refl _,.refl _,trivial⟩;rw[(xY _).2]at g21;have XI:=(pz aa [] a45 yn gn wo qj (show 2<=1073741824 by decide) AcE hcl).args (args':=[.agg pS,.agg (BA a45),sl BF yn]) ⟨T7,.refl _,.refl _,trivial⟩;rw[AcH,AcK]at XI;have SM:=Wm WU (show 2<=1073741824 by decide);rw[YT.2.2.1]at SM;have mQ:=(iF aa [] UO t45 X5 gn.few (show 2<=16 by decide) (show 3<=16 by decide) ZE).args (args':=[.agg pS,sl Aq UO,sl Aq t45,.agg (Jv X5)]) ⟨T7,.refl _,.refl _,.refl _,trivial⟩;rw[mw]at mQ;have h25:=c27 UO UO (show 2<=1073741824 by decide);rw[Ak rfl]at h25;have g25:=c27 t45 t45 (show 3<=1073741824 by decide);rw[Ak rfl]at g25;have h33:=z33 b45 b45 (show 2<=1073741824 by decide);rw[Ak rfl]at h33;refine Ps (pC [3,7] [4,5,7,9,10,11,12]) Tryz.func10 rfl (Nz rfl) (Xi .pure (Xi _ (Yi (WW 0) (Xi .pure (Xi _ (Yi (sC 0 Cl Cl) (Xi .pure (Xi _ (Yi (WW 1) (Xi .pure (Xi _ (Yi (sC 1 Cl Cl) (Xi .pure (Xi _ (Yi (WW 0) (Xi .pure (Xi _ (Yi (WW 1) (Xi .pure (Xi _ (Yi (WW 0) (yN (cU [(1,.v (.func (.func 45) #[] #[])),(2,.v (.func (.func 46) #[] #[])),(3,.ref 3 0)] [(3,.ro [.slice .none [[vs ⟨#[97,47,118,49]⟩,vi 1,vi 0,vi 0,.slice .none [[vs ⟨#[98,47,118,49]⟩,sl AE (ME 0)]],vs ⟨#[]⟩,vs ⟨#[]⟩,vs ⟨#[]⟩,vb false],[vs ⟨#[97,47,118,49]⟩,vi 1,vi 1,vi 0,.slice .none [[vs ⟨#[98,47,118,49]⟩,sl AE (ME 1)],[vs ⟨#[99,47,118,49]⟩,.slice .none [[vi 0,vi 1000000]]]],vs ⟨#[]⟩,vs ⟨#[]⟩,vs ⟨#[]⟩,vb false],[vs ⟨#[98,47,118,49]⟩,vi 1,vi 0,vi 0,nzA,vs ⟨#[]⟩,vs ⟨#[]⟩,vs ⟨#[]⟩,vb false],[vs ⟨#[98,47,118,49]⟩,vi 1,vi 1,vi 0,nzA,vs ⟨#[]⟩,vs ⟨#[]⟩,vs ⟨#[]⟩,vb false],[vs ⟨#[99,47,118,49]⟩,vi 1,vi 0,vi 0,nzA,vs ⟨#[]⟩,vs ⟨#[]⟩,vs ⟨#[]⟩,vb false]],nzA])] Z3 Z1 (Xi .pure (Xi _ (Yi (WW 0) (Xi .pure (Xi _ (Yi (WW 0) (Xi .pure (Xi _ (Yi (WW 1) (Xi .pure (Xi _ (Yi (WW 1) (Xi .pure (Xi _ (Yi (WW 0) (cU [(2,.v (.func (.func 46) #[] #[])),(3,.ref 3 0),(4,.slice (.id 52 4) [[vs ⟨#[97,47,118,49]⟩,vi 1,vi 0,vi 0],[vs ⟨#[98,47,118,49]⟩,vi 1,vi 0,vi 0]]),(5,.slice (.id 62 4) [[vs ⟨#[97,47,118,49]⟩,vi 1,vi 1,vi 0],[vs ⟨#[98,47,118,49]⟩,vi 1,vi 1,vi 0],[vs ⟨#[99,47,118,49]⟩,vi 1,vi 0,vi 0]])] [(3,.ro [.slice .none [[vs ⟨#[97,47,118,49]⟩,vi 1,vi 0,vi 0,.slice .none [[vs ⟨#[98,47,118,49]⟩,sl AE (ME 0)]],vs ⟨#[]⟩,vs ⟨#[]⟩,vs ⟨#[]⟩,vb false],[vs ⟨#[97,47,118,49]⟩,vi 1,vi 1,vi 0,.slice .none [[vs ⟨#[98,47,118,49]⟩,sl AE (ME 1)],[vs ⟨#[99,47,118,49]⟩,.slice .none [[vi 0,vi 1000000]]]],vs ⟨#[]⟩,vs ⟨#[]⟩,vs ⟨#[]⟩,vb false],[vs ⟨#[98,47,118,49]⟩,vi 1,vi 0,vi 0,nzA,vs ⟨#[]⟩,vs ⟨#[]⟩,vs ⟨#[]⟩,vb false],[vs ⟨#[98,47,118,49]⟩,vi 1,vi 1,vi 0,nzA,vs ⟨#[]⟩,vs ⟨#[]⟩,vs ⟨#[]⟩,vb false],[vs ⟨#[99,47,118,49]⟩,vi 1,vi 0,vi 0,nzA,vs ⟨#[]⟩,vs ⟨#[]⟩,vs ⟨#[]⟩,vb false]],nzA]),(52,.tok 4 2),(62,.tok 4 3)] Z4 Z3 (yN (cU [(2,.v (.func (.func 46) #[] #[])),(3,.ref 3 0),(4,.slice (.id 52 4) [[vs ⟨#[97,47,118,49]⟩,vi 1,vi 0,vi 0],[vs ⟨#[98,47,118,49]⟩,vi 1,vi 0,vi 0]]),(5,.slice (.id 62 4) [[vs ⟨#[97,47,118,49]⟩,vi 1,vi 1,vi 0],[vs ⟨#[98,47,118,49]⟩,vi 1,vi 1,vi 0],[vs ⟨#[99,47,118,49]⟩,vi 1,vi 0,vi 0]]),(6,.slice (.id 65 2) [[vi 5,vi 10],[vi 20,vi 100]]),(7,.ref 7 0)] [(3,.ro [.slice .none [[vs ⟨#[97,47,118,49]⟩,vi 1,vi 0,vi 0,.slice .none [[vs ⟨#[98,47,118,49]⟩,sl AE (ME 0)]],vs ⟨#[]⟩,vs ⟨#[]⟩,vs ⟨#[]⟩,vb false],[vs ⟨#[97,47,118,49]⟩,vi 1,vi 1,vi 0,.slice .none [[vs ⟨#[98,47,118,49]⟩,sl AE (ME 1)],[vs ⟨#[99,47,118,49]⟩,.slice .none [[vi 0,vi 1000000]]]],vs ⟨#[]⟩,vs ⟨#[]⟩,vs ⟨#[]⟩,vb false],[vs ⟨#[98,47,118,49]⟩,vi 1,vi 0,vi 0,nzA,vs ⟨#[]⟩,vs ⟨#[]⟩,vs ⟨#[]⟩,vb false],[vs ⟨#[98,47,118,49]⟩,vi 1,vi 1,vi 0,nzA,vs ⟨#[]⟩,vs ⟨#[]⟩,vs ⟨#[]⟩,vb false],[vs ⟨#[99,47,118,49]⟩,vi 1,vi 0,vi 0,nzA,vs ⟨#[]⟩,vs ⟨#[]⟩,vs ⟨#[]⟩,vb false]],nzA]),(7,.ro [vs ⟨#[117,112]⟩,.slice .none [[.slice .none [[vs ⟨#[99,47,118,49]⟩]],.slice .none [[vi 5,vi 10],[vi 20,vi 100]]],[.slice .none [[vs ⟨#[97,47,118,49]⟩],[vs ⟨#[98,47,118,49]⟩]],.slice .none [[vi 5,vi 10],[vi 20,vi 100]]]]]),(52,.tok 4 2),(62,.tok 4 3),(65,.tok 2 2)] Z6 Z5 (Xi .pure (Xi _ (Yi Kz (Xi .pure (Xi _ (Yi g11 (cU [(2,.v (.func (.func 46) #[] #[])),(3,.ref 3 0),(4,.slice (.id 52 4) [[vs ⟨#[97,47,118,49]⟩,vi 1,vi 0,vi 0],[vs ⟨#[98,47,118,49]⟩,vi 1,vi 0,vi 0]]),(5,.slice (.id 62 4) [[vs ⟨#[97,47,118,49]⟩,vi 1,vi 1,vi 0],[vs ⟨#[98,47,118,49]⟩,vi 1,vi 1,vi 0],[vs ⟨#[99,47,118,49]⟩,vi 1,vi 0,vi 0]]),(6,.slice (.id 65 2) [[vi 5,vi 10],[vi 20,vi 100]]),(7,.ref 7 0),(8,vi 0),(9,vi 0),(10,vi 10),(11,vi 0)] [(3,.ro [.slice .none [[vs ⟨#[97,47,118,49]⟩,vi 1,vi 0,vi 0,.slice .none [[vs ⟨#[98,47,118,49]⟩,sl AE (ME 0)]],vs ⟨#[]⟩,vs ⟨#[]⟩,vs ⟨#[]⟩,vb false],[vs ⟨#[97,47,118,49]⟩,vi 1,vi 1,vi 0,.slice .none [[vs ⟨#[98,47,118,49]⟩,sl AE (ME 1)],[vs ⟨#[99,47,118,49]⟩,.slice .none [[vi 0,vi 1000000]]]],vs ⟨#[]⟩,vs ⟨#[]⟩,vs ⟨#[]⟩,vb false],[vs ⟨#[98,47,118,49]⟩,vi 1,vi 0,vi 0,nzA,vs ⟨#[]⟩,vs ⟨#[]⟩,vs ⟨#[]⟩,vb false],[vs ⟨#[98,47,118,49]⟩,vi 1,vi 1,vi 0,nzA,vs ⟨#[]⟩,vs ⟨#[]⟩,vs ⟨#[]⟩,vb false],[vs ⟨#[99,47,118,49]⟩,vi 1,vi 0,vi 0,nzA,vs ⟨#[]⟩,vs ⟨#[]⟩,vs ⟨#[]⟩,vb false]],nzA]),(7,.ro [vs ⟨#[117,112]⟩,.slice .none [[.slice .none [[vs ⟨#[99,47,118,49]⟩]],.slice .none [[vi 5,vi 10],[vi 20,vi 100]]],[.slice .none [[vs ⟨#[97,47,118,49]⟩],[vs ⟨#[98,47,118,49]⟩]],.slice .none [[vi 5,vi 10],[vi 20,vi 100]]]]]),(52,.tok 4 2),(62,.tok 4 3),(65,.tok 2 2)] Z10 Z5 (yN (yN (Xi .pure (Xi _ (Yi c8 (cU [(2,.v (.func (.func 46) #[] #[])),(3,.ref 3 0),(4,.slice (.id 52 4) [[vs ⟨#[97,47,118,49]⟩,vi 1,vi 0,vi 0],[vs ⟨#[98,47,118,49]⟩,vi 1,vi 0,vi 0]]),(5,.slice (.id 62 4) [[vs ⟨#[97,47,118,49]⟩,vi 1,vi 1,vi 0],[vs ⟨#[98,47,118,49]⟩,vi 1,vi 1,vi 0],[vs ⟨#[99,47,118,49]⟩,vi 1,vi 0,vi 0]]),(6,.slice (.id 65 2) [[vi 5,vi 10],[vi 20,vi 100]]),(7,.ref 7 0),(8,vi 0),(9,vi 0),(10,vi 10),(11,vi 0),(12,sl Aq UO),(13,vi 0)] [(3,.ro [.slice .none [[vs ⟨#[97,47,118,49]⟩,vi 1,vi 0,vi 0,.slice .none [[vs ⟨#[98,47,118,49]⟩,sl AE (ME 0)]],vs ⟨#[]⟩,vs ⟨#[]⟩,vs ⟨#[]⟩,vb false],[vs ⟨#[97,47,118,49]⟩,vi 1,vi 1,vi 0,.slice .none [[vs ⟨#[98,47,118,49]⟩,sl AE (ME 1)],[vs ⟨#[99,47,118,49]⟩,.slice .none [[vi 0,vi 1000000]]]],vs ⟨#[]⟩,vs ⟨#[]⟩,vs ⟨#[]⟩,vb false],[vs ⟨#[98,47,118,49]⟩,vi 1,vi 0,vi 0,nzA,vs ⟨#[]⟩,vs ⟨#[]⟩,vs ⟨#[]⟩,vb false],[vs ⟨#[98,47,118,49]⟩,vi 1,vi 1,vi 0,nzA,vs ⟨#[]⟩,vs ⟨#[]⟩,vs ⟨#[]⟩,vb false],[vs ⟨#[99,47,118,49]⟩,vi 1,vi 0,vi 0,nzA,vs ⟨#[]⟩,vs ⟨#[]⟩,vs ⟨#[]⟩,vb false]],nzA]),(7,.ro [vs ⟨#[117,112]⟩,.slice .none [[.slice .none [[vs ⟨#[99,47,118,49]⟩]],.slice .none [[vi 5,vi 10],[vi 20,vi 100]]],[.slice .none [[vs ⟨#[97,47,118,49]⟩],[vs ⟨#[98,47,118,49]⟩]],.slice .none [[vi 5,vi 10],[vi 20,vi 100]]]]]),(52,.tok 4 2),(62,.tok 4 3),(65,.tok 2 2)] Z12 Z5 (yN (yN ?_))))))))))))))))))))))))))))))))))))))))))))))))))))))));refine Xi .pure (Xi _ (Yi g21 (cU [(2,.v (.func (.func 46) #[] #[])),(3,.ref 3 0),(4,.slice (.id 52 4) [[vs ⟨#[97,47,118,49]⟩,vi 1,vi 0,vi 0],[vs ⟨#[98,47,118,49]⟩,vi 1,vi 0,vi 0]]),(5,.slice (.id 62 4) [[vs ⟨#[97,47,118,49]⟩,vi 1,vi 1,vi 0],[vs ⟨#[98,47,118,49]⟩,vi 1,vi 1,vi 0],[vs ⟨#[99,47,118,49]⟩,vi 1,vi 0,vi 0]]),(6,.slice (.id 65 2) [[vi 5,vi 10],[vi 20,vi 100]]),(7,.ref 7 0),(8,vi 0),(9,vi 0),(10,vi 10),(11,vi 0),(12,sl Aq UO),(13,vi 0),(14,sl Aq t45),(15,vi 0)] [(3,.ro [.slice .none [[vs ⟨#[97,47,118,49]⟩,vi 1,vi 0,vi 0,.slice .none [[vs ⟨#[98,47,118,49]⟩,sl AE (ME 0)]],vs ⟨#[]⟩,vs ⟨#[]⟩,vs ⟨#[]⟩,vb false],[vs ⟨#[97,47,118,49]⟩,vi 1,vi 1,vi 0,.slice .none [[vs ⟨#[98,47,118,49]⟩,sl AE (ME 1)],[vs ⟨#[99,47,118,49]⟩,.slice .none [[vi 0,vi 1000000]]]],vs ⟨#[]⟩,vs ⟨#[]⟩,vs ⟨#[]⟩,vb false],[vs ⟨#[98,47,118,49]⟩,vi 1,vi 0,vi 0,nzA,vs ⟨#[]⟩,vs ⟨#[]⟩,vs ⟨#[]⟩,vb false],[vs ⟨#[98,47,118,49]⟩,vi 1,vi 1,vi 0,nzA,vs ⟨#[]⟩,vs ⟨#[]⟩,vs ⟨#[]⟩,vb false],[vs ⟨#[99,47,118,49]⟩,vi 1,vi 0,vi 0,nzA,vs ⟨#[]⟩,vs ⟨#[]⟩,vs ⟨#[]⟩,vb false]],nzA]),(7,.ro [vs ⟨#[117,112]⟩,.slice .none [[.slice .none [[vs ⟨#[99,47,118,49]⟩]],.slice .none [[vi 5,vi 10],[vi 20,vi 100]]],[.slice .none [[vs ⟨#[97,47,118,49]⟩],[vs ⟨#[98,47,118,49]⟩]],.slice .none [[vi 5,vi 10],[vi 20,vi 100]]]]]),(52,.tok 4 2),(62,.tok 4 3),(65,.tok 2 2)] ⟨Zr,Zr,Zr,Zr,Zr,Zr,Zr,Zr,Zr,Zr,Zr,Zr,Zr,Zr,Tv⟩ Z5 (yN (Xi _ (Yi (sC 1 Cl Cl) (Xi _ (Yi (sC 1 Cl Cl) (Xi _ (Yi XI (Yi Wk (cU [(3,.ref 3 0),(4,.slice (.id 52 4) [[vs ⟨#[97,47,118,49]⟩,vi 1,vi 0,vi 0],[vs ⟨#[98,47,118,49]⟩,vi 1,vi 0,vi 0]]),(5,.slice (.id 62 4) [[vs ⟨#[97,47,118,49]⟩,vi 1,vi 1,vi 0],[vs ⟨#[98,47,118,49]⟩,vi 1,vi 1,vi 0],[vs ⟨#[99,47,118,49]⟩,vi 1,vi 0,vi 0]]),(6,.slice (.id 65 2) [[vi 5,vi 10],[vi 20,vi 100]]),(7,.ref 7 0),(8,vi 0),(9,vi 0),(10,vi 10),(11,vi 0),(12,sl Aq UO),(13,vi 0),(14,sl Aq t45),(15,vi 0),(16,sl Bu b45),(17,vi 0)] [(3,.ro [.slice .none [[vs ⟨#[97,47,118,49]⟩,vi 1,vi 0,vi 0,.slice .none [[vs ⟨#[98,47,118,49]⟩,sl AE (ME 0)]],vs ⟨#[]⟩,vs ⟨#[]⟩,vs ⟨#[]⟩,vb false],[vs ⟨#[97,47,118,49]⟩,vi 1,vi 1,vi 0,.slice .none [[vs ⟨#[98,47,118,49]⟩,sl AE (ME 1)],[vs ⟨#[99,47,118,49]⟩,.slice .none [[vi 0,vi 1000000]]]],vs ⟨#[]⟩,vs ⟨#[]⟩,vs ⟨#[]⟩,vb false],[vs ⟨#[98,47,118,49]⟩,vi 1,vi 0,vi 0,nzA,vs ⟨#[]⟩,vs ⟨#[]⟩,vs ⟨#[]⟩,vb false],[vs ⟨#[98,47,118,49]⟩,vi 1,vi 1,vi 0,nzA,vs ⟨#[]⟩,vs ⟨#[]⟩,vs ⟨#[]⟩,vb false],[vs ⟨#[99,47,118,49]⟩,vi 1,vi 0,vi 0,nzA,vs ⟨#[]⟩,vs ⟨#[]⟩,vs ⟨#[]⟩,vb false]],nzA]),(7,.ro [vs ⟨#[117,112]⟩,.slice .none [[.slice .none [[vs ⟨#[99,47,118,49]⟩]],.slice .none [[vi 5,vi 10],[vi 20,vi 100]]],[.slice .none [[vs ⟨#[97,47,118,49]⟩],[vs ⟨#[98,47,118,49]⟩]],.slice .none [[vi 5,vi 10],[vi 20,vi 100]]]]]),(52,.tok 4 2),(62,.tok 4 3),(65,.tok 2 2)] ⟨Zr,Zr,Zr,Zr,Zr,Zr,Zr,Zr,Zr,Zr,Zr,Zr,Zr,Zr,Zr,Tv⟩ Z5 (Xi .pure (Xi _ (Yi SM (Yi (fun _=>?_) (fun h=>absurd Cl h)))))))))))))))));refine yN (yN (Xi .pure (Xi _ (Yi mQ (Yi (fun _=>?_) (fun h=>absurd Cl h))))));refine Yi (fun _=>?_) (fun h=>absurd Cl h);refine Yi (fun _=>?_) (fun h=>absurd Cl h);refine Yi (fun _=>?_) (fun h=>absurd Cl h);refine Yi (fun _=>?_) (fun h=>absurd Cl h);refine Yi (fun _=>?_) (fun h=>absurd Cl h);refine Xi .pure (Xi _ (Yi h25 (Yi (fun _=>?_) (fun h=>absurd Cl h))));refine Xi .pure (Xi _ (Yi g25 (Yi (fun _=>?_) (fun h=>absurd Cl h))));refine Xi .pure (Xi _ (Yi h33 ?_));exact .refl _
structure AbP(l m:List Sl)(r:Ro)(user:ByteArray):Prop where
 l:l.length<=1048576
 m:m.length<=1048576
 wv:r.waves.length<=1048576
 st:∀v∈r.waves,v.stages.length<=1048576
 pt:∀v∈r.waves,v.paths.length<=1048576
 name:r.name.size<=1048576
 user:user.size<=1048576
end Go.Eng
