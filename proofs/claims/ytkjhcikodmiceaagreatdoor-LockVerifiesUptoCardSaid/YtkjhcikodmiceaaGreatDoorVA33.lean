/- Lemmas 33. -/
import Derived.Test.YtkjhcikodmiceaaGreatDoorVA32
import Derived.Lib.IndexMore
import Derived.Shelf.Slices.Delete
set_option maxHeartbeats 4000000
namespace Go.Eng
open Go.Proofs Go.Proofs.Tryz
variable {i:Nat}(l:List Sl)(p:CS)(m:List Sl)
structure Mv where
 path:CS
 a:Int
 b:Int
abbrev Gu(m:Mv):List AV:=[vs m.path,vi m.a,vi m.b]
abbrev plP(s:Sl):Value×AV:=(.string s.path,vi (place s.ver))
abbrev K6:List (Value×AV):=l.map plP
def SZ:Int:=match AF l p with | some s=>place s.ver | none=>-1
def Yg(p:CS):Option Mv:=if SZ l p≠SZ m p then some ⟨p,SZ l p,SZ m p⟩else none
abbrev OD(ps:List CS):List Mv:=ps.filterMap (Yg l m)
structure Ml(l:List Sl):Prop where
 few:BO l
 val:∀s∈l,By s.ver=true
 inc:l.Pairwise ltP
theorem Ml.step{l:List Sl}(h:Ml l)(hi:i<l.length)(h0:0<i):Ez (l[i-1]' Wk).path l[i].path=true:=(Cs.1 h.inc) (i-1) i Wk hi Wk
theorem vu{l:List Sl}(h:Ml l)(hi:i<l.length):∀b,(Value.string l[i].path,b)∉K6 (l.take i):=fun b hb=>by
 obtain⟨s,hs,e⟩:=Ar.1 hb;obtain⟨j,hj,rfl⟩:=Dn.1 hs;rw[List.getElem_take]at e;rw[BW]at hj;have q:=(Cs.1 h.inc) j i Wk hi Wk
 grind [Dg]
theorem vv{l:List Sl}(h:Ml l){p:CS}{a:AV}(ha:(Value.string p,a)∈K6 l):a=vi (SZ l p):=by
 grind [SZ,Oh,iY,ocP,Ml.inc]
theorem vw{l:List Sl}{p:CS}(h:∀a,(Value.string p,a)∉K6 l):SZ l p=-1:=by
 unfold SZ;rw[show AF l p=none from List.find?_eq_none.2 fun s hs e=>h _ (Ar.2 ⟨s,hs,by rw[<-CA e]⟩)]
theorem fJ{l m:List Sl}{ps:List CS}{k:Nat}(h:k<ps.length):OD l m (ps.take (k+1))=OD l m (ps.take k)++(Yg l m ps[k]).toList:=by
 grind [NF]
theorem zl(hl:Ml l):Bg Tryz.prog 75 [sl Ae l] (Ai [] Af) fun r h'=>r=.tup [.mref 2000,vb true]/\h'=Ai [(2000,.map Cc (K6 l))] Af:=by
 have hfl:l.length<=1073741824:=hl.few;refine Bj (I9 CX) [(9,2000)] rfl BI hm rfl func75 aa2 rfl (Nz rfl) aa2 rfl (Xi {q:Nat // q<=l.length} (Xi (fun q=>⟨[(0,sl Ae l),(4,.mref 9),(10,sl Ae l),(11,vi (l.map Ae).length),(12,vi q.1)],[(9,.map Cc (K6 (l.take q.1)))],Af⟩) (Xi (fun q=>l.length-q.1) (Yi (Xi ⟨0,Al _⟩ ?_) ?_))))
 .exact⟨Z5,Z1,Fh,Bn aa2⟩
 intro⟨i,i1⟩;refine Yi (fun h1=>?_) (fun h1=>?_)
 .have h1:(i:Int)<((l.map Ae).length:Int):=h1;have n1:=Ha h1;refine Xi (Ae l[i]) (Yi (I0 n1) (Yi rfl (yN (yN (yN (C1 (C2 (by have q:=tX l[i].ver;rw[A3 (hl.val _ (Ah n1)),A3 (hl.val _ (Ah n1))]at q;exact q) ?_)))))));refine Yi (fun h=>absurd h aa1) (fun _=>?_);refine Yi (fun h2=>?_) (fun h2=>?_)
  .have h2:(0:Int)<(i:Int):=h2;refine Yi (by grind [Au]) ?_;have hi0:0<i:=by omega
   refine Xi (Ae (l[i-1])) (Yi (Yi (show(0:Int)<=(i:Int)-1 by omega) (by rw[show((i:Int)-1).toNat=i-1 by omega];grind)) (Yi rfl ?_));refine Yi (fun h3=>?_) (fun h3=>?_)
   .have h3:Ez (l[i-1]).path l[i].path=false:=(D1 _ _).trans h3;exact absurd (hl.step n1 hi0) (by simp_all)
   refine Yi aa2 (Yi (by grind [Au]) (Xi ⟨i+1,n1⟩ ?_));exact⟨by grind,Z5,⟨⟨(show HO.map Cc (E7 (K6 (l.take i)) (.string l[i].path) (vi (place l[i].ver)))=.map Cc (K6 (l.take (i+1))) by grind [KQ,vu,NF]),rfl⟩,Tv⟩,Fh,Bn aa2⟩
  refine Yi aa2 (Yi (by grind [Au]) (Xi ⟨i+1,n1⟩ ?_));exact⟨by grind,Z5,⟨⟨(show HO.map Cc (E7 (K6 (l.take i)) (.string l[i].path) (vi (place l[i].ver)))=.map Cc (K6 (l.take (i+1))) by grind [KQ,NF]),rfl⟩,Tv⟩,Fh,Bn aa2⟩
 have h1:¬((i:Int)<((l.map Ae).length:Int)):=h1;have n1:=Et h1;have ei:l.take i=l:=A5 Wk;exact C2 (.refl _) ⟨rfl,show Ai [(2000,HO.map Cc (K6 (l.take i)))] Af=Ai [(2000,.map Cc (K6 l))] Af by rw[ei]⟩
theorem zm(hl:Ml l):PC 78 [.cmap Cc (K6 l),vs p] (vi (SZ l p)):=by
 refine Ps CX func78 rfl (Nz rfl) (Yi (fun a ha=>?_) (fun PK=>?_))
 .have ea:=vv hl ha;subst ea;exact .refl _
 exact .of_eq (show vi (-1)=vi (SZ l p) by rw[vw PK])
theorem o75(t:List CS)(hl:Ml l)(hm2:Ml m)(hfs:l.length+m.length<=1073741824)(EG:l++m≠[])(hp:t.Perm ((l++m).map (·.path)))(ht:(t.map d6).Pairwise fun a b=>a<=b):PC 34 [sl Ae l,sl Ae m] (.tup [sl Gu (OD l m (Ch t)),vi 0]):=by
 obtain⟨LM,hLM⟩:∃LM,LM=l++m:=⟨_,rfl⟩;have hm:=hm2;rw[<-hLM]at hp;have hLl:LM.length=l.length+m.length:=by simp_all
 refine E9 (ct ⟨[],[(14,3)],[(10,1)],[(34,[12000,12500])],[],[],[],[],[],[],[6,7,8,9,11,13,14,15,16,17,18,19,21]⟩) rfl BI Go.Eng.hm rfl func34 aa2 rfl (Nz rfl) aa2 (Xi (.gen [] 1) (Yi rfl (Bg.to2 (zl l hl) ?_)));refine Xi (.gen [] 1) (Yi rfl (Bg.to2 (zl m hm) ?_));refine cU [(0,sl Ae l),(1,sl Ae m),(6,.mref 12000),(8,.mref 12500),(10,.msl 10 0)] [(10,.arr 1 []),(12000,.map Cc (K6 l)),(12500,.map Cc (K6 m))] Z5 Z3 (Xi (.gen [] 1) (Yi rfl (Bg.to2 (tW l hl.few) ?_)));have b4:Bh 4 (m.map Ae)/\(l.map Ae).length=(l.map Ae).length/\((l.map Ae).length+(m.map Ae).length)*40<=140737488355328/\(l.map Ae).length+(m.map Ae).length<=9223372036854775807:=⟨(Cm (enc:=Ae) (n:=4) (fun _=>rfl) m),rfl,(by grind),(by grind)⟩;refine Yi b4 (Xi {q:Nat×List CS // q.1<=LM.length/\q.2=(LM.take q.1).map (·.path)} (Xi (fun q=>⟨[(6,.mref 12000),(8,.mref 12500),(10,.msl 10 q.1.2.length),(37,.slice (.id 13500 4) (LM.map Ae)),(38,vi (LM.length:Nat)),(39,vi q.1.1)],[(10,.arr 1 (q.1.2.map Di)),(12000,.rom Cc (K6 l)),(12500,.rom Cc (K6 m)),(13500,.tok 4 LM.length)],Af⟩) (Xi (fun q=>LM.length-q.1.1) (Yi (Xi ⟨(0,[]),Al _,rfl⟩ ?_) ?_))))
 .exact⟨⟨Zr,Zr,Zr,⟨(show AV.slice (.id 13500 4) (l.map Ae++m.map Ae)=.slice (.id 13500 4) (LM.map Ae) by simp_all),rfl⟩,⟨(show vi ((l.map Ae++m.map Ae:C0).length:Int)=vi ((LM.length:Nat):Int) by simp_all),rfl⟩,Zr,Tv⟩,⟨Zr,Zr,Zr,⟨(show HO.tok 4 ((l.map Ae).length+(m.map Ae).length)=.tok 4 LM.length by simp_all),rfl⟩,Tv⟩,Fh,Tv⟩
 intro⟨⟨i,P⟩,i1,i2⟩;have i2:P=(LM.take i).map (·.path):=i2;have i3:P.length<=i:=by simp_all
 refine cU [(6,.mref 12000),(8,.mref 12500),(10,.msl 10 P.length),(37,.slice (.id 13500 4) (LM.map Ae)),(38,vi (LM.length:Nat)),(39,vi i)] [(10,.arr 1 (P.map Di)),(12000,.rom Cc (K6 l)),(12500,.rom Cc (K6 m)),(13500,.tok 4 LM.length)] Z6 Z4 (Yi (fun h5=>?_) (fun h5=>?_))
 .have n5:i<LM.length:=by omega
  refine cU [(6,.mref 12000),(8,.mref 12500),(10,.msl 10 P.length),(37,.slice (.id 13500 4) (LM.map Ae)),(38,vi (LM.length:Nat)),(39,vi i)] [(10,.arr 1 (P.map Di)),(12000,.rom Cc (K6 l)),(12500,.rom Cc (K6 m)),(13500,.tok 4 LM.length)] Z6 Z4 (Xi (Ae LM[i]) (Yi (I0 n5) (Yi rfl (yN (yN (cU [(6,.mref 12000),(8,.mref 12500),(10,.msl 10 P.length),(12,.ref 12 0),(37,.slice (.id 13500 4) (LM.map Ae)),(38,vi (LM.length:Nat)),(39,vi i)] [(10,.arr 1 (P.map Di)),(12,.cells (Ae LM[i])),(12000,.rom Cc (K6 l)),(12500,.rom Cc (K6 m)),(13500,.tok 4 LM.length)] Z7 Z5 ?_))))))
  have b6:Bh 1 [[vs LM[i].path]]/\(P.map Di).length=P.length/\((P.map Di).length+([[vs LM[i].path]]:C0).length)*16<=140737488355328/\(P.map Di).length+([[vs LM[i].path]]:C0).length<=9223372036854775807:=⟨⟨rfl,trivial⟩,(by simp_all),(by grind),(by grind)⟩;refine Yi b6 (Yi (by grind [Au]) (Xi ⟨(i+1,P++[LM[i].path]),n5,by show P++[LM[i].path]=_;rw[NF n5,Bk,i2];rfl⟩ ?_));exact⟨Dl LM.length i Wk,⟨Zr,Zr,⟨(show AV.msl 10 ((P.map Di).length+([[vs LM[i].path]]:C0).length)=.msl 10 (P++[LM[i].path]).length by simp_all),rfl⟩,Zr,Zr,Zr,Tv⟩,⟨⟨(show HO.arr 1 (P.map Di++[[vs LM[i].path]])=.arr 1 ((P++[LM[i].path]).map Di) by simp_all),rfl⟩,Zr,Zr,Zr,Tv⟩,Fh,Tv⟩
 have hPe:P=LM.map (·.path):=by grind
 have hPf:BO P:=by omega
 have hPn:P≠[]:=fun e=>by grind
 have hPt:t.length=P.length:=by rw[hPe];exact hp.length_eq
 have wB:t.length<=1073741824:=by omega
 have htn:t≠[]:=fun e=>hPn (Ay (by simp_all));have hcl:(Ch t).length<=t.length:=by unfold Ch;rw[Lm];exact AS (RK _) (by grind)
 refine cU [(6,.mref 12000),(8,.mref 12500),(10,.msl 10 P.length)] [(10,.arr 1 (P.map Di)),(12000,.rom Cc (K6 l)),(12500,.rom Cc (K6 m))] Z3 Z3 (Xi (.gen [(10,1000)] 0) (Yi rfl (Bg.to2 (AdM P t hPf hPn (by grind) ht) ?_)));refine cU [(6,.mref 12000),(8,.mref 12500),(10,.msl 10 P.length),(13,.v (.func (.func 78) #[] #[]))] [(10,.arr 1 (t.map Di)),(12000,.rom Cc (K6 l)),(12500,.rom Cc (K6 m))] Z4 Z3 (cU [(6,.mref 12000),(8,.mref 12500),(10,.msl 10 t.length),(13,.v (.func (.func 78) #[] #[])),(14,.slice (.id 14 3) [])] [(10,.arr 1 (t.map Di)),(14,.tok 3 0),(12000,.rom Cc (K6 l)),(12500,.rom Cc (K6 m))] ⟨Zr,Zr,⟨(Aa (AV.msl 10) hPt.symm),rfl⟩,Zr,Zr,Tv⟩ Z4 (Xi (.gen [(10,1000)] 1) (Yi rfl (Bg.to2 (AdN t Wk htn) ?_))));refine Xi {q:Nat×List Mv // q.1<=(Ch t).length/\q.2=OD l m ((Ch t).take q.1)} (Xi (fun q=>⟨[(6,.mref 12000),(8,.mref 12500),(13,.v (.func (.func 78) #[] #[])),(14,.slice (.id 14 3) (q.1.2.map Gu)),(52,.msl 15200 (Ch t).length),(53,vi (Ch t).length),(54,vi q.1.1)],[(14,.tok 3 q.1.2.length),(12000,.rom Cc (K6 l)),(12500,.rom Cc (K6 m)),(15200,.arr 1 ((Ch t).map Di))],Af⟩) (Xi (fun q=>(Ch t).length-q.1.1) (Yi (Xi ⟨(0,[]),Al _,rfl⟩ ?_) ?_)))
 .exact⟨Z7,Z4,Fh,Tv⟩
 intro⟨⟨k,O⟩,k1,k2⟩;have k2:O=OD l m ((Ch t).take k):=k2;have k3:O.length<=k:=by grind
 refine cU [(6,.mref 12000),(8,.mref 12500),(13,.v (.func (.func 78) #[] #[])),(14,.slice (.id 14 3) (O.map Gu)),(52,.msl 15200 (Ch t).length),(53,vi (Ch t).length),(54,vi k)] [(14,.tok 3 O.length),(12000,.rom Cc (K6 l)),(12500,.rom Cc (K6 m)),(15200,.arr 1 ((Ch t).map Di))] Z7 Z4 (Yi (fun HQ=>?_) (fun HQ=>?_))
 .have nb:k<(Ch t).length:=by omega
  have n10:=nb;have gb:(Ch t)[k]?=some (Ch t)[k]:=Ge nb;refine cU [(6,.mref 12000),(8,.mref 12500),(13,.v (.func (.func 78) #[] #[])),(14,.slice (.id 14 3) (O.map Gu)),(52,.msl 15200 (Ch t).length),(53,vi (Ch t).length),(54,vi k)] [(14,.tok 3 O.length),(12000,.rom Cc (K6 l)),(12500,.rom Cc (K6 m)),(15200,.arr 1 ((Ch t).map Di))] Z7 Z4 (Yi Wk (Yi (show(Ch t).length=((Ch t).map Di).length by grind) (Xi (Di ((Ch t)[k])) (Yi (Bq gb) (cU [(6,.mref 12000),(8,.mref 12500),(13,.v (.func (.func 78) #[] #[])),(14,.slice (.id 14 3) (O.map Gu)),(16,vs ((Ch t)[k])),(52,.msl 15200 (Ch t).length),(53,vi (Ch t).length),(54,vi k)] [(14,.tok 3 O.length),(12000,.rom Cc (K6 l)),(12500,.rom Cc (K6 m)),(15200,.arr 1 ((Ch t).map Di))] Z8 Z4 (C1 (C2 (zm l (Ch t)[k] hl) (C1 (C2 (zm m (Ch t)[k] hm) (yN (cU [(6,.mref 12000),(8,.mref 12500),(13,.v (.func (.func 78) #[] #[])),(14,.slice (.id 14 3) (O.map Gu)),(17,.ref 17 0),(52,.msl 15200 (Ch t).length),(53,vi (Ch t).length),(54,vi k)] [(14,.tok 3 O.length),(17,.cells [vs ((Ch t)[k]),vi (SZ l (Ch t)[k]),vi (SZ m (Ch t)[k])]),(12000,.rom Cc (K6 l)),(12500,.rom Cc (K6 m)),(15200,.arr 1 ((Ch t).map Di))] Z8 Z5 (Yi (fun F2=>?_) (fun F2=>?_)))))))))))))
  .refine cU [(6,.mref 12000),(8,.mref 12500),(13,.v (.func (.func 78) #[] #[])),(14,.slice (.id 14 3) (O.map Gu)),(17,.ref 17 0),(52,.msl 15200 (Ch t).length),(53,vi (Ch t).length),(54,vi k)] [(14,.tok 3 O.length),(17,.cells [vs ((Ch t)[k]),vi (SZ l (Ch t)[k]),vi (SZ m (Ch t)[k])]),(12000,.rom Cc (K6 l)),(12500,.rom Cc (K6 m)),(15200,.arr 1 ((Ch t).map Di))] Z8 Z5 (yN (Yi (YG rfl Wk aa1) (Yi (Ii k Wk) ?_)));have eO:=fJ (l:=l) (m:=m) n10;have eM:Yg l m (Ch t)[k]=some ⟨(Ch t)[k],(SZ l (Ch t)[k]),(SZ m (Ch t)[k])⟩:=A3 F2;rw[eM]at eO;refine Xi ⟨(k+1,(O++[(⟨(Ch t)[k],(SZ l (Ch t)[k]),(SZ m (Ch t)[k])⟩:Mv)])),n10,by grind⟩ ?_;exact⟨by show(Ch t).length-(k+1)<(Ch t).length-k;omega,⟨Zr,Zr,Zr,⟨(show AV.slice (.id 14 3) (O.map Gu++[[vs (Ch t)[k],vi (SZ l (Ch t)[k]),vi (SZ m (Ch t)[k])]])=.slice (.id 14 3) ((O++[(⟨(Ch t)[k],(SZ l (Ch t)[k]),(SZ m (Ch t)[k])⟩:Mv)]).map Gu) by grind),rfl⟩,Zr,Zr,Zr,Tv⟩,⟨⟨hkA,rfl⟩,Zr,Zr,Zr,Tv⟩,Fh,Tv⟩
  have F2:((SZ l (Ch t)[k]):Int)=((SZ m (Ch t)[k]):Int):=Aw F2;refine Yi (Ii k Wk) ?_;have eO:=fJ (l:=l) (m:=m) n10;have eM:Yg l m (Ch t)[k]=none:=AN (fun c=>c F2);rw[eM]at eO;rw[show(none:Option Mv).toList=[]from rfl,Eg]at eO;refine Xi ⟨(k+1,O),n10,by grind⟩ ?_;exact⟨by grind,Z7,Z4,Fh,Tv⟩
 refine cU [(14,.slice (.id 14 3) (O.map Gu))] [(14,.tok 3 O.length)] Z1 Z1 ?_
 have ek:(Ch t).take k=Ch t:=A5 Wk;have eO:O=OD l m (Ch t):=by grind
 exact .of_eq (Aa (fun z=>AV.tup [sl Gu z,vi 0]) eO)
instance:DecidableEq Mv:=fun x y=>decidable_of_iff (x.path=y.path/\x.a=y.a/\x.b=y.b) ⟨fun⟨h1,h2,h3⟩=>by cases x;cases y;simp_all,fun h=>by subst h;exact⟨rfl,rfl,rfl⟩⟩
theorem zi{a b:Mv}(h:a.path=b.path/\a.a=b.a/\a.b=b.b/\True):a=b:=by cases a;cases b;simp_all
theorem zj{a b:Mv}(h:¬(a.path=b.path/\a.a=b.a/\a.b=b.b/\True)):a≠b:=fun e=>h (by subst e;exact⟨rfl,rfl,rfl,trivial⟩)
theorem o35(a b:List Mv)(ha:BO a):PC 35 [sl Gu a,sl Gu b] (vb (decide (a=b))):=by
 have xY:a.length<=1073741824:=ha;refine Ps CX func35 rfl (Nz rfl) (Yi (fun h1=>?_) (fun h1=>?_))
 .exact .of_eq (show vb false=vb (decide (a=b)) by rw[Aq (fun e=>absurd (Aa (fun z=>((z.map Gu).length:Int)) e) h1)])
 have h1:((a.map Gu).length:Int)=((b.map Gu).length:Int):=Aw h1;have hl:a.length=b.length:=by have q:=h1;rw[Lm,Lm]at q;omega
 refine Xi {q:Nat // q<=a.length/\∀j (hj:j<a.length),j<q->a[j]=b[j]'(hl▸hj)} (Xi (fun q=>⟨[(0,sl Gu a),(1,sl Gu b),(12,vi (a.map Gu).length),(13,vi q.1)],[],Af⟩) (Xi (fun q=>a.length-q.1) (Yi (Xi ⟨0,Al _,fun _ _ h=>absurd h (Cf _)⟩ ?_) ?_)))
 .exact⟨Z4,Tv,Fh,Tv⟩
 intro⟨i,i1,i2⟩;refine Yi (fun h3=>?_) (fun h3=>?_)
 .have h3:(i:Int)<((a.map Gu).length:Int):=h3;have n3:=Ha h3;have wu:i<b.length:=by have q:=h3;rw[Lm]at q;omega
  refine Xi (Gu a[i]) (Yi (I0 n3) (Yi rfl (yN (Xi (Gu b[i]) (Yi (I0 wu) (Yi rfl (yN (Yi (fun h4=>?_) (fun h4=>?_)))))))))
  .refine Yi aa2 (Yi (Ii i Wk) ?_);refine Xi ⟨i+1,n3,fun j hj GC=>if e:j<i then i2 j hj e else by
     have e:j=i:=by omega
     subst e;exact zi h4⟩ ?_
   exact⟨Dl a.length i Wk,Z4,Tv,Fh,Tv⟩
  refine Yi aa2 ?_;exact .of_eq (show vb false=vb (decide (a=b)) by rw[Aq (wR (i:=i) (ha:=n3) (hb:=wu) (zj h4))])
 have h3:¬((i:Int)<((a.map Gu).length:Int)):=h3;have n3:=Et h3;exact .of_eq (show vb true=vb (decide (a=b)) by rw[Av (qM hl fun j hj=>i2 j hj (by have q:=h3;rw[Lm]at q;omega))])
abbrev pa:CS:=⟨#[97,47,118,49]⟩
abbrev pb:CS:=⟨#[98,47,118,49]⟩
abbrev rU(m:Int):Ver:=⟨1,m,0⟩
abbrev jK(m:Int)(q:List Rq)(y:Bool):Rl:=⟨p,rU m,q,mt,mt,mt,y⟩
abbrev q40:List Rq:=[⟨pb,[(1000,1000000)]⟩]
abbrev Qu:List Rl:=[jK pa 0 q40 false,jK pb 0 [] false,jK pb 1 [] false,jK pb 2 [] true]
abbrev Qk:List Rq:=[⟨pa,[(0,1000000)]⟩]
abbrev a40:List Sl:=[⟨pa,rU 0⟩,⟨pb,rU 1⟩]
theorem xG:∀r∈Qu,Fk r:=
 Bv.2 ⟨⟨by decide,by decide⟩,Bv.2 ⟨⟨by decide,by decide⟩,Bv.2 ⟨⟨by decide,by decide⟩,Bv.2 ⟨⟨by decide,by decide⟩,CM _⟩⟩⟩⟩
abbrev m8:AV:=nzA
abbrev fZ(b:Int)(y:Bool):List AV:=[vs p,vi 1,vi b,vi 0,m8,vs mt,vs mt,vs mt,vb y]
abbrev vS:List AV:=[.slice .none [Am (jK pa 0 q40 false),fZ pb 0 false,fZ pb 1 false,fZ pb 2 true],m8]
theorem gu:Cj (.agg vS) (Jf Qu []):=
 have h (p:CS) (b:Int) (y:Bool):Ma (fZ p b y) (Am (jK p b [] y)):=⟨.refl _,.refl _,.refl _,.refl _,.nil,.refl _,.refl _,.refl _,.refl _,trivial⟩
 Cj.agg ⟨Cj.slice ⟨.refl _,h pb 0 false,h pb 1 false,h pb 2 true,trivial⟩,.nil,trivial⟩
theorem rH(m:Int)(h:m=1\/m=2):Ml [⟨pa,rU 0⟩,⟨pb,rU m⟩]:=by
 rcases h with rfl | rfl
 .exact⟨by decide,Bv.2 ⟨by decide,Bv.2 ⟨by decide,CM _⟩⟩,.cons (Bv.2 ⟨by show Ez pa pb=true;kernel_rfl,CM _⟩) (.cons (CM _) .nil)⟩
 .exact⟨by decide,Bv.2 ⟨by decide,Bv.2 ⟨by decide,CM _⟩⟩,.cons (Bv.2 ⟨by show Ez pa pb=true;kernel_rfl,CM _⟩) (.cons (CM _) .nil)⟩
end Go.Eng
namespace Go.Eng
/-! The empty workspace, and a workspace twice. -/
/-! What is merged. -/
/-! What a workspace makes of an index. -/
/-! What the solver selects. -/
/-! Releases whose names satisfy p get Yanked. -/
end Go.Eng
namespace Go.Eng
open Go.Proofs
theorem ve{x:List Rl}{roots:List Rq}(hx:x.length<=16)(h:dJ x roots=0):LN x roots=0/\rF x roots=(EE x roots).sel/\(∀y∈(EE x roots).sel,(AY x y).isSome=true)/\(EE x roots).sel.length<=16:=by
 have hv:FR x roots=true:=by
  cases e:FR x roots with
  |true=>rfl
  |false=>
   have q:LN x roots=1:=by unfold LN;rw[AN (by rw[e];exact Bool.false_ne_true)]
   unfold dJ at h;rw[q,A3 aa1]at h;cases h
 obtain⟨h0,hr⟩:=bx hv;have hA:=jR hv hx;have hf:(EE x roots).found=true:=by
  unfold dJ at h;split at h
  .rename_i c;exact absurd h c
  .split at h
   .assumption
   .cases h
 have hc:=bS h0 hr (OQ (roots:=roots) hx);rw[<-hA]at hc;obtain⟨_,c1 | ⟨_,⟨l,hR⟩,_,_⟩⟩:=gW hc
 .rw[hf]at c1;exact absurd c1.1 aa1
 have Ug:=F5 hR.sol0.sel;have hI:Vx (EE x roots).sel:=(Iq hR.sol0.inc).1;have hn:(EE x roots).sel.Nodup:=hI.imp fun {a b} h e=>by subst e;rw[Dg]at h;cases h
 refine⟨bq hv hx,by unfold rF;rw[A3 h],fun y hy=>by obtain⟨r,_,e⟩:=Ug.2.2 y hy;rw[e];rfl,AS (CB (m:=x.map Cp) hn fun y hy=>?_) (by rw[Lm];exact hx)⟩;obtain⟨r,_,e⟩:=Ug.2.2 y hy;exact Ar.2 ⟨r,(Cv e).2.1,(Cv e).2.2⟩
end Go.Eng
namespace Go.Proofs
open Go.Proofs.Tryz
open Go.Shelf Go.RowKit Go.Lib Go.Sort Go.Eng
theorem new_heap(W:World)(o:Obj):(W.alloc o).heap[W.heap.size]? = some o := by
 show(W.heap.push o)[W.heap.size]? = _
 simp
set_option maxRecDepth 100000 in
theorem ye_unsigned(W:World):Calls Tryz.prog 439 #[.int .u64 0] W fun e w' => e = .returned (.string ⟨#[0]⟩) /\ Below W.heap.size W w' := by
 have hcv := fun c w hc => run_convert_bytes_back (P := Tryz.prog) w 296 9 5 ⟨W.heap.size + 1,0,none⟩ c [0] underlying296 underlying5 underlying9 hc
 go_enter func439,ntmps439
 go_wp2
 go_loop [0,3] (fun i s => i = Value.int .u64 0 /\ s = Value.slice none 0 0) (fun _ _ => 0)
 case atStart => exact⟨rfl,rfl⟩
 case round=>
  obtain⟨rfl,rfl⟩ := hrel
  go_wp2
  generalize (Question.appendCap 1 0 5).cut (W.tape W.drawn (Question.appendCap 1 0 5)) = c
  have q := hcv c ((W.alloc (.cells #[.int .u8 0] 5)).alloc (.cells (#[.int .u8 0] ++ Builtin.zeroCells #[.int .u8 0] (c-1)) 5)).drew (fun j hj => by
   have hj:j<1 := hj
   obtain rfl:j = 0 := by omega
   rw[show(⟨W.heap.size + 1,0,none⟩:Addr).add 0 = ⟨W.heap.size + 1,0,none⟩from rfl,Lib.cell_of_heap (cs := #[.int .u8 0] ++ Builtin.zeroCells #[.int .u8 0] (c-1)) (T := 5) (fr := (0,0)) (show((W.heap.push _).push _)[W.heap.size + 1]? = _ by rw[Array.getElem?_push,if_pos aa0])]
   rw[Array.getElem?_append_left aa1];rfl)
  rw[show([0]:List UInt8).length = 1 from rfl]at q
  rw[q]
  go_wp2
  go_ret
  refine⟨rfl,?_⟩
  exact(((Below.refl _ W).alloc (Nat.le_refl _) _).alloc aa0 _).drew
theorem ye_uint(W:World):Calls Tryz.prog 437 #[.int .i64 0] W fun e w' => e = .returned (.tuple #[.string ⟨#[0]⟩,.int .i64 0]) /\ Below W.heap.size W w' := by
 go_enter func437,ntmps437
 go_wp2_with (go_at_call 439;refine(ye_unsigned _).mono ?_;rintro e w' ⟨rfl,hb⟩)
 go_ret2
 exact⟨rfl,hb⟩
structure WrB(B:Nat)(A:Nat)(w w' : World):Prop where
 os:w'.os = w.os
 tape:w'.tape = w.tape
 output:w'.output = w.output
 size:w.heap.size <= w'.heap.size
 block:∀k,k<B -> k ≠ A -> w'.heap[k]? = w.heap[k]?
theorem WrB.alloc{A:Nat}{w w' : World}{o:Obj}(h:WrB (w.alloc o).heap.size A (w.alloc o) w'):WrB w.heap.size A w w':=
 have e:(w.alloc o).heap.size = w.heap.size + 1 := by simp
 ⟨h.os,h.tape,h.output,by have := h.size;omega,fun k hk hn => (h.block k Wk hn).trans (Below.heap_alloc _ _ _ hk)⟩
abbrev wrO(s:ByteArray):Obj := .cells #[.string s] 121 (0,0)
theorem ye_number(A:Nat)(p:Addr)(s:ByteArray)(hs:s.size <= 1000)(W:World)(hA:W.heap[A]? = some (wrO s))(hp:W.cell? p = some (.int .i64 0)) :
  Calls Tryz.prog 435 #[.pointer (some ⟨A,0,none⟩),.pointer (some p)] W fun e w' => e = .returned (.tuple #[]) /\ w'.heap[A]? = some (wrO (s ++ ⟨#[0]⟩)) /\ WrB W.heap.size A W w' := by
 have ET:A<W.heap.size := (Array.getElem?_eq_some_iff.1 hA).1
 have hk:((s.size + (⟨#[0]⟩:ByteArray).size:Nat):Int) <= 9223372036854775807 := by
  have:(⟨#[0]⟩:ByteArray).size = 1 := rfl
  omega
 go_enter func435,ntmps435
 go_wp2_with (go_at_call 437;refine(ye_uint _).mono ?_;rintro e w' ⟨rfl,hb⟩;have ul : w'.heap[A]? = some (wrO s) := (hb.block A ET).trans hA;have c1:w'.cell? ⟨A,0,none⟩ = some (.string s) := Lib.cell_of_heap ul 0;have c2 := Lib.frozen_of_heap ul 0)
 refine bodyPost_end (results_none rfl _ _ _) rfl ⟨rfl,?_,?_⟩
 .show(w'.heap.modify A _)[A]? = _
  rw[Array.getElem?_modify,if_pos rfl,ul];rfl
 .exact⟨hb.os,hb.tape,hb.output,by simp[World.setCell];exact hb.size,fun k hk EG => (Below.heap_setCell _ _ _ _ EG).trans (hb.block k hk)⟩
theorem ye_count(A:Nat)(s:ByteArray)(hs:s.size <= 1000)(W:World)(hA:W.heap[A]? = some (wrO s)) :
  Calls Tryz.prog 434 #[.pointer (some ⟨A,0,none⟩),.int .i64 0] W fun e w' => e = .returned (.int .i64 0) /\ w'.heap[A]? = some (wrO (s ++ ⟨#[0]⟩)) /\ WrB W.heap.size A W w' := by
 have ET:A<W.heap.size := (Array.getElem?_eq_some_iff.1 hA).1
 go_enter func434,ntmps434
 go_wp2_with (go_at_call 435;refine(ye_number A ⟨W.heap.size,0,none⟩ s hs _ ((Below.heap_alloc _ _ _ ET).trans hA) (Lib.cell_of_heap (new_heap _ _) 0)).mono ?_;rintro e w' ⟨rfl,ul,hb⟩;have c1:w'.cell? ⟨W.heap.size,0,none⟩ = some (.int .i64 0) := Lib.cell_of_heap ((hb.block _ aa0 Wk).trans (new_heap _ _)) 0)
 go_ret
 exact⟨rfl,ul,hb.alloc⟩
theorem ye_n (a : Addr) (w : World) : (nilAhead 601 119 (.pointer (some a)) "modcert/lock.count").run Tryz.prog w = .ok (some false) w := by kernel_rfl
theorem ye_m (a : Addr) (w : World) : (method 601 119 (.pointer (some a)) "modcert/lock.count").run Tryz.prog w = .ok (434, .pointer (some a)) w := by kernel_rfl
theorem ye_t(a:Addr)(w:World):(Instr.typeAssert (.iface 119 (.pointer (some a))) 197 124 true).run Tryz.prog w = .ok (.tuple #[.pointer none,.bool false]) w := by kernel_rfl
theorem WrB.cell{A B k:Nat}{w w' : World}(h:WrB w.heap.size A w w')(hB:B ≠ A){v:Value}(hv:w.cell? ⟨B,k,none⟩ = some v):w'.cell? ⟨B,k,none⟩ = some v := by
 have ET:B<w.heap.size := by
  rcases Nat.lt_or_ge B w.heap.size with q | q
  .exact q
  .simp[World.cell?,Array.getElem?_eq_none q]at hv
 rw[<-hv]
 simp only[World.cell?,h.block B ET hB]
set_option maxRecDepth 100000 in
theorem ye_list120(A B k:Nat)(F:Value)(s:ByteArray)(hs:s.size <= 1000)(hB:B ≠ A)(W:World)(hA:W.heap[A]? = some (wrO s))(hp:W.cell? ⟨B,k,none⟩ = some (.slice none 0 0)) :
  Calls Tryz.prog 120 #[.iface 119 (.pointer (some ⟨A,0,none⟩)),.pointer (some ⟨B,k,none⟩),F] W fun e w' => e = .returned (.tuple #[]) /\ w'.heap[A]? = some (wrO (s ++ ⟨#[0]⟩)) /\ WrB W.heap.size A W w' := by
 have n1 := ye_n ⟨A,0,none⟩
 have m1 := ye_m ⟨A,0,none⟩
 have t1 := ye_t ⟨A,0,none⟩
 go_enter func120,ntmps120
 go_wp2
 go_region_with (go_at_call 434;refine(ye_count A s hs W.drew hA).mono ?_;rintro e w2 ⟨rfl,iA,hb⟩;have hp2 := hb.cell hB hp)
 go_wp2
 all_goals
  go_loop [56] (fun i => i = Value.int .i64 0) (fun _ => 0)
  case atStart => rfl
  case round=>
   subst hrel
   go_wp2
   exact bodyPost_end (results_none rfl _ _ _) rfl ⟨rfl,iA,hb.os,hb.tape,hb.output,hb.size,hb.block⟩
set_option maxRecDepth 100000 in
theorem ye_list125(A B k:Nat)(F:Value)(s:ByteArray)(hs:s.size <= 1000)(hB:B ≠ A)(W:World)(hA:W.heap[A]? = some (wrO s))(hp:W.cell? ⟨B,k,none⟩ = some (.slice none 0 0)) :
  Calls Tryz.prog 125 #[.iface 119 (.pointer (some ⟨A,0,none⟩)),.pointer (some ⟨B,k,none⟩),F] W fun e w' => e = .returned (.tuple #[]) /\ w'.heap[A]? = some (wrO (s ++ ⟨#[0]⟩)) /\ WrB W.heap.size A W w' := by
 have n1 := ye_n ⟨A,0,none⟩
 have m1 := ye_m ⟨A,0,none⟩
 have t1 := ye_t ⟨A,0,none⟩
 go_enter func125,ntmps125
 go_wp2
 go_region_with (go_at_call 434;refine(ye_count A s hs W.drew hA).mono ?_;rintro e w2 ⟨rfl,iA,hb⟩;have hp2 := hb.cell hB hp)
 go_wp2
 all_goals
  go_loop [56] (fun i => i = Value.int .i64 0) (fun _ => 0)
  case atStart => rfl
  case round=>
   subst hrel
   go_wp2
   exact bodyPost_end (results_none rfl _ _ _) rfl ⟨rfl,iA,hb.os,hb.tape,hb.output,hb.size,hb.block⟩
set_option maxRecDepth 100000 in
theorem ye_list127(A B k:Nat)(F:Value)(s:ByteArray)(hs:s.size <= 1000)(hB:B ≠ A)(W:World)(hA:W.heap[A]? = some (wrO s))(hp:W.cell? ⟨B,k,none⟩ = some (.slice none 0 0)) :
  Calls Tryz.prog 127 #[.iface 119 (.pointer (some ⟨A,0,none⟩)),.pointer (some ⟨B,k,none⟩),F] W fun e w' => e = .returned (.tuple #[]) /\ w'.heap[A]? = some (wrO (s ++ ⟨#[0]⟩)) /\ WrB W.heap.size A W w' := by
 have n1 := ye_n ⟨A,0,none⟩
 have m1 := ye_m ⟨A,0,none⟩
 have t1 := ye_t ⟨A,0,none⟩
 go_enter func127,ntmps127
 go_wp2
 go_region_with (go_at_call 434;refine(ye_count A s hs W.drew hA).mono ?_;rintro e w2 ⟨rfl,iA,hb⟩;have hp2 := hb.cell hB hp)
 go_wp2
 all_goals
  go_loop [56] (fun i => i = Value.int .i64 0) (fun _ => 0)
  case atStart => rfl
  case round=>
   subst hrel
   go_wp2
   exact bodyPost_end (results_none rfl _ _ _) rfl ⟨rfl,iA,hb.os,hb.tape,hb.output,hb.size,hb.block⟩
set_option maxRecDepth 100000 in
theorem ye_list129(A B k:Nat)(F:Value)(s:ByteArray)(hs:s.size <= 1000)(hB:B ≠ A)(W:World)(hA:W.heap[A]? = some (wrO s))(hp:W.cell? ⟨B,k,none⟩ = some (.slice none 0 0)) :
  Calls Tryz.prog 129 #[.iface 119 (.pointer (some ⟨A,0,none⟩)),.pointer (some ⟨B,k,none⟩),F] W fun e w' => e = .returned (.tuple #[]) /\ w'.heap[A]? = some (wrO (s ++ ⟨#[0]⟩)) /\ WrB W.heap.size A W w' := by
 have n1 := ye_n ⟨A,0,none⟩
 have m1 := ye_m ⟨A,0,none⟩
 have t1 := ye_t ⟨A,0,none⟩
 go_enter func129,ntmps129
 go_wp2
 go_region_with (go_at_call 434;refine(ye_count A s hs W.drew hA).mono ?_;rintro e w2 ⟨rfl,iA,hb⟩;have hp2 := hb.cell hB hp)
 go_wp2
 all_goals
  go_loop [56] (fun i => i = Value.int .i64 0) (fun _ => 0)
  case atStart => rfl
  case round=>
   subst hrel
   go_wp2
   exact bodyPost_end (results_none rfl _ _ _) rfl ⟨rfl,iA,hb.os,hb.tape,hb.output,hb.size,hb.block⟩
theorem WrB.trans{A:Nat}{a b c:World}(h:WrB a.heap.size A a b)(k:WrB b.heap.size A b c):WrB a.heap.size A a c:=
 ⟨k.os.trans h.os,k.tape.trans h.tape,k.output.trans h.output,Nat.le_trans h.size k.size,fun i hi hn => (k.block i (Nat.lt_of_lt_of_le hi h.size) hn).trans (h.block i hi hn)⟩
set_option maxRecDepth 100000 in
theorem ye_parts(A B:Nat)(hB:B ≠ A)(W:World)(hA:W.heap[A]? = some (wrO ⟨#[]⟩))(p0:W.cell? ⟨B,0,none⟩ = some (.slice none 0 0))(p1:W.cell? ⟨B,1,none⟩ = some (.slice none 0 0))(p2:W.cell? ⟨B,2,none⟩ = some (.slice none 0 0))(p3:W.cell? ⟨B,3,none⟩ = some (.slice none 0 0)) :
  Calls Tryz.prog 63 #[.iface 119 (.pointer (some ⟨A,0,none⟩)),.pointer (some ⟨B,0,none⟩)] W fun e w' => e = .returned (.tuple #[]) /\ w'.heap[A]? = some (wrO ⟨#[0,0,0,0]⟩) /\ WrB W.heap.size A W w' := by
 go_enter func63,ntmps63
 go_wp2_with (first | (go_at_call 120;refine(ye_list120 A B 0 _ ⟨#[]⟩ aa1 hB _ hA p0).mono ?_;rintro e w1 ⟨rfl,si,b1⟩) | (go_at_call 125;refine(ye_list125 A B 1 _ _ aa1 hB _ si (b1.cell hB p1)).mono ?_;rintro e w2 ⟨rfl,iA,b2⟩;have c2 := b1.trans b2) | (go_at_call 127;refine(ye_list127 A B 2 _ _ aa1 hB _ iA (c2.cell hB p2)).mono ?_;rintro e w3 ⟨rfl,hA3,b3⟩;have c3 := c2.trans b3) | (go_at_call 129;refine(ye_list129 A B 3 _ _ aa1 hB _ hA3 (c3.cell hB p3)).mono ?_;rintro e w4 ⟨rfl,hA4,b4⟩))
 exact bodyPost_end (results_none rfl _ _ _) rfl ⟨rfl,hA4,c3.trans b4⟩
end Go.Proofs
namespace Go.Proofs
open Go.Shelf Go.RowKit Go.Lib Go.Sort Go.Eng
theorem below_of{f:Nat}{args:List AV}{res:AV}{vals:Array Value}{W:World}(hc:PC f args res)(hM:∃m,W.cell? ⟨0,0,none⟩ = some (.int .i64 m))(hs:vals.size = args.length)
  (hr:∀(i:Nat) (av:AV) (x:Value),args[i]? = some av -> vals[i]? = some x -> Bc (kd W) W FN av x):Calls Tryz.prog f vals W fun e W' => (∃v g' U,e = .returned v /\ Bc g' W' U res v) /\ Below W.heap.size W W' := by
 refine(hc.2 (kd W) W vals hs (fun i av x q1 q2 => (hr i av x q1 q2).up _) (sM hM (fun _ h => by cases h))).mono fun e W' ⟨v,r,h',g',e1,e2,e3,e4,_⟩ => ?_
 subst e1
 obtain⟨rfl,rfl⟩ := e2
 exact⟨⟨v,_,_,rfl,e3⟩,e4.os,e4.tape,e4.output,e4.size,fun b hb => e4.frame b hb (fun r h => h.elim)⟩
abbrev nilV9:Value := .slice none 0 0
abbrev nilA9:AV := .v nilV9
abbrev zLk:Lk := ⟨[],[],[],[]⟩
theorem ye_form0:PC 48 [.agg [nilA9,nilA9,nilA9,nilA9]] (vb true):=
 (YE zLk (fun _ h => by cases h) (fun _ h => by cases h) (Nat.zero_le _) (Nat.zero_le _) (Nat.zero_le _)).args ⟨.agg ⟨.nil,.nil,.nil,.nil,trivial⟩,trivial⟩
theorem ye_formed(W:World)(hM:∃m,W.cell? ⟨0,0,none⟩ = some (.int .i64 m)):Calls Tryz.prog 48 #[.agg #[nilV9,nilV9,nilV9,nilV9]] W fun e w' => e = .returned (.bool true) /\ Below W.heap.size W w' := by
 refine(below_of (vals := #[.agg #[nilV9,nilV9,nilV9,nilV9]]) ye_form0 hM rfl (fun i av x e1 e2 => ?_)).mono fun e W' ⟨⟨v,g',U,e1,e2⟩,hb⟩ => ⟨by rw[e1,e2.v_eq],hb⟩
 match i with
 |0=>
  cases e1;cases e2
  exact .agg _ _ _ rfl (fun j x h => by
   match j with
   |0 |1 |2 |3 => cases h;rfl
   |_ + 4 => simp at h) fun j av x h1 h2 => by
   match j with
   |0 |1 |2 |3 => cases h1;cases h2;exact .v _ _
   |_ + 4 => simp at h1
 |_ + 1 => simp at e1
set_option maxRecDepth 100000 in
theorem ye_encode(W:World)(hM:∃m,W.cell? ⟨0,0,none⟩ = some (.int .i64 m)):Calls Tryz.prog 27 #[.agg #[nilV9,nilV9,nilV9,nilV9]] W fun e w' => e = .returned (.tuple #[.string ⟨#[0,0,0,0]⟩,.int .i64 0]) /\ Below W.heap.size W w' := by
  obtain⟨m,hM⟩ := hM
  obtain⟨W1,sn⟩:∃W1,W1 = W.alloc (.cells #[nilV9,nilV9,nilV9,nilV9] 33) := ⟨_,rfl⟩
  have b1:Below W.heap.size W W1 := by rw[sn];exact(Below.refl _ W).alloc (Nat.le_refl _) _
  have z1:W1.heap.size = W.heap.size + 1 := by rw[sn];simp
  have k1:W1.heap[W.heap.size]? = some (.cells #[nilV9,nilV9,nilV9,nilV9] 33) := by rw[sn];exact new_heap _ _
  have m1:∃m,W1.cell? ⟨0,0,none⟩ = some (.int .i64 m) := ⟨m,by
    rw[<-hM];simp only[World.cell?,b1.block 0 (XF hM)]⟩
  have HW:Hid _ := sn
  go_enter Tryz.func27,Tryz.ntmps27
  go_wp2_with (first
    |(go_at_call 48;rw[<-HW.out];refine(ye_formed _ m1).mono ?_;rintro e w2 ⟨rfl,b2⟩;have k2:w2.heap[W.heap.size]? = some (.cells #[nilV9,nilV9,nilV9,nilV9] 33) := (b2.block _ Wk).trans k1;have z2:W.heap.size<w2.heap.size := (by have := b2.size;omega);have k3 := (Below.heap_alloc w2 (wrO ⟨#[]⟩) _ z2).trans k2)
    |(go_at_call 63;refine(ye_parts w2.heap.size W.heap.size Wk _ (new_heap _ _) (Lib.cell_of_heap k3 0) (Lib.cell_of_heap k3 1) (Lib.cell_of_heap k3 2) (Lib.cell_of_heap k3 3)).mono ?_;rintro e w4 ⟨rfl,hA4,b4⟩;have c4:w4.cell? ⟨w2.heap.size,0,none⟩ = some (.string ⟨#[0,0,0,0]⟩) := Lib.cell_of_heap hA4 0))
  go_ret2
  have z4:(w2.alloc (wrO ⟨#[]⟩)).heap.size = w2.heap.size + 1 := by simp
  exact⟨rfl,(b1.trans (b2.mono Wk)).trans ⟨b4.os,b4.tape,b4.output,by have := b4.size;omega,fun k hk => (b4.block k Wk Wk).trans (Below.heap_alloc _ _ _ Wk)⟩⟩
theorem ye_enc0:PC 27 [.agg [nilA9,nilA9,nilA9,nilA9]] (.tup [Go.Eng.vs ⟨#[0,0,0,0]⟩,vi 0]) := by
 refine⟨ie 27 Tryz.func27 aa2 rfl,fun g w us hs hv hI => ?_⟩
 have hs:us.size = 1 := hs
 have hu:us = #[.agg #[nilV9,nilV9,nilV9,nilV9]] := by
  have h0 := hv 0 _ (us[0]' Wk) rfl (Array.getElem?_eq_getElem Wk)
  refine Array.ext hs fun i i1 i2 => ?_
  obtain rfl:i = 0 := by omega
  generalize us[0] = u at h0
  cases h0 with
  |agg _ _ vs k1 k2 k3=>
   have k1:vs.size = 4 := k1
   show Value.agg vs = .agg #[nilV9,nilV9,nilV9,nilV9]
   refine congrArg Value.agg (Array.ext k1 fun j j1 j2 => ?_)
   have q := k3 j
   match j with
   |0 |1 |2 |3 => exact(q _ _ rfl (Array.getElem?_eq_getElem j1)).v_eq
   |_ + 4 => omega
 subst hu
 refine(ye_encode w hI.glob.1.2).mono ?_
 rintro e w' ⟨rfl,q⟩
 have hK:Fa g w g w' := fun b o hb => by
  grind [World.cell?,CT.slt,Go.RowKit.Below.block]
 refine⟨_,_,Af,g,rfl,⟨rfl,rfl⟩,.tup _ _ _ rfl fun i av x e1 e2 => ?_,⟨q.os,q.tape,q.output,q.size,fun b hb _ => q.block b hb,fun b o hs => Nat.lt_of_lt_of_le (hI.slt b o hs) q.size,fun _ => trivial,fun _ _ _ h => h.elim,fun _ _ h => h.elim,fun b o hs => .inl hs,hI.glob.keep hK⟩,⟨.refl _ _,fun _ h => h,hK⟩⟩
 match i with
 |0 |1 => cases e1;cases e2;exact .v _ _
 |_ + 2 => simp at e1
end Go.Proofs
namespace Go.Eng
open Go.Proofs
abbrev nC:CS:=⟨#[99,47,118,49]⟩
abbrev e39:List Lo:=[⟨pa,rU 0,mt,mt⟩,⟨pb,rU 1,mt,mt⟩]
abbrev o39:List Sl:=[⟨pa,rU 0⟩,⟨nC,rU 2⟩]
abbrev m39:List Mv:=[⟨pb,1000,-1⟩,⟨nC,-1,2000⟩]
abbrev wF:Lk:=⟨Qk,e39,(EE Qu Qk).infs,(EE Qu Qk).skips⟩
theorem u7:mkL Qu Qk (EE Qu Qk)=wF:=Aa (fun e=>Lk.mk Qk e (EE Qu Qk).infs (EE Qu Qk).skips) (show(EE Qu Qk).sel.map (Ja Qu)=e39 by kernel_rfl)
theorem xF:LU wF:=⟨by kernel_rfl,by kernel_rfl,by kernel_rfl,by kernel_rfl,by decide,Ee aa2,Ee aa2⟩
theorem rG:Ml o39:=
 ⟨by decide,Bv.2 ⟨by decide,Bv.2 ⟨by decide,CM _⟩⟩,.cons (Bv.2 ⟨by show Ez pa nC=true;kernel_rfl,CM _⟩) (.cons (CM _) .nil)⟩
theorem vU(m:Int):PC 33 [vi m] (.agg [vi 1,vi m,vi 0]):=by
 refine Ps CX Tryz.func33 rfl (Nz rfl) (yN (yN ?_));exact .refl _
theorem r5  : PC 9 [] (vb true):=by
 have hq:∀q∈Qk,IE q:=Bv.2 ⟨⟨by decide,by decide⟩,CM _⟩;have mD:∀r∈Qu,BO r.reqs:=Bv.2 ⟨by decide,Bv.2 ⟨by decide,Bv.2 ⟨by decide,Bv.2 ⟨by decide,CM _⟩⟩⟩⟩;have L:VW Qu Qk:=⟨by decide,by decide,fun r hr=>⟨mD r hr,xG r hr⟩,hq⟩;have hx:Qu.length<=16:=by decide
 have hs:(FD Qu 16&&Dy Qk)=true:=by kernel_rfl
 have c0:dJ Qu Qk=0:=by kernel_rfl
 obtain⟨u1,u2,u3,u4⟩:=ve hx c0;have k19:=s16 Qu [] Qk L.x L.rq;rw[c0]at k19;have k38:PC 38 [Jf Qu [],sl Ad Qk] (.tup [.agg (Gt (EE Qu Qk)),vi 0]):=by have q:=s21 Qu [] Qk L.x L.rq;unfold dL at q;rw[u1]at q;exact q
 have k11:=(Aa5 Qu [] Qk (EE Qu Qk) _ k19 k38 (fun p v=>c53 Qu [] p v (L.c84 []) L.x) u3 (fun q hq=>(L.rq q hq).1) (eT hs) Wk).args (args':=[.agg vS,sl Ad Qk]) ⟨gu,.refl _,trivial⟩;rw[u7]at k11;have k18:=(sN (ifs:=[]) (l:=wF) L hs xF).args (args':=[.agg vS,.agg (Do wF)]) ⟨gu,.refl _,trivial⟩;rw[show VV Qu wF=0 by kernel_rfl]at k18;have k20:=oG wF aa1;have k34:=o75 a40 o39 [pa,pa,pb,nC] (rH 1 (.inl rfl)) rG aa1 aa1 (.cons _ (.swap _ _ _)) aa1;rw[show OD a40 o39 (Ch [pa,pa,pb,nC])=m39 by kernel_rfl]at k34;have k35:=o35 m39 m39 aa1;rw[Av rfl]at k35;refine Ps (pC [3,4] [4,5,7,8]) Tryz.func9 rfl (Nz rfl) (C1 (C2 (vU 0) (C1 (C2 (vU 0) (C1 (C2 (vU 1) (C1 (C2 (vU 2) (yN (cU [(1,.v (.func (.func 33) #[] #[])),(3,.ref 3 0)] [(3,.ro [.slice .none [[vs ⟨#[97,47,118,49]⟩,vi 1,vi 0,vi 0,.slice .none [[vs ⟨#[98,47,118,49]⟩,.slice .none [[vi 1000,vi 1000000]]]],vs ⟨#[]⟩,vs ⟨#[]⟩,vs ⟨#[]⟩,vb false],[vs ⟨#[98,47,118,49]⟩,vi 1,vi 0,vi 0,nzA,vs ⟨#[]⟩,vs ⟨#[]⟩,vs ⟨#[]⟩,vb false],[vs ⟨#[98,47,118,49]⟩,vi 1,vi 1,vi 0,nzA,vs ⟨#[]⟩,vs ⟨#[]⟩,vs ⟨#[]⟩,vb false],[vs ⟨#[98,47,118,49]⟩,vi 1,vi 2,vi 0,nzA,vs ⟨#[]⟩,vs ⟨#[]⟩,vs ⟨#[]⟩,vb true]],nzA])] Z2 Z1 (yN (C1 (C2 k11 (yN (cU [(1,.v (.func (.func 33) #[] #[])),(3,.ref 3 0),(4,.ref 4 0),(5,vi 0)] [(3,.ro [.slice .none [[vs ⟨#[97,47,118,49]⟩,vi 1,vi 0,vi 0,.slice .none [[vs ⟨#[98,47,118,49]⟩,.slice .none [[vi 1000,vi 1000000]]]],vs ⟨#[]⟩,vs ⟨#[]⟩,vs ⟨#[]⟩,vb false],[vs ⟨#[98,47,118,49]⟩,vi 1,vi 0,vi 0,nzA,vs ⟨#[]⟩,vs ⟨#[]⟩,vs ⟨#[]⟩,vb false],[vs ⟨#[98,47,118,49]⟩,vi 1,vi 1,vi 0,nzA,vs ⟨#[]⟩,vs ⟨#[]⟩,vs ⟨#[]⟩,vb false],[vs ⟨#[98,47,118,49]⟩,vi 1,vi 2,vi 0,nzA,vs ⟨#[]⟩,vs ⟨#[]⟩,vs ⟨#[]⟩,vb true]],nzA]),(4,.ro [sl Ad Qk,.slice .none [[vs pa,vi 1,vi 0,vi 0,vs mt,vs mt],[vs pb,vi 1,vi 1,vi 0,vs mt,vs mt]],sl AG (EE Qu Qk).infs,sl AB (EE Qu Qk).skips])] Z4 Z2 (C1 (C2 ye_enc0 (C1 (C2 (vU 0) (C1 (C2 (vU 2) (cU [(1,.v (.func (.func 33) #[] #[])),(3,.ref 3 0),(4,.ref 4 0),(5,vi 0),(6,vs ⟨#[0,0,0,0]⟩),(7,vi 0),(8,.slice (.id 50 4) [[vs ⟨#[97,47,118,49]⟩,vi 1,vi 0,vi 0],[vs ⟨#[99,47,118,49]⟩,vi 1,vi 2,vi 0]])] [(3,.ro [.slice .none [[vs ⟨#[97,47,118,49]⟩,vi 1,vi 0,vi 0,.slice .none [[vs ⟨#[98,47,118,49]⟩,.slice .none [[vi 1000,vi 1000000]]]],vs ⟨#[]⟩,vs ⟨#[]⟩,vs ⟨#[]⟩,vb false],[vs ⟨#[98,47,118,49]⟩,vi 1,vi 0,vi 0,nzA,vs ⟨#[]⟩,vs ⟨#[]⟩,vs ⟨#[]⟩,vb false],[vs ⟨#[98,47,118,49]⟩,vi 1,vi 1,vi 0,nzA,vs ⟨#[]⟩,vs ⟨#[]⟩,vs ⟨#[]⟩,vb false],[vs ⟨#[98,47,118,49]⟩,vi 1,vi 2,vi 0,nzA,vs ⟨#[]⟩,vs ⟨#[]⟩,vs ⟨#[]⟩,vb true]],nzA]),(4,.ro [sl Ad Qk,.slice .none [[vs pa,vi 1,vi 0,vi 0,vs mt,vs mt],[vs pb,vi 1,vi 1,vi 0,vs mt,vs mt]],sl AG (EE Qu Qk).infs,sl AB (EE Qu Qk).skips]),(50,.tok 4 2)] Z7 Z3 (yN (C1 (C2 k20 (C1 (C2 k34 (cU [(1,.v (.func (.func 33) #[] #[])),(3,.ref 3 0),(4,.ref 4 0),(5,vi 0),(6,vs ⟨#[0,0,0,0]⟩),(7,vi 0),(9,sl Gu m39),(10,vi 0)] [(3,.ro [.slice .none [[vs ⟨#[97,47,118,49]⟩,vi 1,vi 0,vi 0,.slice .none [[vs ⟨#[98,47,118,49]⟩,.slice .none [[vi 1000,vi 1000000]]]],vs ⟨#[]⟩,vs ⟨#[]⟩,vs ⟨#[]⟩,vb false],[vs ⟨#[98,47,118,49]⟩,vi 1,vi 0,vi 0,nzA,vs ⟨#[]⟩,vs ⟨#[]⟩,vs ⟨#[]⟩,vb false],[vs ⟨#[98,47,118,49]⟩,vi 1,vi 1,vi 0,nzA,vs ⟨#[]⟩,vs ⟨#[]⟩,vs ⟨#[]⟩,vb false],[vs ⟨#[98,47,118,49]⟩,vi 1,vi 2,vi 0,nzA,vs ⟨#[]⟩,vs ⟨#[]⟩,vs ⟨#[]⟩,vb true]],nzA]),(4,.ro [sl Ad Qk,.slice .none [[vs pa,vi 1,vi 0,vi 0,vs mt,vs mt],[vs pb,vi 1,vi 1,vi 0,vs mt,vs mt]],sl AG (EE Qu Qk).infs,sl AB (EE Qu Qk).skips])] Z8 Z2 (Yi (fun _=>?_) (fun h=>absurd aa1 h))))))))))))))))))))))))))))));refine Yi (fun _=>?_) (fun h=>absurd aa1 h);refine Xi [vs pb,vi 1,vi 1,vi 0,vs mt,vs mt] (Yi ⟨by decide,rfl⟩ (Yi rfl ?_));refine yN (C2 (vU 1) (Yi (fun h1=>?_) (fun h1=>?_)))
 .have h1:(1:Int)=1/\(1:Int)=1/\(0:Int)=0/\True:=h1;refine yN (yN (C2 k18 (Yi (fun _=>?_) (fun h=>absurd aa1 h))));refine Yi (fun _=>?_) (fun h=>absurd aa1 h);refine Yi (fun h2=>?_) (fun h2=>?_)
  .have h2:(⟨#[0,0,0,0]⟩:CS)=⟨#[0,0,0,0]⟩:=h2;refine Yi (fun _=>?_) (fun h=>absurd aa1 h);refine C2 k35 (Yi aa2 ?_);exact .refl _
  have h2:¬(⟨#[0,0,0,0]⟩:CS)=⟨#[0,0,0,0]⟩:=h2;refine Yi aa2 ?_;exact absurd rfl h2
 have h1:¬((1:Int)=1/\(1:Int)=1/\(0:Int)=0/\True):=h1;refine Yi aa2 ?_;exact absurd ⟨rfl,rfl,rfl,trivial⟩ h1
end Go.Eng
namespace Go.Eng
open Go.Proofs Go.Shelf Go.RowKit Go.Lib Go.Sort
end Go.Eng
namespace Go.Eng
open Go.Proofs
theorem zd(x:List Rl)(ifs:C0)(l:Lk)(L:VW x l.roots)(hk:s9 l):PC 6 [Jf x ifs,.agg (Do l)] (vb true):=AdJ x ifs l L hk r5
end Go.Eng
