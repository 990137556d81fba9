/- Lemmas 33. -/
import Derived.Test.YtkmnnpmneamgoaaGreatDoorPA32
set_option maxHeartbeats 4000000
namespace Go.Eng
open Go.Proofs
variable {i j:Nat}(x:List Rl)(ifs:List (List AV))(roots:List Rq)(a:An)(d:List (List Tm))(D:List Sl)(K:List Sk)
theorem fy{l:List Rl}(h:j<l.length):GM roots (l.take (j+1))=GM roots (l.take j)++l[j].reqs:=by
 grind [GM,List.take_add_one]
theorem jH:∀l:List Rl,(∀r∈l,r.reqs.length<=16)->(GM roots l).length<=roots.length+16*l.length:=fun l h=>by
 grind [YK,GM]
theorem c48(s:List Sl)(hx:∀r∈x,E4 r)(Kl:BL x)(Vj:∀q∈roots,BL q.set)(Jh:roots.length<=1000000)(hs:s.length<=256):PC 56 [.agg (Ic x ifs),sl Ac roots,sl Ag s] (vi (Db x roots s)):=by
 have P0:∀(p:ByteArray) (v:Ver),PC 105 [Il x ifs,vs p,.agg (ES v)] (H4 (Bo x ⟨p,v⟩)):=fun p v=>zk x ifs p v hx Kl;have aE:BL s:=by omega
 refine Ps (pC [] [2,3,6,8,14,16,18,20,22,23]) Tryz.func56 rfl (Nz rfl) (yN (Xi .pure (Xi _ (Yi (uV x ifs hx) (Yi (fun h1=>?_) (fun h1=>?_))))))
 .have h1:(Av x:Int)≠(0:Int):=h1;refine cU [] [] Tv Tv ?_
  exact .of_eq (Aa vi (show(1:Int)=Db x roots s by grind [Db]))
 have h1:(Av x:Int)=(0:Int):=A9 h1;refine AA (Bt (Bp s)) (fun h3=>?_) (fun h3=>?_)
 .have h3:(Bp s)=true:=h3;have YV:=(zj s aE);rw[show Bp s=true from h3]at YV;refine Xi .pure (Xi _ (Yi YV (cU [(1,sl Ac roots),(2,sl Ag s),(3,.ref 3 0)] [(3,.cells (Ic x ifs))] Z3 Z1 (Xi {q:Nat×List Rl // q.1<=s.length/\FN x (s.take q.1)=some q.2} (Xi (fun q=>⟨[(1,sl Ac roots),(2,sl Ag s),(3,.ref 3 0),(7,.slice (.id 22 9) (q.1.2.map Am)),(8,vi q.1.1)],[(3,.cells (Ic x ifs)),(22,.tok 9 q.1.2.length)],Ae⟩) (Xi (fun q=>s.length-q.1.1) (Yi (Xi ⟨(0,[]),Ap _,rfl⟩ ?_) ?_)))))))
  .exact⟨Z5,Z2,Fh,Tv⟩
  intro⟨⟨i,A⟩,i1,i2⟩;have i1:i<=s.length:=i1;have i2:FN x (s.take i)=some A:=i2;have hA:A.length=i:=by
   have q:=Aa List.length (G5 i2).1;simp_all
  refine Yi (fun h5=>?_) (fun h5=>?_)
  .have h5:(i:Int)<((s.map Ag).length:Int):=h5;have n5:i<s.length:=by simp_all
   have g5:s[i]?=some s[i]:=Ge n5;refine yN (Xi (Ag s[i]) (Yi (Yi (Nn i) (Bk g5)) (Yi rfl (Xi (Ag s[i]) (Yi (Yi (Nn i) (Bk g5)) (Yi rfl (yN (AA (Dt (Bo x ⟨s[i].path,s[i].ver⟩)) (fun h6=>?_) (fun h6=>?_)))))))))
   .refine Al h6 (fun r h6=>?_);have YW:=P0 s[i].path s[i].ver;rw[h6]at YW;refine Xi _ (Yi YW (yN (Yi aa3 (cU [(1,sl Ac roots),(2,sl Ag s),(3,.ref 3 0),(7,.slice (.id 22 9) (A.map Am)),(8,vi i),(9,.ref 9 0),(10,vb true)] [(3,.cells (Ic x ifs)),(9,.cells (Am r)),(22,.tok 9 A.length)] Z7 Z3 (yN ?_)))));have b7:A7 9 [(Am r)]/\(A.map Am).length=A.length/\((A.map Am).length+([(Am r)]:List (List AV)).length)*120<=140737488355328/\(A.map Am).length+([(Am r)]:List (List AV)).length<=9223372036854775807:=⟨⟨rfl,trivial⟩,(by simp_all),(by grind),(by grind)⟩;refine Yi b7 (cU [(1,sl Ac roots),(2,sl Ag s),(3,.ref 3 0),(7,.slice (.id 22 9) ((A.map Am)++[(Am r)])),(8,vi i)] [(3,.cells (Ic x ifs)),(22,.tok 9 ((A.map Am).length+([(Am r)]:List (List AV)).length))] Z5 Z2 (Yi (by grind [As]) (Xi ⟨(i+1,(A++[r])),by omega,by show FN x (s.take (i+1))=_;rw[ao n5 i2,show Bo x s[i]=some r from h6]⟩ ?_)));exact⟨by grind,⟨Zr,Zr,Zr,⟨(show AV.slice (.id 22 9) (A.map Am++[Am r])=.slice (.id 22 9) ((A++[r]).map Am) by simp),rfl⟩,Zr,Tv⟩,⟨Zr,⟨(show HO.tok 9 ((A.map Am).length+([Am r]:List (List AV)).length)=.tok 9 (A++[r]).length by simp),rfl⟩,Tv⟩,Fh,Tv⟩
   have YW:=P0 s[i].path s[i].ver;rw[h6]at YW;refine Xi _ (Yi YW (yN (Yi aa3 (cU [(1,sl Ac roots),(2,sl Ag s),(3,.ref 3 0),(7,.slice (.id 22 9) (A.map Am)),(8,vi i),(9,.ref 9 0),(10,vb false)] [(3,.cells (Ic x ifs)),(9,.cells [vs ⟨#[]⟩,vi 0,vi 0,vi 0,nzA,vs ⟨#[]⟩,vs ⟨#[]⟩,vs ⟨#[]⟩,vb false]),(22,.tok 9 A.length)] Z7 Z3 ?_))))
   exact .of_eq (Aa vi (show(6:Int)=Db x roots s by grind [Db,nB,Bo]))
  have h5:¬((i:Int)<((s.map Ag).length:Int)):=h5;have n5:¬i<s.length:=by simp_all
  rw[Bd aa0]at i2;have h0:Av x=0:=h1;have hi:Bp s=true:=h3;have gN:=(G5 i2).1;have hAx:∀r∈A,r∈x:=fun r hr=>(CH ((G5 i2).2.1 r hr)).2.1;have x8:∀r∈A,r.reqs.length<=16:=fun r hr=>(Fb h0).2 r (hAx r hr);have zn:=Wv hi i2;have hAv:∀r∈A,BK r.ver=true:=fun r hr=>((BC h0).1 r (hAx r hr)).val;have hsv:∀y∈s,BK y.ver=true:=fun y hy=>by
   rw[<-gN]at hy;obtain⟨r,hr,rfl⟩:=Ar.1 hy;exact hAv r hr
  have U0:A7 2 (roots.map Ac)/\([]:List (List AV)).length=0/\(([]:List (List AV)).length+(roots.map Ac).length)*40<=140737488355328/\([]:List (List AV)).length+(roots.map Ac).length<=9223372036854775807:=⟨(Cn (enc:=Ac) (n:=2) (fun _=>rfl) roots),aa1,(by grind),(by grind)⟩;refine Yi U0 (Xi {j:Nat // j<=A.length} (Xi (fun q=>⟨[(1,sl Ac roots),(2,sl Ag s),(7,.slice (.id 22 9) (A.map Am)),(11,.slice (.id 50 2) ((GM roots (A.take q.1)).map Ac)),(12,vi q.1)],[(22,.tok 9 A.length),(50,.tok 2 (GM roots (A.take q.1)).length)],Ae⟩) (Xi (fun q=>A.length-q.1) (Yi (Xi ⟨0,Ap _⟩ ?_) ?_))))
  .exact⟨⟨Zr,Zr,Zr,⟨(show AV.slice (.id 50 2) ([]++roots.map Ac)=.slice (.id 50 2) ((GM roots (A.take 0)).map Ac) by grind [GM]),rfl⟩,Zr,Tv⟩,⟨Zr,⟨(show HO.tok 2 (([]:List (List AV)).length+(roots.map Ac).length)=.tok 2 (GM roots (A.take 0)).length by grind [GM]),rfl⟩,Tv⟩,Fh,Tv⟩
  intro⟨j,j1⟩;have j1:j<=A.length:=j1;have hal:=jH roots (A.take j) (fun r hr=>x8 r (DU hr));rw[Cy]at hal;refine Yi (fun Jr=>?_) (fun Jr=>?_)
  .have Jr:(j:Int)<((A.map Am).length:Int):=Jr;have n11:j<A.length:=by simp_all
   have g11:A[j]?=some A[j]:=Ge n11;have hrj:=x8 A[j] (Ak n11);refine Xi (Am A[j]) (Yi (Yi (Nn j) (Bk g11)) (Yi rfl ?_));have uT:A7 2 (A[j].reqs.map Ac)/\((GM roots (A.take j)).map Ac).length=(GM roots (A.take j)).length/\(((GM roots (A.take j)).map Ac).length+(A[j].reqs.map Ac).length)*40<=140737488355328/\((GM roots (A.take j)).map Ac).length+(A[j].reqs.map Ac).length<=9223372036854775807:=⟨(Cn (enc:=Ac) (n:=2) (fun _=>rfl) A[j].reqs),(by simp_all),(by grind),(by grind)⟩;refine Yi uT (cU [(1,sl Ac roots),(2,sl Ag s),(7,.slice (.id 22 9) (A.map Am)),(11,.slice (.id 50 2) (((GM roots (A.take j)).map Ac)++(A[j].reqs.map Ac))),(12,vi j)] [(22,.tok 9 A.length),(50,.tok 2 (((GM roots (A.take j)).map Ac).length+(A[j].reqs.map Ac).length))] Z5 Z2 (Yi (by grind [As]) ?_));have es:GM roots (A.take (j+1))=GM roots (A.take j)++A[j].reqs:=fy roots n11;refine Xi ⟨j+1,by omega⟩ ?_;exact⟨by grind,⟨Zr,Zr,Zr,⟨(show AV.slice (.id 50 2) ((GM roots (A.take j)).map Ac++A[j].reqs.map Ac)=.slice (.id 50 2) ((GM roots (A.take (j+1))).map Ac) by simp_all),rfl⟩,Zr,Tv⟩,⟨Zr,⟨(show HO.tok 2 (((GM roots (A.take j)).map Ac).length+(A[j].reqs.map Ac).length)=.tok 2 (GM roots (A.take (j+1))).length by simp_all),rfl⟩,Tv⟩,Fh,Tv⟩
  have Jr:¬((j:Int)<((A.map Am).length:Int)):=Jr;have n11:¬j<A.length:=by simp_all
  rw[Bd aa0]at hal;refine Al (show ∃Q,Q=GM roots A from⟨_,rfl⟩) (fun Q hQ=>?_);have hQl:Q.length<=1100000:=by
   grind
  have hQf:∀q∈Q,BL q.set:=fun q hq=>by
   grind [Jn]
  refine cU [(1,sl Ac roots),(2,sl Ag s),(7,.slice (.id 22 9) (A.map Am)),(11,.slice (.id 50 2) (Q.map Ac))] [(22,.tok 9 A.length),(50,.tok 2 Q.length)] ⟨Zr,Zr,Zr,⟨(show AV.slice (.id 50 2) ((GM roots (A.take j)).map Ac)=.slice (.id 50 2) (Q.map Ac) by grind),rfl⟩,Tv⟩ ⟨Zr,⟨(show HO.tok 2 (GM roots (A.take j)).length=.tok 2 Q.length by grind),rfl⟩,Tv⟩ ?_
  refine Xi {k:Nat // k<=Q.length/\∀m (h:m<Q.length),m<k->RZ Q[m] s=true} (Xi (fun q=>⟨[(1,sl Ac roots),(2,sl Ag s),(7,.slice (.id 22 9) (A.map Am)),(11,.slice (.id 50 2) (Q.map Ac)),(13,vi q.1)],[(22,.tok 9 A.length),(50,.tok 2 Q.length)],Ae⟩) (Xi (fun q=>Q.length-q.1) (Yi (Xi ⟨0,Ap _,fun m _ h=>by omega⟩ ?_) ?_)))
  .exact⟨Z5,Z2,Fh,Tv⟩
  intro⟨k,k1,k2⟩;refine Yi (fun N8=>?_) (fun N8=>?_)
  .have N8:(k:Int)<((Q.map Ac).length:Int):=N8;have n14:k<Q.length:=by simp_all
   have g14:Q[k]?=some Q[k]:=Ge n14;refine Xi (Ac Q[k]) (Yi (Yi (Nn k) (Bk g14)) (Yi rfl (yN (AA (Bt (RZ Q[k] s)) (fun L7=>?_) (fun L7=>?_)))))
   .have L7:(RZ Q[k] s)=true:=L7;have ld:=c92 Q[k] s (hQf _ (Ak n14)) aE hsv;rw[show(RZ Q[k] s)=true from L7]at ld;refine Xi .pure (Xi _ (Yi ld (cU [(1,sl Ac roots),(2,sl Ag s),(7,.slice (.id 22 9) (A.map Am)),(11,.slice (.id 50 2) (Q.map Ac)),(13,vi k)] [(22,.tok 9 A.length),(50,.tok 2 Q.length)] Z5 Z2 (Yi (by grind [As]) (Xi ⟨k+1,by omega,fun m hm hmk=>(El m k).elim (k2 m hm) (fun z=>by grind)⟩ ?_)))));exact⟨by grind,Z5,Z2,Fh,Tv⟩
   have L7:(RZ Q[k] s)=false:=L7;have xj:=c92 Q[k] s (hQf _ (Ak n14)) aE hsv;rw[show(RZ Q[k] s)=false from L7]at xj;refine Xi .pure (Xi _ (Yi xj (cU [] [] Tv Tv ?_)))
   have rS:Q[k]∈GM roots A:=by simp_all
   have pF:B9 A Q[k]=true:=by
    grind [UI]
   exact .of_eq (Aa vi (show(17:Int)=Db x roots s by grind [je]))
  have N8:¬((k:Int)<((Q.map Ac).length:Int)):=N8;have n14:¬k<Q.length:=by simp_all
  have hb:∀q∈GM roots A,B9 A q=false:=fun q hq=>by
   grind [List.getElem_of_mem,UI]
  have rC:=uE h0 hi i2 aa0;have CD:=iW zn hb;have hmn:(Jy A roots).length<=A.length:=by
   grind
  have h93:=(c93 A [] roots (Jy A roots) (Wh zn) (fun D a b=>Wi D a b) (xe zn hb) zn (s5 hb) rC (fun r hr=>hx r (hAx r hr)) Vj Jh).args (args':=[.agg [sl Am A,nzA],sl Ac roots]) ⟨Ea.agg ⟨.refl _,.nil,trivial⟩,.refl _,trivial⟩;refine Xi .pure (Xi _ (Yi h93 (Yi (fun gA=>?_) (fun gA=>?_))))
  .have gA:((((A.filter fun r=>Ua (Jy A roots) r.path).map Cq).map Ag).length:Int)≠((s.map Ag).length:Int):=gA;refine cU [] [] Tv Tv ?_
   have hq:=gA;rw[Lm,CD,Lm]at hq;exact .of_eq (Aa vi (show(8:Int)=Db x roots s by grind [UP]))
  have gA:((((A.filter fun r=>Ua (Jy A roots) r.path).map Cq).map Ag).length:Int)=((s.map Ag).length:Int):=A9 gA;refine cU [] [] Tv Tv ?_
  have hq:=gA;rw[Lm,CD,Lm]at hq;exact .of_eq (Aa vi (show(0:Int)=Db x roots s by grind [UP]))
 have h3:(Bp s)=false:=h3;have lh:=(zj s aE);rw[show Bp s=false from h3]at lh;refine Xi .pure (Xi _ (Yi lh (cU [] [] Tv Tv ?_)))
 exact .of_eq (Aa vi (show(1:Int)=Db x roots s by grind [Db]))
def Nv(d:List (List Tm))(b:List Sl)(p:ByteArray)(va:Int->Ver):List Int->List Sk->Option (List Sk)
 | [],K=>some K
 |_::_,[]=>none
 |pl::ps,y::K=>if y.path=p/\y.place=pl then match DG d y.inf with
   |none=>none
   |some t=>if Bm t (b++[⟨p,va pl⟩])then Nv d b p va ps K else none
  else none
def Te(i:Nat)(K:List Sk):Option (List Sk):=match D[i]? with
 |none=>none
 |some y=>Nv d (D.take i) y.path (Gl x y.path) (CZ x (Cb x roots (D.take i)) y.path (plc y.ver)) K
def Gx(x:List Rl)(roots:List Rq)(d:List (List Tm))(D:List Sl)(K:List Sk):Nat->Option (List Sk)
 |0=>some K
 |i+1=>(Gx x roots d D K i).bind (Te x roots d D i)
def LD:Bool:=match Gx x roots d D K D.length with | some []=>true | _=>false
def EF:Bool:=decide ((D4 x roots a.sel).2=0)&&LD x roots d (D4 x roots a.sel).1 a.skips
section
variable {x:List Rl}{roots:List Rq}{d:List (List Tm)}{D:List Sl}{K:List Sk}
theorem ai(h:Gx x roots d D K j=none):∀m,j<=m->Gx x roots d D K m=none:=by
 intro m hm
 induction m<;>grind [Gx]
theorem HC(hi:i<D.length){K' : List Sk}(h:Gx x roots d D K i=some K')(he:Te x roots d D i K'=none):LD x roots d D K=false:=by
 have h1:Gx x roots d D K (i+1)=none:=by grind [Gx]
 grind [LD,ai]
theorem ah{K' K2:List Sk}(h:Gx x roots d D K i=some K')(he:Te x roots d D i K'=some K2):Gx x roots d D K (i+1)=some K2:=by
 grind [Gx]
theorem pf(hi:i<D.length)(K:List Sk):Te x roots d D i K=Nv d (D.take i) D[i].path (Gl x D[i].path) (CZ x (Cb x roots (D.take i)) D[i].path (plc D[i].ver)) K:=by
 grind [Te]
end
section
variable {d:List (List Tm)}{b:List Sl}{p:ByteArray}{va:Int->Ver}{L:List Int}{k:Nat}{K:List Sk}{m:Nat}
theorem ph(hk:L.length<=k):Nv d b p va (L.drop k) K=some K:=by rw[D0 hk];rfl
theorem pg(hk:k<L.length)(hm:K.length<=m):Nv d b p va (L.drop k) (K.drop m)=none:=by
 rw[Ba hk,D0 hm];rfl
theorem dw(hk:k<L.length)(hm:m<K.length)(h:¬(K[m].path=p/\K[m].place=L[k])):Nv d b p va (L.drop k) (K.drop m)=none:=by
 rw[Ba hk,Ba hm];show(if _ then _ else none)=none;simp_all
theorem dx(hk:k<L.length)(hm:m<K.length)(h:DG d K[m].inf=none):Nv d b p va (L.drop k) (K.drop m)=none:=by
 rw[Ba hk,Ba hm];show(if _ then(match DG d K[m].inf with | none=>none | some t=>_)else none)=none;simp_all
theorem pi{t:List Tm}(hk:k<L.length)(hm:m<K.length)(h:DG d K[m].inf=some t)(he:Bm t (b++[(⟨p,va L[k]⟩:Sl)])=false):Nv d b p va (L.drop k) (K.drop m)=none:=by
 rw[Ba hk,Ba hm];show(if _ then(match DG d K[m].inf with | none=>none | some t=>if Bm t (b++[(⟨p,va L[k]⟩:Sl)])then _ else none)else none)=none;simp_all
theorem pj{t:List Tm}(hk:k<L.length)(hm:m<K.length)(h1:K[m].path=p)(h2:K[m].place=L[k])(h:DG d K[m].inf=some t)(he:Bm t (b++[(⟨p,va L[k]⟩:Sl)])=true):Nv d b p va (L.drop k) (K.drop m)=Nv d b p va (L.drop (k+1)) (K.drop (m+1)):=by
 grind [List.drop_eq_getElem_cons,Nv]
end
section
variable {x:List Rl}{roots:List Rq}{d:List (List Tm)}
theorem uP(h0:Av x=0){o:Rl}(ho:o∈x):Gl x o.path (plc o.ver)=o.ver:=by
 have hx:=(BC h0).1;unfold Gl Di;cases hf:x.find? (fun r=>decide (r.path=o.path)&&decide (plc r.ver=plc o.ver))with
 |none=>
  grind
 |some r=>
  have hr:=Bn hf;have hp:=FM hf;simp only[Aj,A8]at hp;have v1:=(hx r hr).val;have v2:=(hx o ho).val;have m1:=(hx r hr).maj;have m2:=(hx o ho).maj;rw[hp.1,m2]at m1;have e0:o.ver.a=r.ver.a:=EY m1;have e1:=hp.2;rw[<-Lz v1,<-Lz v2]at e1;unfold place at e1;unfold BK at v1 v2;simp only[Aj,A8]at v1 v2;obtain⟨⟨_,b1⟩,c1⟩:=v1;obtain⟨⟨_,b2⟩,c2⟩:=v2;unfold okPart at b1 b2 c1 c2;show r.ver=o.ver;have e2:r.ver.b=o.ver.b:=by omega
  have e3:r.ver.c=o.ver.c:=by omega
  cases hr:r.ver;cases ho:o.ver<;>simp_all
theorem ap(h0:Av x=0)(v:WT):∀(x' : List Rl),(∀o∈x',o∈x)->∀K:List Sk,DJ d v x' K=match Nv d v.before v.rel.path (Gl x v.rel.path) (CZ x' v.needs v.rel.path (plc v.rel.ver)) K with | some K'=>(K',true) | none=>([],false)
 | [],_,K=>rfl
 |o::x',hm,K=>by
  have ih:=ap h0 v x' (fun o h=>hm o (Ai _ h));have hs:CZ (o::x') v.needs v.rel.path (plc v.rel.ver)=if I3 v.needs v.rel.path (plc v.rel.ver) o then plc o.ver::CZ x' v.needs v.rel.path (plc v.rel.ver)else CZ x' v.needs v.rel.path (plc v.rel.ver):=by
   grind [CZ]
  rw[hs,QP]
  by_cases hq:I3 v.needs v.rel.path (plc v.rel.ver) o=true
  .rw[AX hq];unfold I3 at hq;simp only[Aj,A8,EI]at hq;obtain⟨⟨⟨q1,q2⟩,q3⟩,q4⟩:=hq;rw[AI (by simp_all),AI (by grind [LP])];have hv:=uP h0 (hm o (Ah ..));rw[q1]at hv;cases K with
   |nil=>rfl
   |cons y K=>
    show(if(!decide (y.path=v.rel.path)||!decide (y.place=plc o.ver))=true then([],false)else match DG d y.inf with | none=>([],false) | some t=>if Bm t (v.before++[Cq o])then DJ d v x' K else([],false))=match(if y.path=v.rel.path/\y.place=plc o.ver then match DG d y.inf with | none=>none | some t=>if Bm t (v.before++[⟨v.rel.path,Gl x v.rel.path (plc o.ver)⟩])then Nv d v.before v.rel.path (Gl x v.rel.path) (CZ x' v.needs v.rel.path (plc v.rel.ver)) K else none else none)with | some K'=>(K',true) | none=>([],false)
    grind [Cq]
  grind [I3,LP]
theorem WL{s:List Sl}:∀{n:Nat} {before:List Sl},∀i v,(D3 x s n before (Cb x roots before)).1[i]?=some v->v.before=before++((D3 x s n before (Cb x roots before)).1.take i).map FX/\v.needs=Cb x roots v.before/\Bo x (FX v)=some v.rel
 |0,_,i,v,h=>by grind [D3]
 |n+1,before,i,v,h=>by
  unfold D3 at h⊢;cases hp:DF (Cb x roots before) before with
  |none=>simp_all
  |some p=>
   rw[hp]at h;dsimp only at h⊢;cases hf:AB s p with
   |none=>simp_all
   |some y=>
    rw[hf]at h;dsimp only at h⊢;cases hr:Bo x y with
    |none=>simp_all
    |some r=>
     rw[hr]at h;dsimp only at h⊢;have hk:Cq r=y:=(CH hr).2.2;have e:Cb x roots before++r.reqs=Cb x roots (before++[y]):=by grind [Oq,Hv]
     rw[e]at h⊢;cases i with
     |zero=>
      grind
     |succ i=>
      rw[SC]at h;obtain⟨h1,h2,h3⟩:=WL (n:=n) (before:=before++[y]) i v h<;>simp_all
theorem Tx{s:List Sl}(h0:Av x=0){V:List WT}(hV:V=(visits x roots s).1)(K:List Sk):∀i,i<=V.length ->
  match Gx x roots d (V.map FX) K i with
  |some K'=>(V.take i).foldl (Ci x d) (true,K)=((V.take i).all (fun v=>!v.rel.yanked),K')
  |none=>((V.take i).foldl (Ci x d) (true,K)).1=false
 |0,_=>rfl
 |i+1,hi=>by
  have ih:=Tx h0 hV K i aa0;have E1:i<V.length:=by omega
  have ht:V.take (i+1)=V.take i++[V[i]]:=by simp_all
  have hva:=WL (x:=x) (roots:=roots) (s:=s) (n:=s.length+1) (before:=[]) i V[i] (by
   grind [Lt,visits])
  rw[Lt]at hva;obtain⟨v1,v2,v3⟩:=hva;have v1:V[i].before=(V.map FX).take i:=by
   grind [List.map_take,visits]
  have hD:(V.map FX)[i]?=some (FX V[i]):=by grind
  rw[ht,List.foldl_append];show match(Gx x roots d (V.map FX) K i).bind (Te x roots d (V.map FX) i)with
   |some K'=>Ci x d ((V.take i).foldl (Ci x d) (true,K)) V[i]=((V.take i++[V[i]]).all (fun v=>!v.rel.yanked),K')
   |none=>(Ci x d ((V.take i).foldl (Ci x d) (true,K)) V[i]).1=false
  cases hn:Gx x roots d (V.map FX) K i with
  |none=>
   rw[hn]at ih;show(((V.take i).foldl (Ci x d) (true,K)).1&&_&&_)=false;simp_all
  |some K'=>
   rw[hn]at ih;have ih:(V.take i).foldl (Ci x d) (true,K)=((V.take i).all (fun v=>!v.rel.yanked),K'):=ih;have he:Te x roots d (V.map FX) i K'=Nv d V[i].before V[i].rel.path (Gl x V[i].rel.path) (CZ x V[i].needs V[i].rel.path (plc V[i].rel.ver)) K':=by
    unfold Te;rw[hD,v2,v1]
    rfl
   have hs:=ap (d:=d) h0 V[i] x (fun _ h=>h) K';rw[<-he]at hs;rw[ih];show match Te x roots d (V.map FX) i K' with
    |some K2=>(((V.take i).all (fun v=>!v.rel.yanked)&&(DJ d V[i] x K').2&&!V[i].rel.yanked),(DJ d V[i] x K').1)=((V.take i++[V[i]]).all (fun v=>!v.rel.yanked),K2)
    |none=>((V.take i).all (fun v=>!v.rel.yanked)&&(DJ d V[i] x K').2&&!V[i].rel.yanked)=false
   grind
theorem aj{s:List Sl}{K:List Sk}(hr:AL roots=0)(hs:Db x roots s=0) :
  (((visits x roots s).1.foldl (Ci x d) (true,K)).1&&((visits x roots s).1.foldl (Ci x d) (true,K)).2.isEmpty)=(s.all (Gu x)&&(decide ((D4 x roots s).2=0)&&LD x roots d (D4 x roots s).1 K)):=by
 obtain⟨l,hl⟩:=cQ hs;have hv:=hl.visits;have hd:D4 x roots s=((visits x roots s).1.map FX,0):=by
  grind [D4,NW.ix,NW.inc]
 have hf:=Tx (d:=d) hl.ix (s:=s) rfl K (visits x roots s).1.length (Ao _);rw[F3]at hf;have GI:s.all (Gu x)=(visits x roots s).1.all fun v=>!v.rel.yanked:=by
  have Ct:=JL hv;rw[Dh,BO,BO];constructor
  .intro h v hm;obtain⟨m1,m2⟩:=Ct.mem v hm<;>grind [Gu]
  grind [Gu,NW.all,rr.mem]
 grind [LD]
end
theorem y7(i:Nat):((D.map Ag).take (i:Int).toNat).drop (0:Int).toNat=(D.take i).map Ag:=by
 simp_all
theorem o9{x:List Rl}{roots:List Rq}{s:List Sl}:∀y∈(D4 x roots s).1,∃r,Bo x y=some r:=fun y hy=>by
 unfold D4 at hy;split at hy
 .cases hy
 .split at hy
  .rename_i h;obtain⟨v,hv,rfl⟩:=Ar.1 hy;exact⟨_,((JL h).mem v hv).2⟩
  simp_all
section
variable {x:List Rl}{roots:List Rq}{d:List (List Tm)}{D:List Sl}{K:List Sk}{n:Nat}
theorem iX(h:Gx x roots d D K D.length=some (K.drop n))(hn:K.length<=n):LD x roots d D K=true:=by
 grind [LD,List.drop_of_length_le]
theorem cL(h:Gx x roots d D K D.length=some (K.drop n))(hn:n<K.length):LD x roots d D K=false:=by
 grind [LD,List.drop_eq_getElem_cons]
theorem c50(x:List Rl)(ifs:List (List AV))(roots:List Rq)(a:An)(d:List (List Tm))(h0:Av x=0)(hx:∀r∈x,E4 r)(Kl:BL x)(hr:∀q∈roots,HP q)(Jh:roots.length<=1000000)(hs:a.sel.length<=100000)(hk:a.skips.length<=1000000)(xA:∀t∈d,PT t):PC 58 [.agg (Ic x ifs),sl Ac roots,.agg (EM a),sl Aq d] (vb (EF x roots a d)):=by
 have pz:=c44 x ifs roots a.sel hx Kl hr Jh hs;have hDl:=o6 (x:=x) (roots:=roots) (s:=a.sel);have hDm:=o9 (x:=x) (roots:=roots) (s:=a.sel);have Vj:∀q∈roots,BL q.set:=fun q hq=>(hr q hq).1;have hv:∀r∈x,BK r.ver=true:=fun r hr=>((BC h0).1 r hr).val;unfold gc at pz;obtain⟨D,hD⟩:∃D,D=(D4 x roots a.sel).1:=⟨_,rfl⟩;rw[<-hD]at pz hDl hDm;have hDv:∀y∈D,BK y.ver=true:=fun y hy=>by
  obtain⟨r,hr⟩:=hDm y hy;rw[<-(CH hr).2.2];exact hv r (CH hr).2.1
 refine Ps (pC [] [2,9,13,14,16,17,18,19]) Tryz.func58 rfl (Nz rfl) (yN (Xi .pure (Xi _ (Yi pz (cU [(1,sl Ac roots),(3,sl Aq d),(4,.ref 4 0),(6,.ref 6 0),(9,sl Ag D),(10,vi (D4 x roots a.sel).2)] [(4,.cells (Ic x ifs)),(6,.cells (EM a))] Z6 Z2 (Yi (fun h1=>?_) (fun h1=>?_)))))))
 .have h1:((D4 x roots a.sel).2:Int)≠(0:Int):=h1;exact .of_eq (Aa vb (show false=EF x roots a d by grind [EF]))
 have h1:((D4 x roots a.sel).2:Int)=(0:Int):=A9 h1;refine Xi {q:Nat×Nat // q.1<=D.length/\q.2<=a.skips.length/\Gx x roots d D a.skips q.1=some (a.skips.drop q.2)} (Xi (fun q=>⟨[(1,sl Ac roots),(3,sl Aq d),(4,.ref 4 0),(6,.ref 6 0),(9,sl Ag D),(11,vi q.1.2),(12,vi q.1.1)],[(4,.cells (Ic x ifs)),(6,.cells (EM a))],Ae⟩) (Xi (fun q=>D.length-q.1.1) (Yi (Xi ⟨(0,0),Ap _,Ap _,rfl⟩ ?_) ?_)))
 .exact⟨Z7,Z2,Fh,Tv⟩
 intro⟨⟨i,n⟩,i1,i2,i3⟩;have i1:i<=D.length:=i1;have i2:n<=a.skips.length:=i2;have i3:Gx x roots d D a.skips i=some (a.skips.drop n):=i3;refine Yi (fun h3=>?_) (fun h3=>?_)
 .have h3:(i:Int)<((D.map Ag).length:Int):=h3;have n3:i<D.length:=by simp_all
  have g3:D[i]?=some D[i]:=Ge n3;have ni:i<D.length:=by omega
  have ggi:D[i]?=some D[i]:=Ge ni;refine yN (Yi (show(0:Int)<=0/\(0:Int)<=i/\(i:Int)<=((D.map Ag).length:Nat) by omega) (Yi (Ir (enc:=Ag) (n:=4) (fun _=>rfl) D) (Xi (Ag D[i]) (Yi (Yi (Nn i) (Bk ggi)) (Yi rfl (Xi (Ag D[i]) (Yi (Yi (Nn i) (Bk ggi)) (Yi rfl (yN (Xi _ (Yi (show PC 76 [.agg (ES D[i].ver)] (vi (plc D[i].ver))from Lz (hDv _ (Ak ni))▸uX D[i].ver (hDv _ (Ak ni))) (Al (show ∃Lp,Lp=CZ x (Cb x roots (D.take i)) D[i].path (plc D[i].ver)from⟨_,rfl⟩) (fun Lp hLp=>?_)))))))))))));have AgU:Lp.length<=x.length:=by grind [Ww]
  refine Xi _ (Yi (show PC 109 [Il x ifs,sl Ac roots,.slice .none (((D.map Ag).take (i:Int).toNat).drop (0:Int).toNat),vs D[i].path,vi (plc D[i].ver)] (sl ER Lp)from by grind [y7,c94]) ?_);refine Yi aa3 (cU [(1,sl Ac roots),(3,sl Aq d),(4,.ref 4 0),(6,.ref 6 0),(9,sl Ag D),(11,vi n),(12,vi i),(13,sl ER Lp)] [(4,.cells (Ic x ifs)),(6,.cells (EM a))] Z8 Z2 (Xi {q:Nat×Nat // q.1<=Lp.length/\q.2<=a.skips.length/\Te x roots d D i (a.skips.drop n)=Nv d (D.take i) D[i].path (Gl x D[i].path) (Lp.drop q.1) (a.skips.drop q.2)} (Xi (fun q=>⟨[(1,sl Ac roots),(3,sl Aq d),(4,.ref 4 0),(6,.ref 6 0),(9,sl Ag D),(11,vi q.1.2),(12,vi i),(13,sl ER Lp),(14,vi q.1.1)],[(4,.cells (Ic x ifs)),(6,.cells (EM a))],Ae⟩) (Xi (fun q=>Lp.length-q.1.1) (Yi (Xi ⟨(0,n),Ap _,i2,by grind [pf]⟩ ?_) ?_)))))
  .exact⟨Z9,Z2,Fh,Tv⟩
  intro⟨⟨k,m⟩,k1,k2,k3⟩;have k1:k<=Lp.length:=k1;have k2:m<=a.skips.length:=k2;have k3:Te x roots d D i (a.skips.drop n)=Nv d (D.take i) D[i].path (Gl x D[i].path) (Lp.drop k) (a.skips.drop m):=k3;refine Yi (fun h4=>?_) (fun h4=>?_)
  .have h4:(k:Int)<((Lp.map ER).length:Int):=h4;have n4:k<Lp.length:=by simp_all
   have g4:Lp[k]?=some Lp[k]:=Ge n4;have nk:k<Lp.length:=by omega
   have ggk:Lp[k]?=some Lp[k]:=Ge nk;refine Yi (fun h5=>?_) (fun h5=>?_)
   .have h5:((a.skips.map AN).length:Int)<=(m:Int):=h5;refine cU [] [] Tv Tv ?_
    exact .of_eq (Aa vb (show false=EF x roots a d by grind [EF,HC,pg]))
   have h5:¬(((a.skips.map AN).length:Int)<=(m:Int)):=h5;have nm:m<a.skips.length:=by simp_all
   have ggm:a.skips[m]?=some a.skips[m]:=Ge nm;refine cU [(1,sl Ac roots),(3,sl Aq d),(4,.ref 4 0),(6,.ref 6 0),(9,sl Ag D),(11,vi m),(12,vi i),(13,sl ER Lp),(14,vi k)] [(4,.cells (Ic x ifs)),(6,.cells (EM a))] Z9 Z2 (Xi (AN a.skips[m]) (Yi (Yi (show(0:Int)<=m by omega) (Bk ggm)) (Yi rfl (yN (yN (Xi (Ag D[i]) (Yi (Yi (Nn i) (Bk ggi)) (Yi rfl (Yi (fun h8=>?_) (fun h8=>?_))))))))))
   .have h8:(a.skips[m].path:ByteArray)≠D[i].path:=h8;refine Yi aa3 (cU [] [] Tv Tv ?_)
    exact .of_eq (Aa vb (show false=EF x roots a d by grind [EF,HC,dw]))
   have h8:(a.skips[m].path:ByteArray)=D[i].path:=A9 h8;refine Xi (ER Lp[k]) (Yi (Yi (Nn k) (Bk ggk)) (Yi rfl (Yi (fun JR=>?_) (fun JR=>?_))))
   .have JR:(a.skips[m].place:Int)≠(Lp[k]:Int):=JR;refine Yi aa3 (cU [] [] Tv Tv ?_)
    exact .of_eq (Aa vb (show false=EF x roots a d by grind [EF,HC,dw]))
   have JR:(a.skips[m].place:Int)=(Lp[k]:Int):=A9 JR;refine Yi (fun N7=>?_) (fun N7=>?_)
   .have N7:(a.skips[m].inf:Int)<(0:Int):=N7;refine Yi aa3 (cU [] [] Tv Tv ?_)
    exact .of_eq (Aa vb (show false=EF x roots a d by grind [EF,HC,dx,Py]))
   have N7:¬((a.skips[m].inf:Int)<(0:Int)):=N7;refine Yi (fun N8=>?_) (fun N8=>?_)
   .have N8:((d.map Aq).length:Int)<=(a.skips[m].inf:Int):=N8;refine Yi aa3 (cU [] [] Tv Tv ?_)
    exact .of_eq (Aa vb (show false=EF x roots a d by grind [EF,HC,dx,Pw]))
   have N8:¬(((d.map Aq).length:Int)<=(a.skips[m].inf:Int)):=N8;have tC:¬((d.length:Nat):Int)<=a.skips[m].inf:=by simp_all
   refine Al (Px N7 tC) (fun ta bS=>?_);have hta:=bS.1;have tT:=bS.2.1;have pZ:=bS.2.2;refine Yi aa3 (cU [(1,sl Ac roots),(3,sl Aq d),(4,.ref 4 0),(6,.ref 6 0),(9,sl Ag D),(11,vi m),(12,vi i),(13,sl ER Lp),(14,vi k),(15,.ref 15 0)] [(4,.cells (Ic x ifs)),(6,.cells (EM a)),(15,.cells (AN a.skips[m]))] Z10 Z3 (Xi (Aq ta) (Yi (Yi (show(0:Int)<=a.skips[m].inf by omega) (Bk tT)) (Yi rfl (yN (Yi (show(0:Int)<=0/\(0:Int)<=i/\(i:Int)<=((D.map Ag).length:Nat) by omega) (Yi (Ir (enc:=Ag) (n:=4) (fun _=>rfl) D) (Xi _ (Yi (show PC 111 [Il x ifs,.slice .none (((D.map Ag).take (i:Int).toNat).drop (0:Int).toNat),vs a.skips[m].path,vi a.skips[m].place] (sl Ag (D.take i++[(⟨a.skips[m].path,Gl x a.skips[m].path a.skips[m].place⟩:Sl)]))from by grind [y7,c97]) ?_)))))))));refine AA (Bt (Bm ta (D.take i++[⟨a.skips[m].path,Gl x a.skips[m].path a.skips[m].place⟩]))) (fun Sg=>?_) (fun Sg=>?_)
   .have Sg:(Bm ta (D.take i++[⟨a.skips[m].path,Gl x a.skips[m].path a.skips[m].place⟩]))=true:=Sg;have lf:=c96 ta (D.take i++[⟨a.skips[m].path,Gl x a.skips[m].path a.skips[m].place⟩]) (xA ta pZ) (by unfold BL;rw[Ay,Cy,AO];omega);rw[show(Bm ta (D.take i++[⟨a.skips[m].path,Gl x a.skips[m].path a.skips[m].place⟩]))=true from Sg]at lf;refine Xi _ (Yi lf (Yi aa3 (cU [(1,sl Ac roots),(3,sl Aq d),(4,.ref 4 0),(6,.ref 6 0),(9,sl Ag D),(11,vi m),(12,vi i),(13,sl ER Lp),(14,vi k)] [(4,.cells (Ic x ifs)),(6,.cells (EM a))] Z9 Z2 (Yi (by grind [As]) (Yi (by grind [As]) ?_)))));have bI:Bm ta (D.take i++[⟨D[i].path,Gl x D[i].path Lp[k]⟩])=true:=by simp_all
    refine Xi ⟨(k+1,m+1),by omega,by omega,k3.trans (pj nk nm h8 JR hta bI)⟩ ?_;exact⟨by grind,Z9,Z2,Fh,Tv⟩
   have Sg:(Bm ta (D.take i++[⟨a.skips[m].path,Gl x a.skips[m].path a.skips[m].place⟩]))=false:=Sg;have YU:=c96 ta (D.take i++[⟨a.skips[m].path,Gl x a.skips[m].path a.skips[m].place⟩]) (xA ta pZ) (by unfold BL;rw[Ay,Cy,AO];omega);rw[show(Bm ta (D.take i++[⟨a.skips[m].path,Gl x a.skips[m].path a.skips[m].place⟩]))=false from Sg]at YU;refine Xi _ (Yi YU (Yi aa3 (cU [] [] Tv Tv ?_)))
   have bI:Bm ta (D.take i++[⟨D[i].path,Gl x D[i].path Lp[k]⟩])=false:=by simp_all
   exact .of_eq (Aa vb (show false=EF x roots a d by grind [EF,HC,pi]))
  have h4:¬((k:Int)<((Lp.map ER).length:Int)):=h4;have n4:¬k<Lp.length:=by simp_all
  refine Yi (by grind [As]) (Xi ⟨(i+1,m),by omega,k2,ah i3 (by grind [ph])⟩ ?_);exact⟨by grind,Z7,Z2,Fh,Tv⟩
 have h3:¬((i:Int)<((D.map Ag).length:Int)):=h3;have n3:¬i<D.length:=by simp_all
 refine Yi (fun Vf=>?_) (fun Vf=>?_)
 .have Vf:(n:Int)=((a.skips.map AN).length:Int):=Vf;rw[show i=D.length by omega]at i3;exact .of_eq (Aa vb (show true=EF x roots a d by grind [EF,iX]))
 have Vf:¬((n:Int)=((a.skips.map AN).length:Int)):=Vf;rw[show i=D.length by omega]at i3;exact .of_eq (Aa vb (show false=EF x roots a d by grind [EF,cL]))
end
section
variable {x:List Rl}{roots:List Rq}{a:An}
theorem bm(h:(AZ x roots a.infs).2=0)(hf:a.found=false):DW x roots a=if !a.sel.isEmpty||!a.skips.isEmpty||!EP (AZ x roots a.infs).1 then 18 else 0:=by
 grind [DW]
theorem oT(h:(AZ x roots a.infs).2=0)(hf:a.found=false)(hs:0<a.sel.length):DW x roots a=18:=by
 grind [bm]
theorem kb(h:(AZ x roots a.infs).2=0)(hf:a.found=false)(hs:0<a.skips.length):DW x roots a=18:=by
 grind [bm]
theorem oR(h:(AZ x roots a.infs).2=0)(hf:a.found=false)(hs:¬0<a.sel.length)(hk:¬0<a.skips.length):DW x roots a=Gk x roots a.infs:=by
 grind [bm,Gk]
theorem fV(h:(AZ x roots a.infs).2=0)(hf:a.found=true)(hs:Db x roots a.sel≠0):DW x roots a=18:=by
 grind [DW]
theorem Qf(h:(AZ x roots a.infs).2=0)(hf:a.found=true)(hs:Db x roots a.sel=0):DW x roots a=if(a.sel.all (Gu x)&&EF x roots a (AZ x roots a.infs).1)then 0 else 18:=by
 have h2:=aj (d:=(AZ x roots a.infs).1) (K:=a.skips) (Jq h).2.1 hs;unfold DW;rw[AI (Mf h),AI (by simp_all),AI (Mf hs),h2]
 rfl
theorem c22(x:List Rl)(ifs:List (List AV))(roots:List Rq)(a:An)(hx:∀r∈x,E4 r)(Kl:BL x)(hr:∀q∈roots,HP q)(Jh:roots.length<=1000000)(hs:a.sel.length<=256)(hk:a.skips.length<=1000000):PC 23 [.agg (Ic x ifs),sl Ac roots,.agg (EM a)] (vi (DW x roots a)):=by
 refine Ps (pC [] [2,6,7,9,10]) Tryz.func23 rfl (Nz rfl) (yN (Xi .pure (Xi _ (Yi (show PC 54 [Il x ifs,sl Ac roots,sl AG a.infs] (.tup [sl Aq (AZ x roots a.infs).1,vi (AZ x roots a.infs).2])from c13 x ifs roots a.infs hx hr) (cU [(1,sl Ac roots),(3,.ref 3 0),(5,.ref 5 0),(7,sl Aq (AZ x roots a.infs).1),(8,vi (AZ x roots a.infs).2)] [(3,.cells (Ic x ifs)),(5,.cells (EM a))] Z5 Z2 (Yi (fun h1=>?_) (fun h1=>?_)))))))
 .have h1:((AZ x roots a.infs).2:Int)≠(0:Int):=h1;exact .of_eq (Aa vi (show((AZ x roots a.infs).2:Int)=DW x roots a by grind [DW]))
 have h1:((AZ x roots a.infs).2:Int)=(0:Int):=A9 h1;refine Yi (fun h3=>?_) (fun h3=>?_)
 .have h3:a.found=true:=h3;refine yN (Xi .pure (Xi _ (Yi (c48 x ifs roots a.sel hx Kl (fun q hq=>(hr q hq).1) Jh hs) (Yi (fun h4=>?_) (fun h4=>?_)))))
  .have h4:(Db x roots a.sel:Int)≠(0:Int):=h4;refine cU [] [] Tv Tv ?_
   exact .of_eq (Aa vi (show(18:Int)=DW x roots a by grind [fV]))
  have h4:(Db x roots a.sel:Int)=(0:Int):=A9 h4;refine yN (AA (Bt (a.sel.all (Gu x))) (fun h6=>?_) (fun h6=>?_))
  .have h6:(a.sel.all (Gu x))=true:=h6;have rE:=(c49 x ifs a.sel hx Kl aa0);rw[show(a.sel.all (Gu x))=true from h6]at rE;refine Xi .pure (Xi _ (Yi rE (yN (yN (AA (Bt (EF x roots a (AZ x roots a.infs).1)) (fun h8=>?_) (fun h8=>?_))))))
   .have h8:(EF x roots a (AZ x roots a.infs).1)=true:=h8;have rF:=(c50 x ifs roots a (AZ x roots a.infs).1 (Jq h1).1 hx Kl hr Jh aa0 hk O3);rw[show(EF x roots a (AZ x roots a.infs).1)=true from h8]at rF;refine Xi .pure (Xi _ (Yi rF (cU [] [] Tv Tv ?_)))
    exact .of_eq (Aa vi (show(0:Int)=DW x roots a by grind [Qf]))
   have h8:(EF x roots a (AZ x roots a.infs).1)=false:=h8;have lc:=(c50 x ifs roots a (AZ x roots a.infs).1 (Jq h1).1 hx Kl hr Jh aa0 hk O3);rw[show(EF x roots a (AZ x roots a.infs).1)=false from h8]at lc;refine Xi .pure (Xi _ (Yi lc (cU [] [] Tv Tv ?_)))
   exact .of_eq (Aa vi (show(18:Int)=DW x roots a by grind [Qf]))
  have h6:(a.sel.all (Gu x))=false:=h6;have Pe:=(c49 x ifs a.sel hx Kl aa0);rw[show(a.sel.all (Gu x))=false from h6]at Pe;refine Xi .pure (Xi _ (Yi Pe (cU [] [] Tv Tv ?_)))
  exact .of_eq (Aa vi (show(18:Int)=DW x roots a by grind [Qf]))
 have h3:a.found=false:=h3;refine Yi (fun L7=>?_) (fun L7=>?_)
 .have L7:(0:Int)<((a.sel.map Ag).length:Int):=L7;have n15:0<a.sel.length:=by simp_all
  refine cU [] [] Tv Tv ?_
  exact .of_eq (Aa vi (show(18:Int)=DW x roots a by grind [oT]))
 have L7:¬((0:Int)<((a.sel.map Ag).length:Int)):=L7;have n15:¬0<a.sel.length:=by simp_all
 refine Yi (fun wP=>?_) (fun wP=>?_)
 .have wP:(0:Int)<((a.skips.map AN).length:Int):=wP;have n17:0<a.skips.length:=by simp_all
  refine cU [] [] Tv Tv ?_
  exact .of_eq (Aa vi (show(18:Int)=DW x roots a by grind [kb]))
 have wP:¬((0:Int)<((a.skips.map AN).length:Int)):=wP;have n17:¬0<a.skips.length:=by simp_all
 refine cU [(1,sl Ac roots),(3,.ref 3 0),(5,.ref 5 0)] [(3,.cells (Ic x ifs)),(5,.cells (EM a))] Z3 Z2 (yN (Xi .pure (Xi _ (Yi (c16 x ifs roots a.infs hx hr) ?_))));exact .of_eq (Aa vi (show(Gk x roots a.infs:Int)=DW x roots a by grind [oR]))
end
theorem dB{α:Type}{m:Nat}:∀{L:List (List α)},(∀l∈L,l.length<=m)->L.flatten.length<=L.length*m
 | [],_=>Ap _
 |l::L,h=>by
  rw[Cj,Ay,BF,Nat.succ_mul];have h1:=dB (L:=L) fun z hz=>h z (Ai _ hz);have h2:=h l (Ah ..);omega
structure c9(x:List Rl)(roots:List Rq)(A:An):Prop where
 right:DW x roots A=0
 sel:A.sel.length<=256
 skips:A.skips.length<=65536
 infs:A.infs.length<=65536
theorem jd{x:List Rl}{roots:List Rq}(hx:x.length<=16):FS x roots=1\/(FS x roots=0/\c9 x roots (Gy x roots)):=by
  cases hv:DY x roots with
  |false=>left;unfold FS;rw[hv];rfl
  |true=>
    right
    obtain⟨h0,h1⟩:=UX hv;have hf:=OB (roots:=roots) hx;refine⟨aq hv hx,?_⟩;have hr:=aS h0 h1 hf;rw[jc hv hx];refine⟨hr,?_,?_,?_⟩<;>clear hr
    all_goals
      have hR:=QS h0 h1;unfold fC;generalize EX x roots=o at hR hf;have hl:=hR.der.len
      by_cases bJ:o.found=true
      · rw[AX bJ]
        obtain⟨_,t,sl,y2,y3,y4,_⟩:=hR.yes bJ;have hd:=JU.ok (.nil x) (.nil roots) y4;have hdl:=OZ hd.1;obtain⟨c1,c2⟩:=Qe y4;rw[Ek]at y2 y3;have hm:sl.length*x.length<=16*16:=Nat.mul_le_mul (by rw[c1];rw[Ek]at hdl;omega) hx;have hs:=dB c2
        first
        |(show(C3 (Au o.dec)).length<=256;rw[(LH _).length_eq,y2];unfold Au;rw[Lm];rw[Ek]at hdl;omega)
        |(show o.stack.flatten.length<=65536;rw[y3];omega)
        |exact hl
      · rw[AI bJ]
        first
        |exact Ap _
        |(show(o.ss.infs.take (o.res+1)).length<=65536;rw[Cy];omega)
theorem cP{x:List Rl}{roots:List Rq}(h:(F6 x 16&&EC roots)=true):x.length<=16:=by
 simp only[Aj,F6,A8]at h;exact h.1.2
theorem y6(hL:nU x roots):PC 7 [Il x ifs,sl Ac roots] (vb true):=by
 have hx:=hL.x;have hr:=hL.rq;have h8:=s8;have h9:=hL.c11 ifs;have OG:=yY x ifs roots hx hr;obtain⟨A,hA⟩:∃A,A=Gy x roots:=⟨_,rfl⟩;obtain⟨e,he⟩:∃e,e=FS x roots:=⟨_,rfl⟩;rw[show XY x roots=.tup [.agg (EM (Gy x roots)),vi (FS x roots)]from rfl,<-hA,<-he]at OG;refine Ps (pC [2,5] [4,5,6,9,10]) Tryz.func7 rfl (Nz rfl) (Xi .pure (Xi _ (Yi h8 (yN (AA (Bt (F6 x 16&&EC roots)) (fun h1=>?_) (fun h1=>?_))))))
 .have h1:(F6 x 16&&EC roots)=true:=h1;have gN:=h1;have Kl:=cP gN;have Jh:=VW gN;have hS:=jd (roots:=roots) Kl;rw[<-hA,<-he]at hS;have hO:e=0->c9 x roots A:=fun c=>hS.elim (fun q=>absurd (q.symm.trans c) aa2) (fun q=>q.2);have Vf:c9 x roots A->PC 22 [Il x ifs,sl Ac roots,.agg (EM A)] (vi (DW x roots A)):=fun q=>c21 x ifs roots A (hL.c84 ifs) (hL.c45 ifs gN A.sel (Bl q.sel aa2)) hx hr (Bl q.sel aa2) (Bl q.skips aa2);have pv:c9 x roots A->PC 23 [Il x ifs,sl Ac roots,.agg (EM A)] (vi (DW x roots A)):=fun q=>c22 x ifs roots A hx hL.ix hr aa0 q.sel (Bl q.skips aa2);have Pf:=h9;rw[show(F6 x 16&&EC roots)=true from h1]at Pf;refine Xi .pure (Xi _ (Yi Pf (cU [(1,sl Ac roots),(2,.ref 2 0)] [(2,.ro (Ic x ifs))] Z2 Z1 (yN (Xi .pure (Xi _ (Yi OG (yN (cU [(1,sl Ac roots),(2,.ref 2 0),(5,.ref 5 0),(6,vi (e:Int))] [(2,.ro (Ic x ifs)),(5,.ro (EM A))] Z4 Z2 (Yi (fun h3=>?_) (fun h3=>?_)))))))))))
  .have h3:((e:Int):Int)≠(0:Int):=h3;refine Yi (fun h4=>?_) (fun h4=>?_)
   .have h4:((e:Int):Int)=(1:Int):=h4;exact .refl _
   have h4:¬(((e:Int):Int)=(1:Int)):=h4;exact absurd (hS.resolve_right fun c=>h3 c.1) h4
  have h3:((e:Int):Int)=(0:Int):=A9 h3;have e0:e=0:=h3;refine Yi (fun h7=>?_) (fun h7=>?_)
  .have h7:(3000:Int)<((A.infs.map AG).length:Int):=h7;have n7:3000<A.infs.length:=by have q:=h7;rw[Lm]at q;omega
   refine cU [(5,.ref 5 0)] [(5,.ro (EM A))] Z1 Z1 (Yi (fun h8=>?_) (fun h8=>?_))
   .have h8:((A.infs.map AG).length:Int)<=(65536:Int):=h8;exact .refl _
   have h8:¬(((A.infs.map AG).length:Int)<=(65536:Int)):=h8;exact absurd (by have q:=(hO e0).infs;rw[Lm];omega) h8
  have h7:¬((3000:Int)<((A.infs.map AG).length:Int)):=h7;have n7:¬3000<A.infs.length:=by have q:=h7;rw[Lm]at q;omega
  refine cU [(1,sl Ac roots),(2,.ref 2 0),(5,.ref 5 0)] [(2,.ro (Ic x ifs)),(5,.ro (EM A))] Z3 Z2 (yN (yN (Xi .pure (Xi _ (Yi (Vf (hO e0)) (Yi (fun Jr=>?_) (fun Jr=>?_)))))))
  .have Jr:((DW x roots A):Int)=(0:Int):=Jr;refine yN (yN (Xi .pure (Xi _ (Yi (pv (hO e0)) (Yi (fun _=>?_) (fun hf=>absurd Jr hf))))));exact .refl _
  have Jr:¬(((DW x roots A):Int)=(0:Int)):=Jr;exact absurd (hO e0).right Jr
 have h1:(F6 x 16&&EC roots)=false:=h1;have TL:=h9;rw[show(F6 x 16&&EC roots)=false from h1]at TL;refine Xi .pure (Xi _ (Yi TL (cU [] [] Tv Tv ?_)))
 exact .refl _
end Go.Eng
