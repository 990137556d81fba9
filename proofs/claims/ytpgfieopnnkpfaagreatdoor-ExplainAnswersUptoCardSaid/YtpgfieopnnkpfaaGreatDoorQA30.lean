/- Lemmas 30. -/
import Derived.Test.YtpgfieopnnkpfaaGreatDoorQA29
set_option maxHeartbeats 4000000
namespace Go.Eng
open Go.Proofs
variable {l:List Rl}{i j:Nat}(x:List Rl)(roots:List Rq)(a:An)(d:List (List Tm))(D:List Sl)(K:List Sk)
theorem PL{l:List Rl}:∀{n:Nat} {t:List Rq} {d:List ByteArray},t.length+Mb d l+1<=n->(∀p∈d,∀q∈EL l p,q.path∈d\/∃u∈t,u.path=q.path) ->
  (∀p∈d,p∈ER l n t d)/\(∀u∈t,u.path∈ER l n t d)/\∀p∈ER l n t d,∀q∈EL l p,q.path∈ER l n t d
 |0,_,_,h,_=>by omega
 |n+1,[],d,_,hc=>by
  grind [ER]
 |n+1,q::t,d,h,hc=>by
  simp only[Av]at h;cases hq:d.any (fun p=>decide (p=q.path))with
  |true=>
   have e:ER l (n+1) (q::t) d=ER l n t d:=by show(if _ then _ else _)=_;simp_all
   rw[e];have hm:=IH.1 hq;obtain⟨i1,i2,i3⟩:=PL (l:=l) (n:=n) (t:=t) (d:=d) aa0 (fun p hp u hu=>by
    rcases hc p hp u hu with h | ⟨v,hv,ev⟩
    .exact .inl h
    .rcases AN.1 hv with hv | hv
     .exact .inl (by rw[<-ev,hv];exact hm)
     .exact .inr ⟨v,hv,ev⟩)
   exact⟨i1,fun u hu=>(AN.1 hu).elim (fun eu=>by rw[eu];exact i1 _ hm) (i2 u),i3⟩
  |false=>
   have e:ER l (n+1) (q::t) d=ER l n (t++EL l q.path) (d++[q.path]):=by show(if _ then _ else _)=_;grind
   rw[e];have hp:=PT d q.path hq l;obtain⟨i1,i2,i3⟩:=PL (l:=l) (n:=n) (t:=t++EL l q.path) (d:=d++[q.path]) (by rw[As];omega) (fun p hp u hu=>by
    rcases Bz.1 hp with hp | hp
    .rcases hc p hp u hu with h | ⟨v,hv,ev⟩
     .exact .inl (Bh _ h)
     .rcases AN.1 hv with hv | hv
      .exact .inl (by rw[<-ev,hv];simp)
      .exact .inr ⟨v,Bh _ hv,ev⟩
    .rw[A9.1 hp]at hu;exact .inr ⟨u,Bj _ hu,rfl⟩)
   exact⟨fun p hp=>i1 p (Bh _ hp),fun u hu=>(AN.1 hu).elim (fun eu=>by rw[eu];exact i1 _ aa1) (fun hu=>i2 u (Bh _ hu)),i3⟩
abbrev Km(l:List Rl)(roots:List Rq):List ByteArray:=ER l (GW l roots) roots []
theorem bw(hn:(l.map (·.path)).Nodup){r:Rl}(hr:r∈l):EL l r.path=r.reqs:=by unfold EL;rw[Hb hn hr]
theorem fE{roots:List Rq}(hn:(l.map (·.path)).Nodup):sn l roots (Km l roots):=by
 obtain⟨_,h2,h3⟩:=PL (l:=l) (n:=GW l roots) (t:=roots) (d:=[]) (by grind [Ti,GW]) (fun p hp=>by cases hp);exact⟨h2,fun r hr hp q hq=>h3 _ hp q (by grind [bw])⟩
theorem U7{roots:List Rq}(D:List ByteArray)(h1:∀q∈roots,q.path∈D)(h2:∀r∈l,r.path∈D->∀q∈r.reqs,q.path∈D):∀p∈Km l roots,p∈D:=
 MF h2 h1 fun p hp=>by cases hp
theorem Vn(x:List Rl)(y:Sl):∀a:List Sl,Fy x (a++[y])=match Fy x a with | none=>none | some l=>match Bl x y with | none=>none | some r=>some (l++[r])
 | []=>by
  grind [Fy]
 |z::a=>by
  show(match Bl x z with | none=>none | some r=>match Fy x (a++[y])with | none=>none | some l=>some (r::l))=match(match Bl x z with | none=>none | some r=>match Fy x a with | none=>none | some l=>some (r::l))with | none=>none | some l=>match Bl x y with | none=>none | some r=>some (l++[r])
  rw[Vn x y a];cases Bl x z<;>grind
theorem gp{a:List Sl}(h:Fy x a=none):∀b:List Sl,Fy x (a++b)=none:=by
 induction a<;>grind [Fy]
section
variable {x l:List Rl}{roots:List Rq}{s:List Sl}
theorem Zk{A:List Rl}(hi:i<s.length)(h:Fy x (s.take i)=some A):Fy x (s.take (i+1))=match Bl x s[i]with | none=>none | some r=>some (A++[r]):=by
 grind [List.take_add_one,Vn]
theorem lC{A:List Rl}(hi:i<s.length)(h:Fy x (s.take i)=some A)(hn:Bl x s[i]=none):Fy x s=none:=by
 have h1:=Zk hi h
 grind [gp,List.take_append_drop]
theorem Tw(hn:(l.map (·.path)).Nodup)(hs:l.map Cn=s)(hv:∀r∈l,Bo r.ver=true)(q:Rq):Q3 q s=!B4 l q:=by
 have e:Q3 q s=l.any fun r=>decide (r.path=q.path)&&has q.set (plc r.ver):=by
  unfold Q3;rw[<-hs,List.any_map];rw[Gn,BQ,BQ];constructor<;>rintro⟨r,hr,h⟩<;>refine⟨r,hr,?_⟩
  .rw[<-KV (hv r hr)];exact h
  .show(decide (r.path=q.path)&&has q.set (place r.ver))=true
   grind [KV]
 grind [B4,List.mem_of_find?_eq_some,Hb]
theorem ZX:∀{m:List Rl} {b:Option Rl},BS b m=0->∀r∈m,Cz r=0
 | [],_,_,_,h=>by cases h
 |a::m,b,h,r,hr=>by
  unfold BS at h;split at h
  .omega
  .rename_i h1;rcases AN.1 hr with rfl | hr
   .omega
   .cases b with
    |none=>exact ZX h r hr
    |some c=>
     have h:(if Cn c=Cn a then(5:Int)else if 0<If c a then 1 else BS (some a) m)=0:=h;split at h
     .cases h
     .split at h
      .cases h
      .exact ZX h r hr
theorem qA{r:Rl}(hr:r∈x)(h:AD x=0):Cz r=0:=by
 grind [AD,ZX]
theorem r6(h0:AD x=0)(hi:Bb s=true)(h:Fy x s=some l)(hl:s.length<=256):AD l=0:=by
 obtain⟨h1,h2,_⟩:=Gj h;have hx:=(D0 h0).1;have Cy:l.length=s.length:=by grind
 have hm:∀r∈l,Cz r=0:=fun r hr=>qA ((Cs (h2 r hr)).2.1) h0;unfold AD;rw[Aw aa0];have hp:=(Jb hi).1;rw[<-h1]at hp;have hp:l.Pairwise fun a b=>G1 a.path b.path=true:=List.pairwise_map.1 hp;have gen:∀(l:List Rl) (b:Option Rl),(∀r∈l,Cz r=0)->l.Pairwise (fun a b=>G1 a.path b.path=true)->(∀c,b=some c->∀r∈l,G1 c.path r.path=true)->BS b l=0:=by
  intro l
  induction l with
  |nil=>intro _ _ _ _;rfl
  |cons r l ih=>
   intro b hm hp hb;obtain⟨p1,p2⟩:=Hk.1 hp;have ih:=ih (some r) (fun r hr=>hm r (At _ hr)) p2 (fun c e=>by cases e;exact p1);unfold BS;rw[Aw (by rw[hm r (Ai ..)];decide)];cases b with
   |none=>exact ih
   |some c=>
    have hc:=hb c rfl r (Ai ..);show(if Cn c=Cn r then(5:Int)else if 0<If c r then 1 else BS (some r) l)=0;rw[Aw (fun e=>RH hc (Aa Sl.path e)),Aw (by
     unfold If KD;rw[AE hc,AE aa2];decide)]
    exact ih
 simp_all
theorem TE(h0:AD x=0)(hi:Bb s=true)(h:Fy x s=some l):CO x roots s=if l.any (fun r=>r.reqs.any (B4 l))then 17 else if roots.any (B4 l)then 17 else if(Km l roots).length<l.length then 8 else 0:=by
 grind [CO]
def Gs(roots:List Rq)(l:List Rl):List Rq:=roots++(l.map (·.reqs)).flatten
theorem I3{q:Rq}:q∈Gs roots l↔q∈roots\/∃r∈l,q∈r.reqs:=by
 grind [Gs]
theorem gz(h0:AD x=0)(hi:Bb s=true)(h:Fy x s=some l){q:Rq}(hq:q∈Gs roots l)(hb:B4 l q=true):CO x roots s=17:=by
 rw[TE h0 hi h]
 grind [I3]
theorem TC(h0:AD x=0)(hi:Bb s=true)(h:Fy x s=some l)(hb:∀q∈Gs roots l,B4 l q=false):CO x roots s=if(Km l roots).length<l.length then 8 else 0:=by
 rw[TE h0 hi h,Aw,Aw]
 all_goals grind [I3]
theorem O8{q:Rq}(h:B4 l q=false):∃r∈l,r.path=q.path/\has q.set (plc r.ver)=true:=by
 grind [B4]
theorem gj(hn:(l.map (·.path)).Nodup)(hb:∀q∈Gs roots l,B4 l q=false):((l.filter fun r=>S5 (Km l roots) r.path).map Cn).length=(Km l roots).length:=by
 rw[Lm,<-Lm (f:=fun r:Rl=>r.path)];have hs:∀p∈Km l roots,p∈l.map (·.path):=U7 _ (fun q hq=>by
   obtain⟨r,hr,e,_⟩:=O8 (hb q (I3.2 (.inl hq)))<;>grind)
  (fun r hr _ q hq=>by
   obtain⟨r2,rk,e,_⟩:=O8 (hb q (I3.2 (.inr ⟨r,hr,hq⟩)))<;>grind)
 have sM:((l.filter fun r=>S5 (Km l roots) r.path).map (·.path)).Nodup:=List.Nodup.sublist (List.Sublist.map _ List.filter_sublist) hn;have hnc:(Km l roots).Nodup:=JL .nil;refine Nat.le_antisymm (DJ sM fun p hp=>?_) (DJ hnc fun p hp=>?_)
 .obtain⟨r,hr,rfl⟩:=Ay.1 hp;exact IH.1 (DF.1 hr).2
 .obtain⟨r,hr,e⟩:=Ay.1 (hs p hp);exact Ay.2 ⟨r,DF.2 ⟨hr,IH.2 (e▸hp)⟩,e⟩
theorem uz(hn:(l.map (·.path)).Nodup)(hb:∀q∈Gs roots l,B4 l q=false):∀q,q∈roots\/(∃r∈l,q∈r.reqs)->∀r∈l,q.path=r.path->has q.set (plc r.ver)=true:=fun q hq r hr e=>by
 obtain⟨r2,rk,e2,h⟩:=O8 (hb q (I3.2 hq));have h1:=Hb hn hr;have h2:=Hb hn rk;simp_all
theorem qF(hb:∀q∈Gs roots l,B4 l q=false):∀q,q∈roots\/(∃r∈l,q∈r.reqs)->∃r∈l,r.path=q.path:=fun q hq=>by
 obtain⟨r,hr,e,_⟩:=O8 (hb q (I3.2 hq))<;>grind
end
theorem du(h:j<l.length):Gs roots (l.take (j+1))=Gs roots (l.take j)++l[j].reqs:=by
 grind [Gs,List.take_add_one]
theorem hJ:∀l:List Rl,(∀r∈l,r.reqs.length<=16)->(Gs roots l).length<=roots.length+16*l.length:=fun l h=>by
 grind [X6,Gs]
theorem c48(ifs:List (List AV))(roots:List Rq)(s:List Sl)(hx:∀r∈x,F3 r)(Mw:BB x)(UQ:∀q∈roots,BB q.set)(GH:roots.length<=1000000)(hs:s.length<=256):PC 134 [.agg (Ic x ifs),sl Ad roots,sl Ae s] (vi (CO x roots s)):=by
 have Pn:∀(p:ByteArray) (v:Ver),PC 202 [Jx x ifs,vs p,.agg (Dt v)] (Hf (Bl x ⟨p,v⟩)):=fun p v=>wE x ifs p v hx Mw;have Xh:BB s:=by omega
 refine Ps (pC [] [2,3,6,8,14,16,18,20,22,23]) Tryz.func134 rfl (Nz rfl) (yN (Xi .pure (Xi _ (Yi (sq x ifs hx) (Yi (fun h1=>?_) (fun h1=>?_))))))
 .have h1:(AD x:Int)≠(0:Int):=h1;refine cU [] [] Tv Tv ?_
  exact .of_eq (Aa vi (show(1:Int)=CO x roots s by grind [CO]))
 have h1:(AD x:Int)=(0:Int):=AQ h1;refine AG (Bt (Bb s)) (fun h3=>?_) (fun h3=>?_)
 .have h3:(Bb s)=true:=h3;have cr:=(wD s Xh);rw[show Bb s=true from h3]at cr;refine Xi .pure (Xi _ (Yi cr (cU [(1,sl Ad roots),(2,sl Ae s),(3,.ref 3 0)] [(3,.cells (Ic x ifs))] Z3 Z1 (Xi {q:Nat×List Rl // q.1<=s.length/\Fy x (s.take q.1)=some q.2} (Xi (fun q=>⟨[(1,sl Ad roots),(2,sl Ae s),(3,.ref 3 0),(7,.slice (.id 22 9) (q.1.2.map Ak)),(8,vi q.1.1)],[(3,.cells (Ic x ifs)),(22,.tok 9 q.1.2.length)],Af⟩) (Xi (fun q=>s.length-q.1.1) (Yi (Xi ⟨(0,[]),Ao _,rfl⟩ ?_) ?_)))))))
  .exact⟨Z5,Z2,Fh,Tv⟩
  intro⟨⟨i,A⟩,i1,i2⟩;have i1:i<=s.length:=i1;have i2:Fy x (s.take i)=some A:=i2;have hA:A.length=i:=by
   have q:=Aa List.length (Gj i2).1;simp_all
  refine Yi (fun h5=>?_) (fun h5=>?_)
  .have h5:(i:Int)<((s.map Ae).length:Int):=h5;have n5:i<s.length:=by simp_all
   have g5:s[i]?=some s[i]:=Ge n5;refine yN (Xi (Ae s[i]) (Yi (Yi (Nn i) (AM g5)) (Yi rfl (Xi (Ae s[i]) (Yi (Yi (Nn i) (AM g5)) (Yi rfl (yN (AG (CU (Bl x ⟨s[i].path,s[i].ver⟩)) (fun h6=>?_) (fun h6=>?_)))))))))
   .refine Am h6 (fun r h6=>?_);have UN:=Pn s[i].path s[i].ver;rw[h6]at UN;refine Xi _ (Yi UN (yN (Yi aa3 (cU [(1,sl Ad roots),(2,sl Ae s),(3,.ref 3 0),(7,.slice (.id 22 9) (A.map Ak)),(8,vi i),(9,.ref 9 0),(10,vb true)] [(3,.cells (Ic x ifs)),(9,.cells (Ak r)),(22,.tok 9 A.length)] Z7 Z3 (yN ?_)))));have b7:AZ 9 [(Ak r)]/\(A.map Ak).length=A.length/\((A.map Ak).length+([(Ak r)]:List (List AV)).length)*120<=140737488355328/\(A.map Ak).length+([(Ak r)]:List (List AV)).length<=9223372036854775807:=⟨⟨rfl,trivial⟩,(by simp_all),(by grind),(by grind)⟩;refine Yi b7 (cU [(1,sl Ad roots),(2,sl Ae s),(3,.ref 3 0),(7,.slice (.id 22 9) ((A.map Ak)++[(Ak r)])),(8,vi i)] [(3,.cells (Ic x ifs)),(22,.tok 9 ((A.map Ak).length+([(Ak r)]:List (List AV)).length))] Z5 Z2 (Yi (by grind [Al]) (Xi ⟨(i+1,(A++[r])),by omega,by show Fy x (s.take (i+1))=_;rw[Zk n5 i2,show Bl x s[i]=some r from h6]⟩ ?_)));exact⟨by grind,⟨Zr,Zr,Zr,⟨(show AV.slice (.id 22 9) (A.map Ak++[Ak r])=.slice (.id 22 9) ((A++[r]).map Ak) by simp),rfl⟩,Zr,Tv⟩,⟨Zr,⟨(show HO.tok 9 ((A.map Ak).length+([Ak r]:List (List AV)).length)=.tok 9 (A++[r]).length by simp),rfl⟩,Tv⟩,Fh,Tv⟩
   have UN:=Pn s[i].path s[i].ver;rw[h6]at UN;refine Xi _ (Yi UN (yN (Yi aa3 (cU [(1,sl Ad roots),(2,sl Ae s),(3,.ref 3 0),(7,.slice (.id 22 9) (A.map Ak)),(8,vi i),(9,.ref 9 0),(10,vb false)] [(3,.cells (Ic x ifs)),(9,.cells [vs ⟨#[]⟩,vi 0,vi 0,vi 0,nzA,vs ⟨#[]⟩,vs ⟨#[]⟩,vs ⟨#[]⟩,vb false]),(22,.tok 9 A.length)] Z7 Z3 ?_))))
   exact .of_eq (Aa vi (show(6:Int)=CO x roots s by grind [CO,lC,Bl]))
  have h5:¬((i:Int)<((s.map Ae).length:Int)):=h5;have n5:¬i<s.length:=by simp_all
  rw[AK aa0]at i2;have h0:AD x=0:=h1;have hi:Bb s=true:=h3;have Xj:=(Gj i2).1;have y7:∀r∈A,r∈x:=fun r hr=>(Cs ((Gj i2).2.1 r hr)).2.1;have vv:∀r∈A,r.reqs.length<=16:=fun r hr=>(Fs h0).2 r (y7 r hr);have wL:=Vo hi i2;have hAv:∀r∈A,Bo r.ver=true:=fun r hr=>((D0 h0).1 r (y7 r hr)).val;have hsv:∀y∈s,Bo y.ver=true:=fun y hy=>by
   rw[<-Xj]at hy;obtain⟨r,hr,rfl⟩:=Ay.1 hy;exact hAv r hr
  have Xd:AZ 2 (roots.map Ad)/\([]:List (List AV)).length=0/\(([]:List (List AV)).length+(roots.map Ad).length)*40<=140737488355328/\([]:List (List AV)).length+(roots.map Ad).length<=9223372036854775807:=⟨(CE (enc:=Ad) (n:=2) (fun _=>rfl) roots),aa1,(by grind),(by grind)⟩;refine Yi Xd (Xi {j:Nat // j<=A.length} (Xi (fun q=>⟨[(1,sl Ad roots),(2,sl Ae s),(7,.slice (.id 22 9) (A.map Ak)),(11,.slice (.id 50 2) ((Gs roots (A.take q.1)).map Ad)),(12,vi q.1)],[(22,.tok 9 A.length),(50,.tok 2 (Gs roots (A.take q.1)).length)],Af⟩) (Xi (fun q=>A.length-q.1) (Yi (Xi ⟨0,Ao _⟩ ?_) ?_))))
  .exact⟨⟨Zr,Zr,Zr,⟨(show AV.slice (.id 50 2) ([]++roots.map Ad)=.slice (.id 50 2) ((Gs roots (A.take 0)).map Ad) by grind [Gs]),rfl⟩,Zr,Tv⟩,⟨Zr,⟨(show HO.tok 2 (([]:List (List AV)).length+(roots.map Ad).length)=.tok 2 (Gs roots (A.take 0)).length by grind [Gs]),rfl⟩,Tv⟩,Fh,Tv⟩
  intro⟨j,j1⟩;have j1:j<=A.length:=j1;have hal:=hJ roots (A.take j) (fun r hr=>vv r (CV hr));rw[AC]at hal;refine Yi (fun Hd=>?_) (fun Hd=>?_)
  .have Hd:(j:Int)<((A.map Ak).length:Int):=Hd;have n11:j<A.length:=by simp_all
   have g11:A[j]?=some A[j]:=Ge n11;have hrj:=vv A[j] (Ah n11);refine Xi (Ak A[j]) (Yi (Yi (Nn j) (AM g11)) (Yi rfl ?_));have so:AZ 2 (A[j].reqs.map Ad)/\((Gs roots (A.take j)).map Ad).length=(Gs roots (A.take j)).length/\(((Gs roots (A.take j)).map Ad).length+(A[j].reqs.map Ad).length)*40<=140737488355328/\((Gs roots (A.take j)).map Ad).length+(A[j].reqs.map Ad).length<=9223372036854775807:=⟨(CE (enc:=Ad) (n:=2) (fun _=>rfl) A[j].reqs),(by simp_all),(by grind),(by grind)⟩;refine Yi so (cU [(1,sl Ad roots),(2,sl Ae s),(7,.slice (.id 22 9) (A.map Ak)),(11,.slice (.id 50 2) (((Gs roots (A.take j)).map Ad)++(A[j].reqs.map Ad))),(12,vi j)] [(22,.tok 9 A.length),(50,.tok 2 (((Gs roots (A.take j)).map Ad).length+(A[j].reqs.map Ad).length))] Z5 Z2 (Yi (by grind [Al]) ?_));have es:Gs roots (A.take (j+1))=Gs roots (A.take j)++A[j].reqs:=du roots n11;refine Xi ⟨j+1,by omega⟩ ?_;exact⟨by grind,⟨Zr,Zr,Zr,⟨(show AV.slice (.id 50 2) ((Gs roots (A.take j)).map Ad++A[j].reqs.map Ad)=.slice (.id 50 2) ((Gs roots (A.take (j+1))).map Ad) by simp_all),rfl⟩,Zr,Tv⟩,⟨Zr,⟨(show HO.tok 2 (((Gs roots (A.take j)).map Ad).length+(A[j].reqs.map Ad).length)=.tok 2 (Gs roots (A.take (j+1))).length by simp_all),rfl⟩,Tv⟩,Fh,Tv⟩
  have Hd:¬((j:Int)<((A.map Ak).length:Int)):=Hd;have n11:¬j<A.length:=by simp_all
  rw[AK aa0]at hal;refine Am (show ∃Q,Q=Gs roots A from⟨_,rfl⟩) (fun Q hQ=>?_);have hQl:Q.length<=1100000:=by
   grind
  have hQf:∀q∈Q,BB q.set:=fun q hq=>by
   grind [I3]
  refine cU [(1,sl Ad roots),(2,sl Ae s),(7,.slice (.id 22 9) (A.map Ak)),(11,.slice (.id 50 2) (Q.map Ad))] [(22,.tok 9 A.length),(50,.tok 2 Q.length)] ⟨Zr,Zr,Zr,⟨(show AV.slice (.id 50 2) ((Gs roots (A.take j)).map Ad)=.slice (.id 50 2) (Q.map Ad) by grind),rfl⟩,Tv⟩ ⟨Zr,⟨(show HO.tok 2 (Gs roots (A.take j)).length=.tok 2 Q.length by grind),rfl⟩,Tv⟩ ?_
  refine Xi {k:Nat // k<=Q.length/\∀m (h:m<Q.length),m<k->Q3 Q[m] s=true} (Xi (fun q=>⟨[(1,sl Ad roots),(2,sl Ae s),(7,.slice (.id 22 9) (A.map Ak)),(11,.slice (.id 50 2) (Q.map Ad)),(13,vi q.1)],[(22,.tok 9 A.length),(50,.tok 2 Q.length)],Af⟩) (Xi (fun q=>Q.length-q.1) (Yi (Xi ⟨0,Ao _,fun m _ h=>by omega⟩ ?_) ?_)))
  .exact⟨Z5,Z2,Fh,Tv⟩
  intro⟨k,k1,k2⟩;refine Yi (fun Su=>?_) (fun Su=>?_)
  .have Su:(k:Int)<((Q.map Ad).length:Int):=Su;have n14:k<Q.length:=by simp_all
   have g14:Q[k]?=some Q[k]:=Ge n14;refine Xi (Ad Q[k]) (Yi (Yi (Nn k) (AM g14)) (Yi rfl (yN (AG (Bt (Q3 Q[k] s)) (fun Js=>?_) (fun Js=>?_)))))
   .have Js:(Q3 Q[k] s)=true:=Js;have jA:=c92 Q[k] s (hQf _ (Ah n14)) Xh hsv;rw[show(Q3 Q[k] s)=true from Js]at jA;refine Xi .pure (Xi _ (Yi jA (cU [(1,sl Ad roots),(2,sl Ae s),(7,.slice (.id 22 9) (A.map Ak)),(11,.slice (.id 50 2) (Q.map Ad)),(13,vi k)] [(22,.tok 9 A.length),(50,.tok 2 Q.length)] Z5 Z2 (Yi (by grind [Al]) (Xi ⟨k+1,by omega,fun m hm hmk=>(Dq m k).elim (k2 m hm) (fun z=>by grind)⟩ ?_)))));exact⟨by grind,Z5,Z2,Fh,Tv⟩
   have Js:(Q3 Q[k] s)=false:=Js;have uE:=c92 Q[k] s (hQf _ (Ah n14)) Xh hsv;rw[show(Q3 Q[k] s)=false from Js]at uE;refine Xi .pure (Xi _ (Yi uE (cU [] [] Tv Tv ?_)))
   have pL:Q[k]∈Gs roots A:=by simp_all
   have hbk:B4 A Q[k]=true:=by
    grind [Tw]
   exact .of_eq (Aa vi (show(17:Int)=CO x roots s by grind [gz]))
  have Su:¬((k:Int)<((Q.map Ad).length:Int)):=Su;have n14:¬k<Q.length:=by simp_all
  have hb:∀q∈Gs roots A,B4 A q=false:=fun q hq=>by
   grind [List.getElem_of_mem,Tw]
  have y6:=r6 h0 hi i2 aa0;have Cy:=gj wL hb;have hmn:(Km A roots).length<=A.length:=by
   grind
  have h93:=(c93 A [] roots (Km A roots) (fE wL) (fun D a b=>U7 D a b) (uz wL hb) wL (qF hb) y6 (fun r hr=>hx r (y7 r hr)) UQ GH).args (args':=[.agg [sl Ak A,nzA],sl Ad roots]) ⟨DC.agg ⟨.refl _,.nil,trivial⟩,.refl _,trivial⟩;refine Xi .pure (Xi _ (Yi h93 (Yi (fun Yd=>?_) (fun Yd=>?_))))
  .have Yd:((((A.filter fun r=>S5 (Km A roots) r.path).map Cn).map Ae).length:Int)≠((s.map Ae).length:Int):=Yd;refine cU [] [] Tv Tv ?_
   have hq:=Yd;rw[Lm,Cy,Lm]at hq;exact .of_eq (Aa vi (show(8:Int)=CO x roots s by grind [TC]))
  have Yd:((((A.filter fun r=>S5 (Km A roots) r.path).map Cn).map Ae).length:Int)=((s.map Ae).length:Int):=AQ Yd;refine cU [] [] Tv Tv ?_
  have hq:=Yd;rw[Lm,Cy,Lm]at hq;exact .of_eq (Aa vi (show(0:Int)=CO x roots s by grind [TC]))
 have h3:(Bb s)=false:=h3;have jD:=(wD s Xh);rw[show Bb s=false from h3]at jD;refine Xi .pure (Xi _ (Yi jD (cU [] [] Tv Tv ?_)))
 exact .of_eq (Aa vi (show(1:Int)=CO x roots s by grind [CO]))
def MV(d:List (List Tm))(b:List Sl)(p:ByteArray)(va:Int->Ver):List Int->List Sk->Option (List Sk)
 | [],K=>some K
 |_::_,[]=>none
 |pl::ps,y::K=>if y.path=p/\y.place=pl then match Di d y.inf with
   |none=>none
   |some t=>if CN t (b++[⟨p,va pl⟩])then MV d b p va ps K else none
  else none
def RX(i:Nat)(K:List Sk):Option (List Sk):=match D[i]? with
 |none=>none
 |some y=>MV d (D.take i) y.path (FX x y.path) (CJ x (BW x roots (D.take i)) y.path (plc y.ver)) K
def F9(x:List Rl)(roots:List Rq)(d:List (List Tm))(D:List Sl)(K:List Sk):Nat->Option (List Sk)
 |0=>some K
 |i+1=>(F9 x roots d D K i).bind (RX x roots d D i)
def KY:Bool:=match F9 x roots d D K D.length with | some []=>true | _=>false
def En:Bool:=decide ((Ce x roots a.sel).2=0)&&KY x roots d (Ce x roots a.sel).1 a.skips
section
variable {x:List Rl}{roots:List Rq}{d:List (List Tm)}{D:List Sl}{K:List Sk}
theorem Zh(h:F9 x roots d D K j=none):∀m,j<=m->F9 x roots d D K m=none:=by
 intro m hm
 induction m<;>grind [F9]
theorem Hg(hi:i<D.length){K' : List Sk}(h:F9 x roots d D K i=some K')(he:RX x roots d D i K'=none):KY x roots d D K=false:=by
 have h1:F9 x roots d D K (i+1)=none:=by grind [F9]
 grind [KY,Zh]
theorem Zg{K' K2:List Sk}(h:F9 x roots d D K i=some K')(he:RX x roots d D i K'=some K2):F9 x roots d D K (i+1)=some K2:=by
 grind [F9]
theorem m6(hi:i<D.length)(K:List Sk):RX x roots d D i K=MV d (D.take i) D[i].path (FX x D[i].path) (CJ x (BW x roots (D.take i)) D[i].path (plc D[i].ver)) K:=by
 grind [RX]
end
section
variable {d:List (List Tm)}{b:List Sl}{p:ByteArray}{va:Int->Ver}{L:List Int}{k:Nat}{K:List Sk}{m:Nat}
theorem m8(hk:L.length<=k):MV d b p va (L.drop k) K=some K:=by rw[Fw hk];rfl
theorem m7(hk:k<L.length)(hm:K.length<=m):MV d b p va (L.drop k) (K.drop m)=none:=by
 rw[Bd hk,Fw hm];rfl
theorem ca(hk:k<L.length)(hm:m<K.length)(h:¬(K[m].path=p/\K[m].place=L[k])):MV d b p va (L.drop k) (K.drop m)=none:=by
 rw[Bd hk,Bd hm];show(if _ then _ else none)=none;simp_all
theorem cc(hk:k<L.length)(hm:m<K.length)(h:Di d K[m].inf=none):MV d b p va (L.drop k) (K.drop m)=none:=by
 rw[Bd hk,Bd hm];show(if _ then(match Di d K[m].inf with | none=>none | some t=>_)else none)=none;simp_all
theorem m9{t:List Tm}(hk:k<L.length)(hm:m<K.length)(h:Di d K[m].inf=some t)(he:CN t (b++[(⟨p,va L[k]⟩:Sl)])=false):MV d b p va (L.drop k) (K.drop m)=none:=by
 rw[Bd hk,Bd hm];show(if _ then(match Di d K[m].inf with | none=>none | some t=>if CN t (b++[(⟨p,va L[k]⟩:Sl)])then _ else none)else none)=none;simp_all
theorem na{t:List Tm}(hk:k<L.length)(hm:m<K.length)(h1:K[m].path=p)(h2:K[m].place=L[k])(h:Di d K[m].inf=some t)(he:CN t (b++[(⟨p,va L[k]⟩:Sl)])=true):MV d b p va (L.drop k) (K.drop m)=MV d b p va (L.drop (k+1)) (K.drop (m+1)):=by
 grind [List.drop_eq_getElem_cons,MV]
end
section
variable {x:List Rl}{roots:List Rq}{d:List (List Tm)}
theorem sj(h0:AD x=0){o:Rl}(ho:o∈x):FX x o.path (plc o.ver)=o.ver:=by
 have hx:=(D0 h0).1;unfold FX Dd;cases hf:x.find? (fun r=>decide (r.path=o.path)&&decide (plc r.ver=plc o.ver))with
 |none=>
  grind
 |some r=>
  have hr:=Cw hf;have hp:=Jr hf;simp only[Au,Bg]at hp;have v1:=(hx r hr).val;have v2:=(hx o ho).val;have m1:=(hx r hr).maj;have m2:=(hx o ho).maj;rw[hp.1,m2]at m1;have e0:o.ver.a=r.ver.a:=DY m1;have e1:=hp.2;rw[<-KV v1,<-KV v2]at e1;unfold place at e1;unfold Bo at v1 v2;simp only[Au,Bg]at v1 v2;obtain⟨⟨_,b1⟩,c1⟩:=v1;obtain⟨⟨_,b2⟩,c2⟩:=v2;unfold okPart at b1 b2 c1 c2;show r.ver=o.ver;have e2:r.ver.b=o.ver.b:=by omega
  have e3:r.ver.c=o.ver.c:=by omega
  cases hr:r.ver;cases ho:o.ver<;>simp_all
theorem Zn(h0:AD x=0)(v:TO):∀(x' : List Rl),(∀o∈x',o∈x)->∀K:List Sk,DP d v x' K=match MV d v.before v.rel.path (FX x v.rel.path) (CJ x' v.needs v.rel.path (plc v.rel.ver)) K with | some K'=>(K',true) | none=>([],false)
 | [],_,K=>rfl
 |o::x',hm,K=>by
  have ih:=Zn h0 v x' (fun o h=>hm o (At _ h));have hs:CJ (o::x') v.needs v.rel.path (plc v.rel.ver)=if IF v.needs v.rel.path (plc v.rel.ver) o then plc o.ver::CJ x' v.needs v.rel.path (plc v.rel.ver)else CJ x' v.needs v.rel.path (plc v.rel.ver):=by
   grind [CJ]
  rw[hs,PY]
  by_cases hq:IF v.needs v.rel.path (plc v.rel.ver) o=true
  .rw[AE hq];unfold IF at hq;simp only[Au,Bg,J3]at hq;obtain⟨⟨⟨q1,q2⟩,q3⟩,q4⟩:=hq;rw[Aw (by simp_all),Aw (by grind [La])];have hv:=sj h0 (hm o (Ai ..));rw[q1]at hv;cases K with
   |nil=>rfl
   |cons y K=>
    show(if(!decide (y.path=v.rel.path)||!decide (y.place=plc o.ver))=true then([],false)else match Di d y.inf with | none=>([],false) | some t=>if CN t (v.before++[Cn o])then DP d v x' K else([],false))=match(if y.path=v.rel.path/\y.place=plc o.ver then match Di d y.inf with | none=>none | some t=>if CN t (v.before++[⟨v.rel.path,FX x v.rel.path (plc o.ver)⟩])then MV d v.before v.rel.path (FX x v.rel.path) (CJ x' v.needs v.rel.path (plc v.rel.ver)) K else none else none)with | some K'=>(K',true) | none=>([],false)
    grind [Cn]
  grind [IF,La]
theorem VF{s:List Sl}:∀{n:Nat} {before:List Sl},∀i v,(Eh x s n before (BW x roots before)).1[i]?=some v->v.before=before++((Eh x s n before (BW x roots before)).1.take i).map FA/\v.needs=BW x roots v.before/\Bl x (FA v)=some v.rel
 |0,_,i,v,h=>by grind [Eh]
 |n+1,before,i,v,h=>by
  unfold Eh at h⊢;cases hp:Ei (BW x roots before) before with
  |none=>simp_all
  |some p=>
   rw[hp]at h;dsimp only at h⊢;cases hf:A3 s p with
   |none=>simp_all
   |some y=>
    rw[hf]at h;dsimp only at h⊢;cases hr:Bl x y with
    |none=>simp_all
    |some r=>
     rw[hr]at h;dsimp only at h⊢;have hk:Cn r=y:=(Cs hr).2.2;have e:BW x roots before++r.reqs=BW x roots (before++[y]):=by grind [NM,G9]
     rw[e]at h⊢;cases i with
     |zero=>
      grind
     |succ i=>
      rw[Rt]at h;obtain⟨h1,h2,h3⟩:=VF (n:=n) (before:=before++[y]) i v h<;>simp_all
theorem Sn{s:List Sl}(h0:AD x=0){V:List TO}(hV:V=(visits x roots s).1)(K:List Sk):∀i,i<=V.length ->
  match F9 x roots d (V.map FA) K i with
  |some K'=>(V.take i).foldl (BT x d) (true,K)=((V.take i).all (fun v=>!v.rel.yanked),K')
  |none=>((V.take i).foldl (BT x d) (true,K)).1=false
 |0,_=>rfl
 |i+1,hi=>by
  have ih:=Sn h0 hV K i aa0;have Fp:i<V.length:=by omega
  have ht:V.take (i+1)=V.take i++[V[i]]:=by simp_all
  have wX:=VF (x:=x) (roots:=roots) (s:=s) (n:=s.length+1) (before:=[]) i V[i] (by
   grind [KO,visits])
  rw[KO]at wX;obtain⟨v1,v2,v3⟩:=wX;have v1:V[i].before=(V.map FA).take i:=by
   grind [List.map_take,visits]
  have hD:(V.map FA)[i]?=some (FA V[i]):=by grind
  rw[ht,List.foldl_append];show match(F9 x roots d (V.map FA) K i).bind (RX x roots d (V.map FA) i)with
   |some K'=>BT x d ((V.take i).foldl (BT x d) (true,K)) V[i]=((V.take i++[V[i]]).all (fun v=>!v.rel.yanked),K')
   |none=>(BT x d ((V.take i).foldl (BT x d) (true,K)) V[i]).1=false
  cases hn:F9 x roots d (V.map FA) K i with
  |none=>
   rw[hn]at ih;show(((V.take i).foldl (BT x d) (true,K)).1&&_&&_)=false;simp_all
  |some K'=>
   rw[hn]at ih;have ih:(V.take i).foldl (BT x d) (true,K)=((V.take i).all (fun v=>!v.rel.yanked),K'):=ih;have he:RX x roots d (V.map FA) i K'=MV d V[i].before V[i].rel.path (FX x V[i].rel.path) (CJ x V[i].needs V[i].rel.path (plc V[i].rel.ver)) K':=by
    unfold RX;rw[hD,v2,v1]
    rfl
   have hs:=Zn (d:=d) h0 V[i] x (fun _ h=>h) K';rw[<-he]at hs;rw[ih];show match RX x roots d (V.map FA) i K' with
    |some K2=>(((V.take i).all (fun v=>!v.rel.yanked)&&(DP d V[i] x K').2&&!V[i].rel.yanked),(DP d V[i] x K').1)=((V.take i++[V[i]]).all (fun v=>!v.rel.yanked),K2)
    |none=>((V.take i).all (fun v=>!v.rel.yanked)&&(DP d V[i] x K').2&&!V[i].rel.yanked)=false
   grind
theorem Zi{s:List Sl}{K:List Sk}(hr:Ba roots=0)(hs:CO x roots s=0) :
  (((visits x roots s).1.foldl (BT x d) (true,K)).1&&((visits x roots s).1.foldl (BT x d) (true,K)).2.isEmpty)=(s.all (F5 x)&&(decide ((Ce x roots s).2=0)&&KY x roots d (Ce x roots s).1 K)):=by
 obtain⟨l,hl⟩:=TB hs;have hv:=hl.visits;have hd:Ce x roots s=((visits x roots s).1.map FA,0):=by
  grind [Ce,J6.ix,J6.inc]
 have hf:=Sn (d:=d) hl.ix (s:=s) rfl K (visits x roots s).1.length (Aq _);rw[Ec]at hf;have Hy:s.all (F5 x)=(visits x roots s).1.all fun v=>!v.rel.yanked:=by
  have Cm:=FK hv;rw[Gn,BI,BI];constructor
  .intro h v hm;obtain⟨m1,m2⟩:=Cm.mem v hm<;>grind [F5]
  grind [F5,J6.all,ml.mem]
 grind [KY]
end
theorem wq(i:Nat):((D.map Ae).take (i:Int).toNat).drop (0:Int).toNat=(D.take i).map Ae:=by
 simp_all
theorem mX{x:List Rl}{roots:List Rq}{s:List Sl}:∀y∈(Ce x roots s).1,∃r,Bl x y=some r:=fun y hy=>by
 unfold Ce at hy;split at hy
 .cases hy
 .split at hy
  .rename_i h;obtain⟨v,hv,rfl⟩:=Ay.1 hy;exact⟨_,((FK h).mem v hv).2⟩
  simp_all
section
variable {x:List Rl}{roots:List Rq}{d:List (List Tm)}{D:List Sl}{K:List Sk}{n:Nat}
theorem gm(h:F9 x roots d D K D.length=some (K.drop n))(hn:K.length<=n):KY x roots d D K=true:=by
 grind [KY,List.drop_of_length_le]
theorem bz(h:F9 x roots d D K D.length=some (K.drop n))(hn:n<K.length):KY x roots d D K=false:=by
 grind [KY,List.drop_eq_getElem_cons]
theorem c50(x:List Rl)(ifs:List (List AV))(roots:List Rq)(a:An)(d:List (List Tm))(h0:AD x=0)(hx:∀r∈x,F3 r)(Mw:BB x)(hr:∀q∈roots,Lw q)(GH:roots.length<=1000000)(hs:a.sel.length<=100000)(hk:a.skips.length<=1000000)(uU:∀t∈d,TQ t):PC 136 [.agg (Ic x ifs),sl Ad roots,.agg (Iz a),sl Ap d] (vb (En x roots a d)):=by
 have qK:=c44 x ifs roots a.sel hx Mw hr GH hs;have sA:=V7 (x:=x) (roots:=roots) (s:=a.sel);have hDm:=mX (x:=x) (roots:=roots) (s:=a.sel);have UQ:∀q∈roots,BB q.set:=fun q hq=>(hr q hq).1;have hv:∀r∈x,Bo r.ver=true:=fun r hr=>((D0 h0).1 r hr).val;unfold ac at qK;obtain⟨D,hD⟩:∃D,D=(Ce x roots a.sel).1:=⟨_,rfl⟩;rw[<-hD]at qK sA hDm;have hDv:∀y∈D,Bo y.ver=true:=fun y hy=>by
  obtain⟨r,hr⟩:=hDm y hy;rw[<-(Cs hr).2.2];exact hv r (Cs hr).2.1
 refine Ps (pC [] [2,9,13,14,16,17,18,19]) Tryz.func136 rfl (Nz rfl) (yN (Xi .pure (Xi _ (Yi qK (cU [(1,sl Ad roots),(3,sl Ap d),(4,.ref 4 0),(6,.ref 6 0),(9,sl Ae D),(10,vi (Ce x roots a.sel).2)] [(4,.cells (Ic x ifs)),(6,.cells (Iz a))] Z6 Z2 (Yi (fun h1=>?_) (fun h1=>?_)))))))
 .have h1:((Ce x roots a.sel).2:Int)≠(0:Int):=h1;exact .of_eq (Aa vb (show false=En x roots a d by grind [En]))
 have h1:((Ce x roots a.sel).2:Int)=(0:Int):=AQ h1;refine Xi {q:Nat×Nat // q.1<=D.length/\q.2<=a.skips.length/\F9 x roots d D a.skips q.1=some (a.skips.drop q.2)} (Xi (fun q=>⟨[(1,sl Ad roots),(3,sl Ap d),(4,.ref 4 0),(6,.ref 6 0),(9,sl Ae D),(11,vi q.1.2),(12,vi q.1.1)],[(4,.cells (Ic x ifs)),(6,.cells (Iz a))],Af⟩) (Xi (fun q=>D.length-q.1.1) (Yi (Xi ⟨(0,0),Ao _,Ao _,rfl⟩ ?_) ?_)))
 .exact⟨Z7,Z2,Fh,Tv⟩
 intro⟨⟨i,n⟩,i1,i2,i3⟩;have i1:i<=D.length:=i1;have i2:n<=a.skips.length:=i2;have i3:F9 x roots d D a.skips i=some (a.skips.drop n):=i3;refine Yi (fun h3=>?_) (fun h3=>?_)
 .have h3:(i:Int)<((D.map Ae).length:Int):=h3;have n3:i<D.length:=by simp_all
  have g3:D[i]?=some D[i]:=Ge n3;have ni:i<D.length:=by omega
  have y0:D[i]?=some D[i]:=Ge ni;refine yN (Yi (show(0:Int)<=0/\(0:Int)<=i/\(i:Int)<=((D.map Ae).length:Nat) by omega) (Yi (H4 (enc:=Ae) (n:=4) (fun _=>rfl) D) (Xi (Ae D[i]) (Yi (Yi (Nn i) (AM y0)) (Yi rfl (Xi (Ae D[i]) (Yi (Yi (Nn i) (AM y0)) (Yi rfl (yN (Xi _ (Yi (show PC 82 [.agg (Dt D[i].ver)] (vi (plc D[i].ver))from KV (hDv _ (Ah ni))▸qz D[i].ver (hDv _ (Ah ni))) (Am (show ∃Lp,Lp=CJ x (BW x roots (D.take i)) D[i].path (plc D[i].ver)from⟨_,rfl⟩) (fun Lp hLp=>?_)))))))))))));have Aep:Lp.length<=x.length:=by grind [Vq]
  refine Xi _ (Yi (show PC 205 [Jx x ifs,sl Ad roots,.slice .none (((D.map Ae).take (i:Int).toNat).drop (0:Int).toNat),vs D[i].path,vi (plc D[i].ver)] (sl Ey Lp)from by grind [wq,c94]) ?_);refine Yi aa3 (cU [(1,sl Ad roots),(3,sl Ap d),(4,.ref 4 0),(6,.ref 6 0),(9,sl Ae D),(11,vi n),(12,vi i),(13,sl Ey Lp)] [(4,.cells (Ic x ifs)),(6,.cells (Iz a))] Z8 Z2 (Xi {q:Nat×Nat // q.1<=Lp.length/\q.2<=a.skips.length/\RX x roots d D i (a.skips.drop n)=MV d (D.take i) D[i].path (FX x D[i].path) (Lp.drop q.1) (a.skips.drop q.2)} (Xi (fun q=>⟨[(1,sl Ad roots),(3,sl Ap d),(4,.ref 4 0),(6,.ref 6 0),(9,sl Ae D),(11,vi q.1.2),(12,vi i),(13,sl Ey Lp),(14,vi q.1.1)],[(4,.cells (Ic x ifs)),(6,.cells (Iz a))],Af⟩) (Xi (fun q=>Lp.length-q.1.1) (Yi (Xi ⟨(0,n),Ao _,i2,by grind [m6]⟩ ?_) ?_)))))
  .exact⟨Z9,Z2,Fh,Tv⟩
  intro⟨⟨k,m⟩,k1,k2,k3⟩;have k1:k<=Lp.length:=k1;have k2:m<=a.skips.length:=k2;have k3:RX x roots d D i (a.skips.drop n)=MV d (D.take i) D[i].path (FX x D[i].path) (Lp.drop k) (a.skips.drop m):=k3;refine Yi (fun h4=>?_) (fun h4=>?_)
  .have h4:(k:Int)<((Lp.map Ey).length:Int):=h4;have n4:k<Lp.length:=by simp_all
   have g4:Lp[k]?=some Lp[k]:=Ge n4;have nk:k<Lp.length:=by omega
   have ggk:Lp[k]?=some Lp[k]:=Ge nk;refine Yi (fun h5=>?_) (fun h5=>?_)
   .have h5:((a.skips.map A1).length:Int)<=(m:Int):=h5;refine cU [] [] Tv Tv ?_
    exact .of_eq (Aa vb (show false=En x roots a d by grind [En,Hg,m7]))
   have h5:¬(((a.skips.map A1).length:Int)<=(m:Int)):=h5;have nm:m<a.skips.length:=by simp_all
   have ggm:a.skips[m]?=some a.skips[m]:=Ge nm;refine cU [(1,sl Ad roots),(3,sl Ap d),(4,.ref 4 0),(6,.ref 6 0),(9,sl Ae D),(11,vi m),(12,vi i),(13,sl Ey Lp),(14,vi k)] [(4,.cells (Ic x ifs)),(6,.cells (Iz a))] Z9 Z2 (Xi (A1 a.skips[m]) (Yi (Yi (show(0:Int)<=m by omega) (AM ggm)) (Yi rfl (yN (yN (Xi (Ae D[i]) (Yi (Yi (Nn i) (AM y0)) (Yi rfl (Yi (fun h8=>?_) (fun h8=>?_))))))))))
   .have h8:(a.skips[m].path:ByteArray)≠D[i].path:=h8;refine Yi aa3 (cU [] [] Tv Tv ?_)
    exact .of_eq (Aa vb (show false=En x roots a d by grind [En,Hg,ca]))
   have h8:(a.skips[m].path:ByteArray)=D[i].path:=AQ h8;refine Xi (Ey Lp[k]) (Yi (Yi (Nn k) (AM ggk)) (Yi rfl (Yi (fun I8=>?_) (fun I8=>?_))))
   .have I8:(a.skips[m].place:Int)≠(Lp[k]:Int):=I8;refine Yi aa3 (cU [] [] Tv Tv ?_)
    exact .of_eq (Aa vb (show false=En x roots a d by grind [En,Hg,ca]))
   have I8:(a.skips[m].place:Int)=(Lp[k]:Int):=AQ I8;refine Yi (fun HX=>?_) (fun HX=>?_)
   .have HX:(a.skips[m].inf:Int)<(0:Int):=HX;refine Yi aa3 (cU [] [] Tv Tv ?_)
    exact .of_eq (Aa vb (show false=En x roots a d by grind [En,Hg,cc,OV]))
   have HX:¬((a.skips[m].inf:Int)<(0:Int)):=HX;refine Yi (fun Su=>?_) (fun Su=>?_)
   .have Su:((d.map Ap).length:Int)<=(a.skips[m].inf:Int):=Su;refine Yi aa3 (cU [] [] Tv Tv ?_)
    exact .of_eq (Aa vb (show false=En x roots a d by grind [En,Hg,cc,OT]))
   have Su:¬(((d.map Ap).length:Int)<=(a.skips[m].inf:Int)):=Su;have rd:¬((d.length:Nat):Int)<=a.skips[m].inf:=by simp_all
   refine Am (OU HX rd) (fun ta aN=>?_);have hta:=aN.1;have ru:=aN.2.1;have nY:=aN.2.2;refine Yi aa3 (cU [(1,sl Ad roots),(3,sl Ap d),(4,.ref 4 0),(6,.ref 6 0),(9,sl Ae D),(11,vi m),(12,vi i),(13,sl Ey Lp),(14,vi k),(15,.ref 15 0)] [(4,.cells (Ic x ifs)),(6,.cells (Iz a)),(15,.cells (A1 a.skips[m]))] Z10 Z3 (Xi (Ap ta) (Yi (Yi (show(0:Int)<=a.skips[m].inf by omega) (AM ru)) (Yi rfl (yN (Yi (show(0:Int)<=0/\(0:Int)<=i/\(i:Int)<=((D.map Ae).length:Nat) by omega) (Yi (H4 (enc:=Ae) (n:=4) (fun _=>rfl) D) (Xi _ (Yi (show PC 207 [Jx x ifs,.slice .none (((D.map Ae).take (i:Int).toNat).drop (0:Int).toNat),vs a.skips[m].path,vi a.skips[m].place] (sl Ae (D.take i++[(⟨a.skips[m].path,FX x a.skips[m].path a.skips[m].place⟩:Sl)]))from by grind [wq,c97]) ?_)))))))));refine AG (Bt (CN ta (D.take i++[⟨a.skips[m].path,FX x a.skips[m].path a.skips[m].place⟩]))) (fun PA=>?_) (fun PA=>?_)
   .have PA:(CN ta (D.take i++[⟨a.skips[m].path,FX x a.skips[m].path a.skips[m].place⟩]))=true:=PA;have jB:=c96 ta (D.take i++[⟨a.skips[m].path,FX x a.skips[m].path a.skips[m].place⟩]) (uU ta nY) (by unfold BB;rw[As,AC,AS];omega);rw[show(CN ta (D.take i++[⟨a.skips[m].path,FX x a.skips[m].path a.skips[m].place⟩]))=true from PA]at jB;refine Xi _ (Yi jB (Yi aa3 (cU [(1,sl Ad roots),(3,sl Ap d),(4,.ref 4 0),(6,.ref 6 0),(9,sl Ae D),(11,vi m),(12,vi i),(13,sl Ey Lp),(14,vi k)] [(4,.cells (Ic x ifs)),(6,.cells (Iz a))] Z9 Z2 (Yi (by grind [Al]) (Yi (by grind [Al]) ?_)))));have aH:CN ta (D.take i++[⟨D[i].path,FX x D[i].path Lp[k]⟩])=true:=by simp_all
    refine Xi ⟨(k+1,m+1),by omega,by omega,k3.trans (na nk nm h8 I8 hta aH)⟩ ?_;exact⟨by grind,Z9,Z2,Fh,Tv⟩
   have PA:(CN ta (D.take i++[⟨a.skips[m].path,FX x a.skips[m].path a.skips[m].place⟩]))=false:=PA;have Yg:=c96 ta (D.take i++[⟨a.skips[m].path,FX x a.skips[m].path a.skips[m].place⟩]) (uU ta nY) (by unfold BB;rw[As,AC,AS];omega);rw[show(CN ta (D.take i++[⟨a.skips[m].path,FX x a.skips[m].path a.skips[m].place⟩]))=false from PA]at Yg;refine Xi _ (Yi Yg (Yi aa3 (cU [] [] Tv Tv ?_)))
   have aH:CN ta (D.take i++[⟨D[i].path,FX x D[i].path Lp[k]⟩])=false:=by simp_all
   exact .of_eq (Aa vb (show false=En x roots a d by grind [En,Hg,m9]))
  have h4:¬((k:Int)<((Lp.map Ey).length:Int)):=h4;have n4:¬k<Lp.length:=by simp_all
  refine Yi (by grind [Al]) (Xi ⟨(i+1,m),by omega,k2,Zg i3 (by grind [m8])⟩ ?_);exact⟨by grind,Z7,Z2,Fh,Tv⟩
 have h3:¬((i:Int)<((D.map Ae).length:Int)):=h3;have n3:¬i<D.length:=by simp_all
 refine Yi (fun Wo=>?_) (fun Wo=>?_)
 .have Wo:(n:Int)=((a.skips.map A1).length:Int):=Wo;rw[show i=D.length by omega]at i3;exact .of_eq (Aa vb (show true=En x roots a d by grind [En,gm]))
 have Wo:¬((n:Int)=((a.skips.map A1).length:Int)):=Wo;rw[show i=D.length by omega]at i3;exact .of_eq (Aa vb (show false=En x roots a d by grind [En,bz]))
end
section
variable {x:List Rl}{roots:List Rq}{a:An}
theorem ZY(h:(Ax x roots a.infs).2=0)(hf:a.found=false):CW x roots a=if !a.sel.isEmpty||!a.skips.isEmpty||!DW (Ax x roots a.infs).1 then 18 else 0:=by
 grind [CW]
theorem mQ(h:(Ax x roots a.infs).2=0)(hf:a.found=false)(hs:0<a.sel.length):CW x roots a=18:=by
 grind [ZY]
theorem iF(h:(Ax x roots a.infs).2=0)(hf:a.found=false)(hs:0<a.skips.length):CW x roots a=18:=by
 grind [ZY]
theorem mP(h:(Ax x roots a.infs).2=0)(hf:a.found=false)(hs:¬0<a.sel.length)(hk:¬0<a.skips.length):CW x roots a=Ff x roots a.infs:=by
 grind [ZY,Ff]
theorem dT(h:(Ax x roots a.infs).2=0)(hf:a.found=true)(hs:CO x roots a.sel≠0):CW x roots a=18:=by
 grind [CW]
theorem Pp(h:(Ax x roots a.infs).2=0)(hf:a.found=true)(hs:CO x roots a.sel=0):CW x roots a=if(a.sel.all (F5 x)&&En x roots a (Ax x roots a.infs).1)then 0 else 18:=by
 have h2:=Zi (d:=(Ax x roots a.infs).1) (K:=a.skips) (DN h).2.1 hs;unfold CW;rw[Aw (Lu h),Aw (by simp_all),Aw (Lu hs),h2]
 rfl
theorem c22(x:List Rl)(ifs:List (List AV))(roots:List Rq)(a:An)(hx:∀r∈x,F3 r)(Mw:BB x)(hr:∀q∈roots,Lw q)(GH:roots.length<=1000000)(hs:a.sel.length<=256)(hk:a.skips.length<=1000000):PC 79 [.agg (Ic x ifs),sl Ad roots,.agg (Iz a)] (vi (CW x roots a)):=by
 refine Ps (pC [] [2,6,7,9,10]) Tryz.func79 rfl (Nz rfl) (yN (Xi .pure (Xi _ (Yi (show PC 59 [Jx x ifs,sl Ad roots,sl Aj a.infs] (.tup [sl Ap (Ax x roots a.infs).1,vi (Ax x roots a.infs).2])from tp x ifs roots a.infs hx hr) (cU [(1,sl Ad roots),(3,.ref 3 0),(5,.ref 5 0),(7,sl Ap (Ax x roots a.infs).1),(8,vi (Ax x roots a.infs).2)] [(3,.cells (Ic x ifs)),(5,.cells (Iz a))] Z5 Z2 (Yi (fun h1=>?_) (fun h1=>?_)))))))
 .have h1:((Ax x roots a.infs).2:Int)≠(0:Int):=h1;exact .of_eq (Aa vi (show((Ax x roots a.infs).2:Int)=CW x roots a by grind [CW]))
 have h1:((Ax x roots a.infs).2:Int)=(0:Int):=AQ h1;refine Yi (fun h3=>?_) (fun h3=>?_)
 .have h3:a.found=true:=h3;refine yN (Xi .pure (Xi _ (Yi (c48 x ifs roots a.sel hx Mw (fun q hq=>(hr q hq).1) GH hs) (Yi (fun h4=>?_) (fun h4=>?_)))))
  .have h4:(CO x roots a.sel:Int)≠(0:Int):=h4;refine cU [] [] Tv Tv ?_
   exact .of_eq (Aa vi (show(18:Int)=CW x roots a by grind [dT]))
  have h4:(CO x roots a.sel:Int)=(0:Int):=AQ h4;refine yN (AG (Bt (a.sel.all (F5 x))) (fun h6=>?_) (fun h6=>?_))
  .have h6:(a.sel.all (F5 x))=true:=h6;have py:=(c49 x ifs a.sel hx Mw aa0);rw[show(a.sel.all (F5 x))=true from h6]at py;refine Xi .pure (Xi _ (Yi py (yN (yN (AG (Bt (En x roots a (Ax x roots a.infs).1)) (fun h8=>?_) (fun h8=>?_))))))
   .have h8:(En x roots a (Ax x roots a.infs).1)=true:=h8;have pz:=(c50 x ifs roots a (Ax x roots a.infs).1 (DN h1).1 hx Mw hr GH aa0 hk Ol);rw[show(En x roots a (Ax x roots a.infs).1)=true from h8]at pz;refine Xi .pure (Xi _ (Yi pz (cU [] [] Tv Tv ?_)))
    exact .of_eq (Aa vi (show(0:Int)=CW x roots a by grind [Pp]))
   have h8:(En x roots a (Ax x roots a.infs).1)=false:=h8;have jz:=(c50 x ifs roots a (Ax x roots a.infs).1 (DN h1).1 hx Mw hr GH aa0 hk Ol);rw[show(En x roots a (Ax x roots a.infs).1)=false from h8]at jz;refine Xi .pure (Xi _ (Yi jz (cU [] [] Tv Tv ?_)))
   exact .of_eq (Aa vi (show(18:Int)=CW x roots a by grind [Pp]))
  have h6:(a.sel.all (F5 x))=false:=h6;have OB:=(c49 x ifs a.sel hx Mw aa0);rw[show(a.sel.all (F5 x))=false from h6]at OB;refine Xi .pure (Xi _ (Yi OB (cU [] [] Tv Tv ?_)))
  exact .of_eq (Aa vi (show(18:Int)=CW x roots a by grind [Pp]))
 have h3:a.found=false:=h3;refine Yi (fun Js=>?_) (fun Js=>?_)
 .have Js:(0:Int)<((a.sel.map Ae).length:Int):=Js;have n15:0<a.sel.length:=by simp_all
  refine cU [] [] Tv Tv ?_
  exact .of_eq (Aa vi (show(18:Int)=CW x roots a by grind [mQ]))
 have Js:¬((0:Int)<((a.sel.map Ae).length:Int)):=Js;have n15:¬0<a.sel.length:=by simp_all
 refine Yi (fun NZ=>?_) (fun NZ=>?_)
 .have NZ:(0:Int)<((a.skips.map A1).length:Int):=NZ;have n17:0<a.skips.length:=by simp_all
  refine cU [] [] Tv Tv ?_
  exact .of_eq (Aa vi (show(18:Int)=CW x roots a by grind [iF]))
 have NZ:¬((0:Int)<((a.skips.map A1).length:Int)):=NZ;have n17:¬0<a.skips.length:=by simp_all
 refine cU [(1,sl Ad roots),(3,.ref 3 0),(5,.ref 5 0)] [(3,.cells (Ic x ifs)),(5,.cells (Iz a))] Z3 Z2 (yN (Xi .pure (Xi _ (Yi (c16 x ifs roots a.infs hx hr) ?_))));exact .of_eq (Aa vi (show(Ff x roots a.infs:Int)=CW x roots a by grind [mP]))
end
end Go.Eng
