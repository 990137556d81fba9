/- Lemmas 4. -/
import Derived.Test.YtjhkbdgingfbaaaGreatDoorHA03
import Derived.Lib.ItoaNum
import Derived.Lib.Join
import Derived.Lib.LastIndexLaws
import Derived.Lib.IndexMore
import Derived.Lib.AtoiAll
import Derived.Lib.ItoaLen
namespace Go.Eng
variable {n:Nat}{s:SS}(Vx:ByteArray)
def Ht(s:SS)(b:List Cd)(p:ByteArray)(needs:List Nd):List Cd->List Sk->Prop
 | [],sk=>sk=[]
 |c::cs,sk=>if(needs.all fun n=>has n.rq.set c.place)=true then ∃(k:Nat) (rest:List Sk),sk=⟨p,c.place,k⟩::rest/\(k<s.drv.length/\CY (Eo s k) (AG (b++[c]))=true)/\Ht s b p needs cs rest
  else Ht s b p needs cs sk
section
variable {s s' : SS}{b:List Cd}{p:ByteArray}{needs:List Nd}
theorem Ht.out{c:Cd}(hc:¬(needs.all fun n=>has n.rq.set c.place)=true):∀{cs:List Cd} {sk:List Sk},Ht s b p needs cs sk->Ht s b p needs (cs++[c]) sk
 | [],sk,h=>by
  show(if _ then _ else _);rw[Ah hc];exact h
 |d::cs,sk,h=>by
  have h:if(needs.all fun n=>has n.rq.set d.place)=true then _ else _:=h
  show(if _ then _ else _)
  by_cases hd:(needs.all fun n=>has n.rq.set d.place)=true
  .rw[As hd]at h⊢;obtain⟨k,rest,h1,h2,h3⟩:=h;exact⟨k,rest,h1,h2,Ht.out hc h3⟩
  .rw[Ah hd]at h⊢;exact Ht.out hc h
theorem Ht.add{c:Cd}(hc:(needs.all fun n=>has n.rq.set c.place)=true){k:Nat}(hk:k<s.drv.length/\CY (Eo s k) (AG (b++[c]))=true):∀{cs:List Cd} {sk:List Sk},Ht s b p needs cs sk->Ht s b p needs (cs++[c]) (sk++[⟨p,c.place,k⟩])
 | [],sk,h=>by
  have h:sk=[]:=h;subst h;show(if _ then _ else _);rw[As hc];exact⟨k,[],rfl,hk,rfl⟩
 |d::cs,sk,h=>by
  have h:if(needs.all fun n=>has n.rq.set d.place)=true then _ else _:=h
  show(if _ then _ else _)
  by_cases hd:(needs.all fun n=>has n.rq.set d.place)=true
  .rw[As hd]at h⊢;obtain⟨j,rest,rfl,h2,h3⟩:=h;exact⟨j,_,rfl,h2,Ht.add hc hk h3⟩
  .rw[Ah hd]at h⊢;exact Ht.add hc hk h
theorem Ht.mono(hg:Grow s s'):∀{cs:List Cd} {sk:List Sk},Ht s b p needs cs sk->Ht s' b p needs cs sk
 | [],_,h=>h
 |d::cs,sk,h=>by
  have h:if(needs.all fun n=>has n.rq.set d.place)=true then _ else _:=h
  show(if _ then _ else _)
  by_cases hd:(needs.all fun n=>has n.rq.set d.place)=true
  .rw[As hd]at h⊢;obtain⟨j,rest,rfl,h2,h3⟩:=h;exact⟨j,rest,rfl,⟨Bx h2.1 hg.len,by rw[hg.at h2.1];exact h2.2⟩,h3.mono hg⟩
  .rw[Ah hd]at h⊢;exact h.mono hg
end
structure sy(x:List Rl)(roots:List Rq)(s:SS)(b:List Cd)(c:Cd)(sk:List Sk)(p:ByteArray)(needs:List Nd)(pre post:List Cd):Prop where
 next:vt roots b p needs
 cands:Bo x p=pre++c::post
 fit:∀n∈needs,has n.rq.set c.place=true
 noclash:DI b c=none
 skips:Ht s b p needs pre sk
def Tp(x:List Rl)(roots:List Rq)(s:SS):List Cd->List Cd->List (List Sk)->Prop
 |b,[],[]=>Lz (Hr roots b) (AG b)=none
 |b,c::t,sk::st=>(∃p needs pre post,sy x roots s b c sk p needs pre post)/\Tp x roots s (b++[c]) t st
 |_,_,_=>False
structure XA(x:List Rl)(roots:List Rq)(ls:List (List Cd))(dec:List Cd)(s:SS)(st:List (List Sk))(o:Kg):Prop where
 der:FG x roots o.ss
 grow:Grow s o.ss
 no:o.found=false->o.dec=dec/\o.stack=st/\(o.ss.full=false->o.res<o.ss.drv.length/\CY (Eo o.ss o.res) (AG dec)=true)
 yes:o.found=true->o.ss.full=false/\∃t sl,o.dec=dec++t/\o.stack=st++sl/\Tp x roots o.ss dec t sl/\ls.head?=some o.dec
section
variable {rec:List Cd->SS->List (List Sk)->Kg}{x:List Rl}{roots:List Rq}{p:ByteArray}{needs:List Nd}{n0:Nd}{dec:List Cd}{st:List (List Sk)}
def IY(rec:List Cd->SS->List (List Sk)->Kg)(x:List Rl)(p:ByteArray)(needs:List Nd)(n0:Nd)(dec:List Cd)(st:List (List Sk))(c:Cd)(cs:List Cd)(reasons:List Nat)(skips:List Sk)(k:Nat)(s:SS):Kg:=
 if DZ (Eo s k) p=false then⟨k,false,s,dec,st⟩else D3 rec x p needs n0 dec st cs s (reasons++[k]) (skips++[⟨p,c.place,k⟩])
theorem Ga(c:Cd)(cs:List Cd)(s:SS)(reasons:List Nat)(skips:List Sk):D3 rec x p needs n0 dec st (c::cs) s reasons skips =
  if s.full=true then⟨0,false,s,dec,st⟩
  else match needs.find? fun n=>!has n.rq.set c.place with
   |some n=>D3 rec x p needs n0 dec st cs (BD s n).2 (reasons++[(BD s n).1]) skips
   |none=>match Ov s.drv (AG (dec++[c]))with
    |some k=>IY rec x p needs n0 dec st c cs reasons skips k s
    |none=>match DI dec c with
     |some n=>IY rec x p needs n0 dec st c cs reasons skips (BD s n).1 (BD s n).2
     |none=>if(rec (dec++[c]) s (st++[skips])).found=true then⟨0,true,(rec (dec++[c]) s (st++[skips])).ss,(rec (dec++[c]) s (st++[skips])).dec,(rec (dec++[c]) s (st++[skips])).stack⟩
      else if(rec (dec++[c]) s (st++[skips])).ss.full=true then⟨0,false,(rec (dec++[c]) s (st++[skips])).ss,dec,st⟩
      else IY rec x p needs n0 dec st c cs reasons skips (rec (dec++[c]) s (st++[skips])).res (rec (dec++[c]) s (st++[skips])).ss:=rfl
theorem eQ{s:SS}(hs:FG x roots s){n:Nd}(h:∀d,D4 x roots d (NT n)=some (H9 n)):FG x roots (BD s n).2/\(BD s n).1<(BD s n).2.drv.length/\((BD s n).2.full=false->Eo (BD s n).2 (BD s n).1=H9 n)/\Grow s (BD s n).2:=by
 obtain⟨a1,a2,a3⟩:=Lh hs (h s.drv);exact⟨a1,a2,a3,Li _ _ _⟩
theorem XA.grown{ls:List (List Cd)}{s s' : SS}{o:Kg}(hg:Grow s s')(h:XA x roots ls dec s' st o):XA x roots ls dec s st o:=⟨h.der,hg.trans h.grow,h.no,h.yes⟩
theorem Wg(hx:Bd x=0)(hr:B5 roots=0)(hd:EG x dec)(iv:It roots dec)(hN:vt roots dec p needs)(h0:n0∈needs){lv:List Cd->List (List Cd)}(eK:∀c∈Bo x p,bi dec needs c=true->∀d∈lv (dec++[c]),Lf x roots (dec++[c]) d)
  (QP:∀c∈Bo x p,bi dec needs c=true->∀s st,FG x roots s->s.full=false->XA x roots (lv (dec++[c])) (dec++[c]) s st (rec (dec++[c]) s st)) :
  ∀(cs:List Cd) {s:SS} (L:List (Nat×Cd)) {skips:List Sk},L.map (·.2)++cs=Bo x p->FG x roots s->(∀y∈L,y.1<s.drv.length)->(s.full=false->(∀y∈L,CY (Eo s y.1) (AG (dec++[y.2]))=true/\DZ (Eo s y.1) p=true)/\Ht s dec p needs (L.map (·.2)) skips) ->
   XA x roots (((Bo x p).map fun c=>if bi dec needs c then lv (dec++[c])else []).flatten) dec s st (D3 rec x p needs n0 dec st cs s (L.map (·.1)) skips)
 | [],s,L,skips,hL,hs,Dx,yj=>by
  rw[BZ]at hL;obtain⟨l1,l2,l3,l4⟩:=iL hx hr hd hN h0 L hL hs Dx (fun hf=>(yj hf).1);exact⟨l1,l2,fun _=>⟨rfl,rfl,fun hf=>⟨l3,l4 hf⟩⟩,fun h=>(by cases h)⟩
 |c::cs,s,L,skips,hL,hs,Dx,yj=>by
  rw[Ga]
  by_cases hf:s.full=true
  .rw[As hf];exact⟨hs,.refl s,fun _=>⟨rfl,rfl,fun h=>by rw[show(⟨0,false,s,dec,st⟩:Kg).ss=s from rfl,hf]at h;cases h⟩,fun h=>(by cases h)⟩
  rw[Ah hf];have hf:s.full=false:=by simpa using hf
  obtain⟨yk,t8⟩:=yj hf;have hc:c∈Bo x p:=by rw[<-hL];simp
  obtain⟨c1,c2⟩:=Hu hc;have hu:Da dec c.rel.path=false:=by rw[c1];exact hN.undone
  have hE:=hd.snoc c2 hu
  -- on to the next candidate
  have go:∀(s' : SS) (k:Nat) (Mi : List Sk),FG x roots s'->Grow s s'->k<s'.drv.length->(s'.full=false->(CY (Eo s' k) (AG (dec++[c]))=true/\DZ (Eo s' k) p=true)/\Ht s' dec p needs (L.map (·.2)++[c]) Mi) ->
    XA x roots (((Bo x p).map fun c=>if bi dec needs c then lv (dec++[c])else []).flatten) dec s st (D3 rec x p needs n0 dec st cs s' (L.map (·.1)++[k]) Mi):=fun s' k Mi Y2 hg hk Dv=>by
   have:=Wg hx hr hd iv hN h0 eK QP cs (s:=s') (L++[(k,c)]) (skips:=Mi) (by rw[Az,Bm];exact hL) Y2
    (fun y hy=>by
     rcases AT.1 hy with hy | hy
     .exact Bx (Dx y hy) hg.len
     .rw[Aj.1 hy];exact hk)
    (fun ZX=>by
     obtain⟨e1,e2⟩:=Dv ZX;refine⟨fun y hy=>?_,by rw[Az];exact e2⟩;rcases AT.1 hy with hy | hy
     .rw[hg.at (Dx y hy)];exact yk y hy
     .rw[Aj.1 hy];exact e1)
   rw[Az]at this;exact this.grown hg
  cases tJ:needs.find? fun n=>!has n.rq.set c.place with
  |some n=>
   dsimp only;have km:=BP tJ;have qg:=DL tJ;have qg:has n.rq.set c.place=false:=by simpa using qg
   obtain⟨hn3,hn4⟩:=(hN.mem n).1 km;obtain⟨e1,e2,e3⟩:=PQ hx hr hE (OI hn3) ⟨c,by simp,by rw[c1,hn4],qg⟩;obtain⟨i1,i2,i3,i4⟩:=eQ hs e1;refine go _ _ _ i1 i4 i2 fun ZX=>?_;rw[i3 ZX];exact⟨⟨e2,iX hx hr hd hN hc km qg⟩,Ht.out (by
    intro h;rw[AP]at h;rw[h n km]at qg;cases qg) (t8.mono i4)⟩
  |none=>
   dsimp only;have cG:∀n∈needs,has n.rq.set c.place=true:=fun n hn=>by
    rw[EE]at tJ;simpa using tJ n hn
   have FN:(needs.all fun n=>has n.rq.set c.place)=true:=by rw[AP];exact cG
   have kE:∀(s' : SS) (k:Nat),FG x roots s'->Grow s s'->k<s'.drv.length->(s'.full=false->CY (Eo s' k) (AG (dec++[c]))=true) ->
     XA x roots (((Bo x p).map fun c=>if bi dec needs c then lv (dec++[c])else []).flatten) dec s st (IY rec x p needs n0 dec st c cs (L.map (·.1)) skips k s'):=fun s' k Y2 hg hk he=>by
    unfold IY;cases rO:DZ (Eo s' k) p with
    |false=>
     rw[As rfl];exact⟨Y2,hg,fun _=>⟨rfl,rfl,fun ZX=>⟨hk,lH hx hd c2.1 (he ZX) (by rw[c1];exact rO)⟩⟩,fun h=>(by cases h)⟩
    |true=>
     rw[Ah Cl];exact go _ _ _ Y2 hg hk fun ZX=>⟨⟨he ZX,rO⟩,Ht.add FN ⟨hk,he ZX⟩ (t8.mono hg)⟩
   cases hen:Ov s.drv (AG (dec++[c]))with
   |some k=>
    dsimp only;obtain⟨k1,k2⟩:=Lq hen;exact kE s k hs (.refl s) k1 fun _=>k2
   |none=>
    dsimp only;cases hcl:DI dec c with
    |some n=>
     dsimp only;obtain⟨m1,m2⟩:=LZ hcl;obtain⟨e1,e2,e3⟩:=PQ hx hr hE (NG m1) m2;obtain⟨i1,i2,i3,i4⟩:=eQ hs e1;exact kE _ _ i1 i4 i2 fun ZX=>by rw[i3 ZX];exact e2
    |none=>
     dsimp only;have FY:bi dec needs c=true:=KD.2 ⟨cG,hcl⟩;have hR:=QP c hc FY s (st++[skips]) hs hf;generalize rec (dec++[c]) s (st++[skips])=o at hR
     by_cases Sa:o.found=true
     .rw[As Sa];obtain⟨y1,t,sl,y2,y3,y4,y5⟩:=hR.yes Sa;refine⟨hR.der,hR.grow,fun h=>(by cases h),fun _=>⟨y1,c::t,skips::sl,by show o.dec=_;rw[y2];simp,by show o.stack=_;rw[y3];simp,⟨⟨p,needs,L.map (·.2),cs,hN,hL.symm,cG,hcl,t8.mono hR.grow⟩,y4⟩,?_⟩⟩;show _=some o.dec;rw[<-hL,Az,Cs,AK,Bu];have tX:((L.map (·.2)).map fun c=>if bi dec needs c then lv (dec++[c])else []).flatten=[]:=by
       rw[List.flatten_eq_nil_iff];intro l hl;obtain⟨d,oR,rfl⟩:=Ak.1 hl;obtain⟨y,hy,rfl⟩:=Ak.1 oR;split
       .rename_i hoy;have hyc:y.2∈Bo x p:=by rw[<-hL];exact Bn _ oR
        refine Mz.2 fun d AbI=>qL hx hs (Dx y hy) (yk y hy).1 (eK y.2 hyc hoy d AbI)
       .rfl
      rw[tX,E7,As FY,List.head?_append,y5];rfl
     .rw[Ah Sa];have Sa:o.found=false:=by simpa using Sa
      obtain⟨n1,n2,n3⟩:=hR.no Sa
      by_cases tK:o.ss.full=true
      .rw[As tK];exact⟨hR.der,hR.grow,fun _=>⟨rfl,rfl,fun h=>by rw[show(⟨0,false,o.ss,dec,st⟩:Kg).ss=o.ss from rfl,tK]at h;cases h⟩,fun h=>(by cases h)⟩
      .rw[Ah tK];have tK:o.ss.full=false:=by simpa using tK
       exact kE _ _ hR.der hR.grow (n3 tK).1 fun _=>(n3 tK).2
end
theorem OA{x:List Rl}{dec:List Cd}{c:Cd}(h:c.rel∈x/\c.rel.yanked=false)(hu:Da dec c.rel.path=false):FI x (dec++[c])<FI x dec:=by
 have key:∀l:List Rl,(l.filter fun r=>!r.yanked&&!Da (dec++[c]) r.path).length<=(l.filter fun r=>!r.yanked&&!Da dec r.path).length /\
   (c.rel∈l->(l.filter fun r=>!r.yanked&&!Da (dec++[c]) r.path).length<(l.filter fun r=>!r.yanked&&!Da dec r.path).length):=by
  intro l
  induction l with
  |nil=>exact⟨Ai _,fun h=>(by cases h)⟩
  |cons r l ih=>
   have mv:(!r.yanked&&!Da (dec++[c]) r.path)=true->(!r.yanked&&!Da dec r.path)=true:=fun e=>by
    simp only[Af,Co]at e⊢;refine⟨e.1,?_⟩
    have:=e.2
    unfold Da at this⊢;rw[GF,MK]at this;exact this.1
   rw[DB,DB];refine⟨?_,fun hm=>?_⟩
   .by_cases e:(!r.yanked&&!Da (dec++[c]) r.path)=true
    .rw[As e,As (mv e)];simp;exact ih.1
    .rw[Ah e];split
     .simp;have:=ih.1;omega
     .exact ih.1
   .rcases Ay.1 hm with rfl | hm
    .have e1:¬(!c.rel.yanked&&!Da (dec++[c]) c.rel.path)=true:=by
      have:Da (dec++[c]) c.rel.path=true:=by unfold Da;simp
      rw[this];simp
     have e2:(!c.rel.yanked&&!Da dec c.rel.path)=true:=by rw[h.2,hu];rfl
     rw[Ah e1,As e2];simp;have:=ih.1;omega
    .have:=ih.2 hm
     by_cases e:(!r.yanked&&!Da (dec++[c]) r.path)=true
     .rw[As e,As (mv e)];simp;exact this
     .rw[Ah e];split
      .simp;omega
      .exact this
 exact(key x).2 h.1
theorem Rw{x:List Rl}{roots:List Rq}(hx:Bd x=0)(hr:B5 roots=0):∀(n:Nat) {dec:List Cd} {s:SS} {st:List (List Sk)},EG x dec->It roots dec->FG x roots s->s.full=false->FI x dec<n ->
  XA x roots (Cn x roots n dec) dec s st (C3 x roots n dec s st)
 |0,_,_,_,_,_,_,_,h=>by omega
 |n+1,dec,s,st,hd,iv,hs,hf,hn=>by
  unfold C3 Cn;cases e:(D6 roots dec).2 with
  |nil=>
   exact⟨hs,.refl s,fun h=>(by cases h),fun _=>⟨hf,[],[],by simp,by simp,UK.1 e,rfl⟩⟩
  |cons n0 l=>
   have hN:=J4 e;have next:∀c∈Bo x (D6 roots dec).1,bi dec (n0::l) c=true->EG x (dec++[c])/\It roots (dec++[c])/\FI x (dec++[c])<n:=fun c hc FY=>by
    obtain⟨c1,c2⟩:=Hu hc;have hu:Da dec c.rel.path=false:=by rw[c1];exact hN.undone
    obtain⟨k1,k2⟩:=KD.1 FY;exact⟨hd.snoc c2 hu,iv.snoc hN c1 k1 k2,by have:=OA (dec:=dec) ⟨c2.1,c2.2.1⟩ hu;omega⟩
   exact Wg hx hr hd iv hN (Ab ..) (lv:=Cn x roots n) (fun c hc FY d oR=>JJ (next c hc FY).1 (next c hc FY).2.1 d oR)
    (fun c hc FY s st hs hf=>Rw hx hr n (next c hc FY).1 (next c hc FY).2.1 hs hf (next c hc FY).2.2) _ [] rfl hs (fun y hy=>by cases hy) (fun _=>⟨fun y hy=>(by cases hy),rfl⟩)
theorem ZN(x:List Rl)(dec:List Cd):FI x dec<=x.length:=BC _ _
theorem NO{x:List Rl}{roots:List Rq}(hx:Bd x=0)(hr:B5 roots=0):XA x roots (Cn x roots (x.length+1) []) [] Kl [] (E6 x roots):=
 Rw hx hr _ (.nil x) (.nil roots) (.nil x roots) rfl (by have:=ZN x [];omega)
def MT(R:Nat):Nat:=[3,8,13,23,33,53,78,113,168,243,348,513,738,1053,1548,2223,3168].getD R 0
theorem o8:∀R≤16,3<=MT R/\∀k≤R,3+2*k+k*MT (R-k)<=MT R\/k=0:=by decide
section
variable {x:List Rl}{roots:List Rq}{p:ByteArray}{needs:List Nd}{n0:Nd}{dec:List Cd}{st:List (List Sk)}
theorem MN(i:Nf)(l:List Tm)(hf:s.full=false)(hc:s.infs.length<=65535):(Eg s i l).2.full=false/\(Eg s i l).2.infs.length<=s.infs.length+1:=⟨Zd i l hf ch,bP s i l⟩
theorem Kz:∀(l:List Nat) {k:Nat} {s:SS},s.full=false->s.infs.length+l.length<=65535->(Cj p l k s).2.full=false/\(Cj p l k s).2.infs.length<=s.infs.length+l.length
 | [],k,s,hf,_=>⟨hf,Ai _⟩
 |r::l,k,s,hf,hc=>by
  rw[Al]at hc⊢;unfold Cj;split
  .exact⟨hf,by show s.infs.length<=_;omega⟩
  split
  .obtain⟨h1,h2⟩:=Kz l (k:=k) hf ch;exact⟨h1,by omega⟩
  split
  .obtain⟨h1,h2⟩:=Kz l (k:=k) hf ch;exact⟨h1,by omega⟩
  .obtain⟨a1,a2⟩:=MN ⟨3,p,0,0,(k:Nat),(r:Nat)⟩ (BK (Eo s k) (Eo s r) p).1 hf ch;obtain⟨h1,h2⟩:=Kz l (k:=(Eg s ⟨3,p,0,0,(k:Nat),(r:Nat)⟩ (BK (Eo s k) (Eo s r) p).1).1) a1 ch;exact⟨h1,by omega⟩
theorem Ux(reasons:List Nat)(hf:s.full=false)(hc:s.infs.length+(3+reasons.length)<=65535):(DT x p n0 reasons s).2.full=false/\(DT x p n0 reasons s).2.infs.length<=s.infs.length+(3+reasons.length):=by
 unfold DT;obtain⟨a1,a2⟩:=MN (NT n0) (H9 n0) hf ch
 change (BD s n0).2.full=false at a1
 change (BD s n0).2.infs.length<=_ at a2
 obtain⟨b1,b2⟩:=MN ⟨2,p,0,0,0,0⟩ (If p (B8 x p)) a1 ch
 change (Ej x p (BD s n0).2).2.full=false at b1
 change (Ej x p (BD s n0).2).2.infs.length<=_ at b2
 obtain⟨h1,h2⟩:=Kz (p:=p) ((Ej x p (BD s n0).2).1::reasons) (k:=(BD s n0).1) b1 (by rw[Al];omega);rw[Al]at h2;exact⟨h1,by omega⟩
theorem TH{rec:List Cd->SS->List (List Sk)->Kg}{B:Nat}(QP:∀c∈Bo x p,∀s st,s.full=false->s.infs.length+B<=65535->(rec (dec++[c]) s st).ss.full=false/\(rec (dec++[c]) s st).ss.infs.length<=s.infs.length+B) :
  ∀(cs:List Cd) {s:SS} {reasons:List Nat} {skips:List Sk},(∀c∈cs,c∈Bo x p)->s.full=false->s.infs.length+(3+(reasons.length+cs.length)+cs.length*(1+B))<=65535 ->
   (D3 rec x p needs n0 dec st cs s reasons skips).ss.full=false/\(D3 rec x p needs n0 dec st cs s reasons skips).ss.infs.length<=s.infs.length+(3+(reasons.length+cs.length)+cs.length*(1+B))
 | [],s,reasons,skips,_,hf,hc=>by
  simp only[Ax,DX,HT]at hc⊢;exact Ux reasons hf hc
 |c::cs,s,reasons,skips,hm,hf,hc=>by
  rw[Ga,Ah (by rw[hf];decide)];simp only[Al]at hc⊢;have QO:(cs.length+1)*(1+B)=cs.length*(1+B)+(1+B):=by rw[E8,Nat.one_mul]
  rw[QO]at hc⊢
  have go:∀(s' : SS) (k:Nat) (Mi : List Sk),s'.full=false->s'.infs.length<=s.infs.length+(1+B) ->
    (D3 rec x p needs n0 dec st cs s' (reasons++[k]) Mi).ss.full=false/\(D3 rec x p needs n0 dec st cs s' (reasons++[k]) Mi).ss.infs.length<=s.infs.length+(3+(reasons.length+(cs.length+1))+(cs.length*(1+B)+(1+B))):=fun s' k Mi ZX hl=>by
   have Ca:(reasons++[k]).length=reasons.length+1:=by simp
   obtain⟨h1,h2⟩:=TH QP cs (s:=s') (reasons:=reasons++[k]) (skips:=Mi) (fun d hd=>hm d (Ae _ hd)) ZX (by rw[Ca];omega);rw[Ca]at h2;exact⟨h1,by omega⟩
  have kE:∀(s' : SS) (k:Nat),s'.full=false->s'.infs.length<=s.infs.length+(1+B) ->
    (IY rec x p needs n0 dec st c cs reasons skips k s').ss.full=false/\(IY rec x p needs n0 dec st c cs reasons skips k s').ss.infs.length<=s.infs.length+(3+(reasons.length+(cs.length+1))+(cs.length*(1+B)+(1+B))):=fun s' k ZX hl=>by
   unfold IY;split
   .exact⟨ZX,by show s'.infs.length<=_;omega⟩
   .exact go s' k _ ZX hl
  cases needs.find? fun n=>!has n.rq.set c.place with
  |some n=>
   obtain⟨a1,a2⟩:=MN (NT n) (H9 n) hf ch;exact go _ _ _ a1 (by show(Eg s (NT n) (H9 n)).2.infs.length<=_;omega)
  |none=>
   dsimp only;cases Ov s.drv (AG (dec++[c]))with
   |some k=>exact kE s k hf ch
   |none=>
    dsimp only;cases DI dec c with
    |some n=>
     obtain⟨a1,a2⟩:=MN (NT n) (H9 n) hf ch;exact kE _ _ a1 (by show(Eg s (NT n) (H9 n)).2.infs.length<=_;omega)
    |none=>
     dsimp only;obtain⟨r1,r2⟩:=QP c (hm c (Ab ..)) s (st++[skips]) hf ch;split
     .exact⟨r1,by show(rec (dec++[c]) s (st++[skips])).ss.infs.length<=_;omega⟩
     rw[Ah (by rw[r1];decide)];exact kE _ _ r1 ch
theorem ZM{c:Cd}(hc:c∈Bo x p)(hu:Da dec p=false):FI x (dec++[c])+(Bo x p).length=FI x dec:=by
 obtain⟨c1,_⟩:=Hu hc;unfold FI Bo;rw[AS];have key:∀l:List Rl,(l.filter fun r=>!r.yanked&&!Da (dec++[c]) r.path).length+(l.filter fun r=>decide (r.path=p)&&!r.yanked).length=(l.filter fun r=>!r.yanked&&!Da dec r.path).length:=by
  intro l
  induction l with
  |nil=>rfl
  |cons r l ih=>
   have ZS:Da (dec++[c]) r.path=(Da dec r.path||decide (p=r.path)):=by unfold Da;rw[GF];simp[c1]
   rw[DB,DB,DB,ZS]
   by_cases e:r.path=p
   .rw[e,hu];cases r.yanked<;>simp<;>omega
   .have e2:decide (p=r.path)=false:=Am (RP e);rw[e2,Sz,Am e];cases r.yanked<;>cases Da dec r.path<;>simp<;>omega
 exact key x
theorem Vg:∀(n:Nat) {dec:List Cd} {s:SS} {st:List (List Sk)},s.full=false->FI x dec<=16->s.infs.length+MT (FI x dec)<=65535 ->
  (C3 x roots n dec s st).ss.full=false/\(C3 x roots n dec s st).ss.infs.length<=s.infs.length+MT (FI x dec)
 |0,_,_,_,hf,_,_=>⟨hf,Nat.le_add_right ..⟩
 |n+1,dec,s,st,hf,hR,hc=>by
  unfold C3;cases e:(D6 roots dec).2 with
  |nil=>exact⟨hf,Nat.le_add_right ..⟩
  |cons n0 l=>
   have hN:=J4 e;dsimp only;obtain⟨m1,m2⟩:=o8 _ hR;cases hcs:Bo x (D6 roots dec).1 with
   |nil=>
    obtain⟨h1,h2⟩:=Ux (x:=x) (p:=(D6 roots dec).1) (n0:=n0) (s:=s) [] hf (by simp;omega);refine⟨h1,?_⟩;show(DT x (D6 roots dec).1 n0 [] s).2.infs.length<=_;simp at h2;omega
   |cons c0 cs0=>
    have Ad:∀c∈Bo x (D6 roots dec).1,FI x (dec++[c])=FI x dec-(Bo x (D6 roots dec).1).length/\(Bo x (D6 roots dec).1).length<=FI x dec:=fun c hc=>by
     have:=ZM (dec:=dec) hc hN.undone
     omega
    have pZ:c0∈Bo x (D6 roots dec).1:=by rw[hcs];exact Ab ..
    have hk:=Ad c0 pZ;have Wx:(Bo x (D6 roots dec).1).length≠0:=by rw[hcs];simp
    have hm:=(m2 _ hk.2).resolve_right Wx;generalize hK:(Bo x (D6 roots dec).1).length=K at *
    have Ca:(c0::cs0).length=K:=by rw[<-hcs];exact hK
    have AbD:3+(([]:List Nat).length+(c0::cs0).length)+(c0::cs0).length*(1+MT (FI x dec-K))<=MT (FI x dec):=by
     rw[Ca,Ax,Nat.mul_add];omega
    have AdX:K<=K*(1+MT (FI x dec-K)):=Nat.le_mul_of_pos_right _ ch;have hB:MT (FI x dec-K)<=K*(1+MT (FI x dec-K)):=by
     calc MT (FI x dec-K)<=1+MT (FI x dec-K):=by omega
      _<=K*(1+MT (FI x dec-K)):=Nat.le_mul_of_pos_left _ ch
    obtain⟨h1,h2⟩:=TH (x:=x) (p:=(D6 roots dec).1) (needs:=n0::l) (n0:=n0) (dec:=dec) (st:=st) (rec:=C3 x roots n) (B:=MT (FI x dec-K)) (fun c hc s st hf hl=>by
     have:=Ad c hc
     have h3:=Vg n (dec:=dec++[c]) (s:=s) (st:=st) hf ch (by rw[this.1];exact hl);rw[this.1]at h3;exact h3) (c0::cs0) (s:=s) (reasons:=[]) (skips:=[]) (fun c hc=>by rw[hcs];exact hc) hf ch
    exact⟨h1,by omega⟩
theorem OR(h:x.length<=16):(E6 x roots).ss.full=false:=by
 have hf:=ZN x [];exact(Vg (x:=x) (roots:=roots) _ (dec:=[]) (s:=Kl) (st:=[]) rfl ch (by
  have:∀R≤16,([]:List Nf).length+MT R<=65535:=by decide
  exact this _ ch)).1
end
abbrev vY(l:List UInt8):ByteArray:=⟨l.toArray⟩
def IN(n:Int):ByteArray:=vY (Go.Lib.itoa n)
theorem bZ(a b c:ByteArray):a++b++c=a++(b++c):=pn B0
def Gr(l:List ByteArray):ByteArray:=vY (Go.Lib.join (l.map (·.data.toList)) Vx.data.toList)
theorem iH(x:ByteArray):Gr Vx [x]=x:=pn (by unfold Gr;simp[Go.Lib.join_one])
theorem Ma(x y:ByteArray)(r:List ByteArray):Gr Vx (x::y::r)=x++(Vx++Gr Vx (y::r)):=pn (by
 unfold Gr;simp only[AK];rw[Go.Lib.join_cons,Go.Lib.join_cons];simp[Go.Lib.joinTail])
theorem QU(x y:ByteArray):Gr Vx [x,y]=x++(Vx++y):=by rw[Ma,iH]
-- versions
abbrev Zh:ByteArray:=⟨#[46]⟩
def Ja(a b c:Int):ByteArray:=IN a++Zh++IN b++Zh++IN c
theorem j7(a b c:Int):Gr Zh [IN a,IN b,IN c]=Ja a b c:=by
 rw[Ma,QU];unfold Ja;simp only[bZ]
theorem vz{α:Type}{l:List α}{i:Nat}(d:α)(h:i<l.length):l[i]?=some (l.getD i d):=by
 rw[BU,At h];rfl
def jZ(v:Ver):ByteArray:=if B3 v then Ja v.a v.b v.c else vY []
theorem Jf(h:n<10):Go.Lib.decDigits n=[UInt8.ofNat (48+n)]:=by rw[Go.Lib.decDigits,dif_pos h]
theorem KM(h:¬n<10):Go.Lib.decDigits n=Go.Lib.decDigits (n / 10)++[UInt8.ofNat (48+n % 10)]:=by rw[Go.Lib.decDigits,dif_neg h]
theorem Ks{k:Nat}(h:k<10):CC (UInt8.ofNat (48+k))=true/\(UInt8.ofNat (48+k)).toNat=48+k:=by
 have:(UInt8.ofNat (48+k)).toNat=48+k:=by rw[UInt8.toNat_ofNat'];omega
 refine⟨?_,this⟩;unfold CC;simp only[Af,Au,Gw,this];exact⟨by show 48<=48+k;omega,by show 48+k<=57;omega⟩
theorem SE:∀(n:Nat),∀c∈Go.Lib.decDigits n,CC c=true:=by
 intro n
 induction n using Nat.strongRecOn with
 |ind n ih=>
  intro c hc
  by_cases h:n<10
  .rw[Jf h,Aj]at hc;rw[hc];exact(Ks h).1
  .rw[KM h,AT,Aj]at hc;rcases hc with hc | hc
   .exact ih (n / 10) ch c hc
   .rw[hc];exact(Ks ch).1
theorem XX(n:Nat):Go.Lib.decDigits n≠[]:=by
 by_cases h:n<10
 .rw[Jf h];simp
 .rw[KM h];simp
def Stop(r:List UInt8):Prop:=r=[]\/∃c t,r=32::c::t/\c≠124
def zg(t:Tm):Bl:=if t.absent then EC t.set else t.set
theorem Mm(s:UInt8):∀(p:List UInt8) (c:UInt8),c∈p->c=s\/∃g∈B2 s p,c∈g
 |b::r,c,hc=>by
  unfold B2
  by_cases hb:b=s
  .rw[As hb];rcases Ay.1 hc with rfl | hc
   .exact .inl hb
   .rcases Mm s r c hc with h | ⟨g,h1,h2⟩
    .exact .inl h
    .exact .inr ⟨g,Ae _ h1,h2⟩
  .rw[Ah hb];cases e:B2 s r with
   |nil=>
    rcases Ay.1 hc with rfl | hc
    .exact .inr ⟨[c],Aj.2 rfl,Aj.2 rfl⟩
    .rcases Mm s r c hc with h | ⟨g,h1,h2⟩
     .exact .inl h
     .rw[e]at h1;cases h1
   |cons x l=>
    rcases Ay.1 hc with rfl | hc
    .exact .inr ⟨c::x,Ab ..,Ab ..⟩
    .rcases Mm s r c hc with h | ⟨g,h1,h2⟩
     .exact .inl h
     .rw[e]at h1;rcases Ay.1 h1 with rfl | h1
      .exact .inr ⟨b::g,Ab ..,Ae _ h2⟩
      .exact .inr ⟨g,Ae _ h1,h2⟩
end Go.Eng
namespace Go.Eng
open Go.Lib (lastIndex index cut occAt atoiAll parseUint10 parseMag decDigits)
theorem WT:∀(l:List UInt8) (acc u:Nat) (m:List UInt8),parseUint10 acc l=.ok u->parseUint10 acc (l++m)=parseUint10 u m
 | [],acc,u,m,h=>by
  simp only[parseUint10]at h
  injection h with h
  rw[h];rfl
 |c::r,acc,u,m,h=>by
  rw[DA];simp only[parseUint10]at h⊢;split at h
  .rename_i h1;rw[As h1];split at h
   .cases h
   .rename_i h2;rw[Ah h2];split at h
    .cases h
    .rename_i h3;rw[Ah h3];exact WT r _ u m h
  .cases h
theorem jp(n:Nat):n<1000000000000000->parseUint10 0 (decDigits n)=.ok n:=by
 induction n using Nat.strongRecOn with
 |ind n ih=>
  intro hn
  by_cases h:n<10
  .rw[Jf h];simp only[parseUint10];rw[(Ks h).2,As ch,Ah ch,Ah ch]
   congr 1;omega
  .rw[KM h,WT _ _ _ _ (ih (n / 10) ch ch)];simp only[parseUint10];rw[(Ks (by omega:n % 10<10)).2,As ch,Ah ch,Ah ch]
   congr 1;omega
theorem kL{n:Nat}(h:n<1000000000000000):atoiAll (decDigits n)=.ok (n:Int):=by
 have hp:=jp n h;cases e:decDigits n with
 |nil=>exact absurd e (XX n)
 |cons c r=>
  have hd:=SE n c (by rw[e];exact Ab ..);unfold CC at hd;simp only[Af,Au,Gw]at hd;have h1:48<=c.toNat:=hd.1;unfold atoiAll;dsimp only;rw[Ah ch]
  have:parseMag (c::r)=.ok n:=by unfold parseMag;rw[Ah (Jd _ _),<-e];exact hp
  rw[this];dsimp only;rw[Ah ch,Ah ch,Ah ch]
end Go.Eng
namespace Go.Eng
theorem gF(a b:ByteArray):(a++b).size=a.size+b.size:=BM
theorem lg(l:List UInt8):(vY l).size=l.length:=by simp[ByteArray.size]
theorem Ut{n:Int}(h0:-9223372036854775808<=n)(h1:n<=9223372036854775807):(IN n).size<=21:=by
 unfold IN;rw[lg];exact Go.Lib.itoa_length_le n h0 h1
theorem RG{a b c:Int}(ha:-1000000000<=a/\a<=1000000000)(hb:-1000000000<=b/\b<=1000000000)(hc:-1000000000<=c/\c<=1000000000):(Ja a b c).size<=65:=by
 unfold Ja;simp only[gF]
 have:=Ut (n:=a) ch ch
 have:=Ut (n:=b) ch ch
 have:=Ut (n:=c) ch ch
 have:Zh.size=1:=rfl
 omega
end Go.Eng
