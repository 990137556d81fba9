/- Lemmas 6. -/
import Derived.Test.YtjhkbdgingfbaaaGreatDoorGA05
import Derived.Laws.IdiomStrings
namespace Go.Eng
variable {E:TypeId}{olds:List Value}{vx:Value}{x:AV}{cx:Cx}{K:HK}
theorem B3.app{g:Gh}{w:World}{U:Nat->Prop}{Pa bs:List AV}{xs ys:List Value}(h:B3 g w U Pa xs)(k:B3 g w U bs ys):B3 g w U (Pa++bs) (xs++ys):=by
 refine⟨by simp[h.1,k.1],fun x hx=>(By.1 hx).elim (h.2.1 x) (k.2.1 x),fun i av x h1 h2=>?_⟩
 by_cases hi:i<Pa.length
 .rw[AQ hi]at h1;rw[AQ (by rw[h.1];exact hi)]at h2;exact h.2.2 i av x h1 h2
 .rw[AL sP]at h1;rw[AL (by rw[h.1];omega),h.1]at h2;exact k.2.2 _ av x h1 h2
theorem Xw(P:Program)(g o:Nat)(t:TypeId)(fz:Nat×Nat)(vs:List Value):∀(i:Nat) (Cl:Array Value) (w:World),w.heap[g]?=some (.cells Cl t fz)->(fz=(0,0)\/Cl.size<=fz.1)->o+i+vs.length<=Cl.size->(∀v∈vs,v.oneCell'=true) ->
  (storeCells ⟨g,o,none⟩ vs i).run P w=.ok () (w.setRow g (Cl.toList.take (o+i)++vs++Cl.toList.drop (o+i+vs.length)).toArray):=by
 induction vs with
 |nil=>
  intro i Cl w hg _ _ _;have e:(Cl.toList.take (o+i)++[]++Cl.toList.drop (o+i+([]:List Value).length)).toArray=Cl:=by simp
  rw[e,setRow_self w g Cl t fz hg];rfl
 |cons v rest ih=>
  intro i Cl w hg hf hl h1;simp only[Am]at hl;have hi:o+i<Cl.size:=by omega
  have ha:(⟨g,o,none⟩:Addr).add i=⟨g,o+i,none⟩:=Addr.add_lit ..;have hc:w.cell? ⟨g,o+i,none⟩=some Cl[o+i]:=by simp[World.cell?,hg,hi]
  have hz:w.frozen? ⟨g,o+i,none⟩=false:=by
   rcases hf with rfl | hf
   .simp[World.frozen?,hg]
   .simp only[World.frozen?,hg,Iy,CB];exact .inl sP
  have h2:(store ((⟨g,o,none⟩:Addr).add i) v).run P w=.ok () (w.setRow g (Cl.setIfInBounds (o+i) v)):=by
   rw[ha,run_store P w _ v _ (h1 v (Ab ..)),hc];simp[hz,setCell_eq_setRow w g (o+i) Cl t fz v hg]
  have h3:=ih (i+1) (Cl.setIfInBounds (o+i) v) (w.setRow g (Cl.setIfInBounds (o+i) v)) (setRow_heap w g Cl _ t _ hg) (by rw[Array.size_setIfInBounds];exact hf) (by rw[Array.size_setIfInBounds];omega) fun x hx=>h1 x (Ai _ hx);have e:(Cl.setIfInBounds (o+i) v).toList.take (o+(i+1))++rest++(Cl.setIfInBounds (o+i) v).toList.drop (o+(i+1)+rest.length)=Cl.toList.take (o+i)++v::rest++Cl.toList.drop (o+i+(v::rest).length):=by
   simpa[Array.toList_setIfInBounds,Nat.add_assoc]using list_seg_step Cl.toList (o+i) v rest (by rw[A4];show o+i+(rest.length+1)<=_;omega)
  rw[storeCells,Sem.run_bind,h2,Result.andThen_ok,h3,setRow_setRow,e]
section
variable {P:Program}{w0:World}{g0:Gh}{h0 h:Nat->HO}{g:Gh}{w:World}(hI:Do w0 g0 h0 h g w)
include hI
omit hI in
theorem L8(t ty e:TypeId)(i:TypeInfo)(ht:P.underlying t=some (.slice e))(hi:P.info? e=some i)(g Kv UJ:Nat)(Cl:Array Value)(hg:w.heap[g]?=some (.cells Cl E (0,0)))(a:Addr)(m c:Nat)(news:List Value)(hl:news.length=m*i.size)(GC:∀j u,news[j]?=some u->w.cell? (a.add j)=some u)(h1:∀u∈news,u.oneCell'=true)(Gj:Kv+m<=UJ)(fQ:Kv*i.size+news.length<=Cl.size) :
  (Builtin.append_ #[t,t] ty #[.slice (some ⟨g,0,none⟩) Kv UJ,.slice (some a) m c]).run P w =
   .ok (.slice (some ⟨g,0,none⟩) (Kv+m) UJ) (w.setRow g (Cl.toList.take (Kv*i.size)++news++Cl.toList.drop (Kv*i.size+news.length)).toArray):=by
 have hf:=run_firstCells_some (P:=P) w i.size m a m c news hl GC;have JM:=run_storeCells_at P g (Kv*i.size) E news 0 Cl w hg (by simpa using fQ) h1;simp only[CJ]at JM;simp[Builtin.append_,run_underlying ht,sizeOf,typeInfo,hi,Builtin.lenOf,Gj,hf,Addr.add_lit,JM]
omit hI in
theorem OE(t ty e:TypeId)(i:TypeInfo)(ht:P.underlying t=some (.slice e))(hi:P.info? e=some i)(g off Kv UJ:Nat)(Cl:Array Value){fz:Nat×Nat}(hg:w.heap[g]?=some (.cells Cl E fz))(dR:fz=(0,0)\/Cl.size<=fz.1)(a:Addr)(m c:Nat)(news:List Value)(hl:news.length=m*i.size)(GC:∀j u,news[j]?=some u->w.cell? (a.add j)=some u)(h1:∀u∈news,u.oneCell'=true)(Gj:Kv+m<=UJ)(fQ:off+Kv*i.size+news.length<=Cl.size) :
  (Builtin.append_ #[t,t] ty #[.slice (some ⟨g,off,none⟩) Kv UJ,.slice (some a) m c]).run P w =
   .ok (.slice (some ⟨g,off,none⟩) (Kv+m) UJ) (w.setRow g (Cl.toList.take (off+Kv*i.size)++news++Cl.toList.drop (off+Kv*i.size+news.length)).toArray):=by
 have hf:=run_firstCells_some (P:=P) w i.size m a m c news hl GC;have JM:=Xw P g (off+Kv*i.size) E fz news 0 Cl w hg dR (by simpa using fQ) h1;simp only[CJ]at JM;simp[Builtin.append_,run_underlying ht,sizeOf,typeInfo,hi,Builtin.lenOf,Gj,hf,Addr.add_lit,JM]
omit hI in
theorem db{b off n m sz cap:Nat}{Cl:Array Value}{fz:Nat×Nat}{news:List Value}(hb:w.heap[b]?=some (.cells Cl E fz))(Sv:Cl.size=off+cap*sz)(hn:n<=cap)(hm:n+m<=cap)(gl:news.length=m*sz)(hol:olds.length=n*sz)(IB:∀j u,olds[j]?=some u->w.cell? ⟨b,off+j,none⟩=some u) :
  (Cl.toList.take (off+n*sz)++news++Cl.toList.drop (off+n*sz+news.length)).length=off+cap*sz /\
  ((Cl.toList.take (off+n*sz)++news++Cl.toList.drop (off+n*sz+news.length)).drop off).take ((n+m)*sz)=olds++news /\
  ∀o,o<off+n*sz->(Cl.toList.take (off+n*sz)++news++Cl.toList.drop (off+n*sz+news.length)).toArray[o]?=Cl[o]?:=by
 have MQ:Cl.toList.length=off+cap*sz:=by rw[A4];exact Sv
 have N1:(n+m)*sz<=cap*sz:=A0 _ hm;have Y9:n*sz<=cap*sz:=A0 _ hn;rw[D1]at N1;have K8:(Cl.toList.take (off+n*sz)).drop off=olds:=by
  apply Cc;intro j
  by_cases hj:j<n*sz
  .rw[BW,Bm sP];have hx:olds[j]?=some olds[j]:=At sP
   have:=IB j _ hx
   rw[Ee hb]at this;rw[Az,this,hx]
  .rw[AN (by rw[BX,Al];omega),AN sP]
 have iN:(Cl.toList.take (off+n*sz)).length=off+n*sz:=by rw[Al];omega
 refine⟨?_,?_,fun o ho=>?_⟩
 .rw[Ac,Ac,iN,BX,MQ,gl];omega
 .rw[B2,List.drop_append_of_le_length (by rw[iN];omega),K8,<-B2,DF (by rw[Ac,hol,gl,D1])]
 .rw[Eu,B2,AQ (by rw[iN];exact ho),Bm ho,Az]
omit hI in
theorem au{b n m sz cap:Nat}{Cl:Array Value}{news:List Value}(hb:w.heap[b]?=some (.cells Cl E (0,0)))(Sv:Cl.size=cap*sz)(hn:n<=cap)(hm:n+m<=cap)(gl:news.length=m*sz)(hol:olds.length=n*sz)(IB:∀j u,olds[j]?=some u->w.cell? ⟨b,j,none⟩=some u) :
  (Cl.toList.take (n*sz)++news++Cl.toList.drop (n*sz+news.length)).length=cap*sz /\
  (Cl.toList.take (n*sz)++news++Cl.toList.drop (n*sz+news.length)).take ((n+m)*sz)=olds++news /\
  ∀o,o<n*sz->(Cl.toList.take (n*sz)++news++Cl.toList.drop (n*sz+news.length)).toArray[o]?=Cl[o]?:=by
 have MQ:Cl.toList.length=cap*sz:=by rw[A4];exact Sv
 have N1:(n+m)*sz<=cap*sz:=A0 _ hm;have Y9:n*sz<=cap*sz:=A0 _ hn;rw[D1]at N1;have K8:Cl.toList.take (n*sz)=olds:=by
  apply Cc;intro j
  by_cases hj:j<n*sz
  .rw[Bm hj];have hx:olds[j]?=some olds[j]:=At sP
   have:=IB j _ hx
   rw[Ee hb]at this;rw[Az,this,hx]
  .rw[AN (by rw[Al];omega),AN sP]
 have iN:(Cl.toList.take (n*sz)).length=n*sz:=by rw[Al];omega
 refine⟨?_,?_,fun o ho=>?_⟩
 .rw[Ac,Ac,iN,BX,MQ,gl];omega
 .rw[K8,DF (by rw[Ac,hol,gl,D1])]
 .rw[Eu,B2,AQ (by rw[iN];exact ho),Bm ho,Az]
theorem PB{r n sz:Nat}{es:List (List AV)}{x:Value}(he:h r=.arr sz es)(hx:Bo g w (AD h) (.msl r n) x)(hn:n=es.length) :
  x=g.ρ r/\∃news,KL w x es.length sz news/\B3 g w D2 es.flatten news:=by
 have ho:=hI.objs r;rw[he]at ho;obtain⟨t1,l1,al,a1⟩:=ho;cases hx with
 |msl _ _ _ a cap hu ht Za ha IL=>
  have e:=IL (hn.trans l1.symm);refine⟨e,?_⟩;rw[e];rcases a1 with ⟨rfl,e2,e3⟩ | ⟨b,HL,E,vs,e1,e2,e3,e4,e5,e6,e7⟩
  .exact⟨[],⟨by simp,by simp,none,0,e2,.inl rfl⟩,by simp,by simp,fun i av x h1 h2=>by simp at h2⟩
  .have Sv:vs.toList.length=HL*sz:=by rw[A4];exact e5
   have Fc:es.length*sz<=vs.toList.length:=by rw[Sv];exact A0 _ e3
   refine⟨vs.toList.take (es.length*sz),⟨by rw[Al,JJ Fc],e6.2.1,_,_,e1,.inr ⟨_,rfl,fun j u hj=>?_⟩⟩,e6⟩;rw[Addr.add_lit,Bf,Ee e4];have Dc:=(Au.1 hj).1;rw[Al]at Dc;rw[Bm sP,Az]at hj;exact hj
theorem Wh{sz:Nat}{K:List (List AV)->Prop}(hx:Bo g w (AD h) x vx)(hk:Il h x K) :
  ∃es,K es/\((∀c∈es,c.length=sz)->∃news,KL w vx es.length sz news/\B3 g w D2 es.flatten news):=by
 unfold Il at hk;split at hk
 .exact⟨_,hk,fun hl=>KL.of_rep hx.slice_none hl⟩
 .obtain rfl:=hx.v_eq;exact⟨[],hk,fun _=>⟨[],⟨by simp,by simp,none,0,rfl,.inl rfl⟩,by simp,by simp,fun i av x h1 h2=>by simp at h2⟩⟩
 .rename_i r n;split at hk
  .rename_i ES es e;obtain⟨hn,hk⟩:=hk;refine⟨es,hk,fun hl=>?_⟩;obtain⟨_,news,n1,n2⟩:=PB hI e hx hn;refine⟨news,?_,n2⟩
   have:news.length=es.length*sz:=by rw[n2.1,Cr hl]
   exact⟨this,n1.2.1,n1.2.2⟩
  .exact hk.elim
 .exact hk.elim
theorem WR{d:Option Nat}{sz:Nat}(hk:Dv cx d h sz [] K) :
  ∃g' av h',K av h'/\Do w0 g0 h0 h' g' w/\Le h g w h' g' w/\Bo g' w (AD h') av (.slice none 0 0):=by
 have base:∀(d:Nat) (o' : HO),h d=.free->o'≠.free->(∀g' : Gh,g'.ρ d=.slice none 0 0->g'.ln d=0->g'.tk d=true->g'.own d=none->C3 g' w (AD (AH h d o')) d o') ->
   Do w0 g0 h0 (AH h d o') (g.upd d (.slice none 0 0) 0 true none g.S) w/\Le h g w (AH h d o') (g.upd d (.slice none 0 0) 0 true none g.S) w:=by
  intro d o' hd Dn G0;refine hI.upd d o' _ _ _ _ _ w none ⟨rfl,rfl,rfl,Ad _⟩ (fun _ _ _=>rfl) (fun b e=>by cases e) (fun _ _ h=>h) (fun _ _ h=>.inl h) (fun b o e=>by cases e) (fun b _ e=>by cases e) Dn (fun hu=>absurd hd hu) (fun _ _=>?_);obtain⟨u1,u2,u3,u4⟩:=Bi g d (.slice none 0 0) 0 true none g.S;exact G0 _ u1 u2 u3 u4
 unfold Dv at hk;split at hk
 .exact hk.elim
 .rename_i d;generalize He cx d=d1 at hk;split at hk
  .rename_i hd;split at hk
   .obtain⟨k1,k2⟩:=base d1 (.arr sz []) hd sS (fun g' u1 u2 u3 u4=>⟨u3,u2,by simp,.inl ⟨rfl,u1,u4⟩⟩);exact⟨_,_,_,hk,k1,k2,.msl _ d1 0 none 0 (by unfold AD;rw[AM];simp) (by simp[Gh.upd]) (Ar _) (.inl rfl) (fun _=>by simp[Gh.upd])⟩
   .obtain⟨k1,k2⟩:=base d1 (.tok sz 0) hd sS (fun g' u1 u2 u3 u4=>⟨u3,u2,none,0,u1,.inl ⟨rfl,u4⟩⟩);exact⟨_,_,_,hk,k1,k2,.tok _ d1 sz [] _ (.snil _ _ _) sS (by unfold AD;rw[AM];simp) (by simp[Gh.upd]) (Ar _) (fun _=>by simp[Gh.upd])⟩
  .exact hk.elim
theorem TW(hT:B7 P cx.T){d:Option Nat}{t ty:Nat}{s:AV}{vs:Value}(hs:Bo g w (AD h) s vs)(hx:Bo g w (AD h) x vx)(hk:GH cx d h t s x K) :
  Kb P w0 g0 h0 h g w (Builtin.append_ #[t,t] ty #[vs,vx]) K:=by
 unfold GH at hk;split at hk
 .rename_i e ht;split at hk
  .exact hk.elim
  .rename_i hz;have hz:=AB hz;split at hk
   .exact hk.elim
   .rename_i k Dm;have h5:=Wh hI (sz:=(cx.T e).size) hx hk
    clear hk
    obtain⟨es2,hk,h6⟩:=h5;split at hk
    .obtain⟨⟨q1,q2,q3⟩,hk⟩:=hk;obtain rfl:=hs.v_eq;obtain⟨news,n1,n2⟩:=h6 (El q1);obtain⟨m1,m2,a,c,rfl,m4⟩:=n1
     by_cases hm:es2.length=0
     .obtain rfl:=AF hm;obtain⟨g',av,h',k1,k2,k3,k4⟩:=WR hI hk;exact⟨_,w,g',av,h',Gx hT w ht Dm none a 0 0 c (Ad _),k1,k2,k3,k4⟩
     .obtain⟨nc,rest,r1,r2,r3⟩:=FQ hT w (ty:=ty) ht Dm hz (olds:=[]) (a:=none) (n:=0) (cap:=0) ⟨by simp,by simp,none,0,rfl,.inl rfl⟩ rfl (fun _=>rfl) ⟨m1,m2,a,c,rfl,m4⟩ rfl sP sP (by rw[Bf];exact q2) sP;obtain⟨g',av,h',k1,k2,k3,k4⟩:=Hk hI hk (vs:=([]++news++rest).toArray) (cap:=nc) e (El q1) sP (by simpa using r3) (by
       rw[JH,show(news++rest).toArray.toList=news++rest from rfl,DF m1];exact n2) w.drew ⟨rfl,rfl,rfl,rfl⟩
      rw[Bf]at r1;exact⟨_,_,g',av,h',r1,k1,k2,k3,k4⟩
    .rename_i ES es;split at hk
     .rename_i Mt;obtain Mt:=AB Mt;obtain⟨⟨q1,q2,q3,q4⟩,hk⟩:=hk;obtain⟨news,n1,n2⟩:=h6 (El q1);obtain⟨m1,m2,a2,c2,rfl,m4⟩:=n1;cases hs with
      |full _ _ _ _ hr RK IL=>
       obtain⟨a,rfl⟩:=IL;have EM:∀c∈es++es2,c.length=(cx.T e).size:=fun c hc=>(By.1 hc).elim (fun h=>(RK c h).trans Mt) (El q1 c);obtain⟨olds,o1,o2⟩:=KL.of_rep hr (sz:=(cx.T e).size) (fun c hc=>(RK c hc).trans Mt);have WA:=o2.app n2;rw[<-Ec]at WA;have ha:a=none->es.length=0:=by
        rintro rfl
        obtain⟨p1,p2,a',c',p3,p4⟩:=o1;cases p3;rcases p4 with h | ⟨b',h,_⟩
        .exact h
        .cases h
       obtain⟨nc,rest,r1,r2,r3⟩:=FQ hT w (ty:=ty) ht Dm hz o1 rfl ha ⟨m1,m2,a2,c2,rfl,m4⟩ rfl q2 sP q3 q4;obtain⟨g',av,h',k1,k2,k3,k4⟩:=Hk hI hk (vs:=(olds++news++rest).toArray) (cap:=nc) e EM (by rw[Ac];exact r2) (by rw[CF];exact r3) (by
        rw[show(olds++news++rest).toArray.toList=olds++news++rest from rfl,DF (by rw[Ac,Ac,o1.1,m1,D1])];exact WA) w.drew ⟨rfl,rfl,rfl,rfl⟩
       rw[Ac]at k4;exact⟨_,_,g',av,h',r1,k1,k2,k3,k4⟩
     .exact hk.elim
    .rename_i r ES es;have ho:=hI.objs r;split at hk
     .rename_i sz n e0;rw[e0]at ho;split at hk
      .rename_i Mt oG;obtain rfl:=AB oG;obtain Mt:=AB Mt;obtain⟨⟨q1,q2,q3,q4⟩,hk⟩:=hk;rw[Mt]at q1;obtain⟨news,n1,n2⟩:=h6 (El q1);obtain⟨m1,m2,a2,c2,rfl,m4⟩:=n1;obtain⟨t1,l1,a,cap,a1,a3⟩:=ho;have hl:(h r).live:=by rw[e0];trivial
       have EM:∀c∈es++es2,es.length=n->True:=fun _ _ _=>trivial;cases hs with
       |tok _ _ _ _ _ hr RK hu ht' hn IL=>
        have hv:=IL (q2.trans l1.symm);rw[a1]at hv;subst hv;subst q2;have EM:∀c∈es++es2,c.length=ES:=fun c hc=>(By.1 hc).elim (RK c) (fun h=>(El q1 c h).trans Mt.symm);obtain⟨olds,o1,o2⟩:=KL.of_rep hr RK;have WA:=o2.app n2;rw[<-Ec]at WA;have Vc:es.length<=cap:=by rcases a3 with ⟨e1,_⟩ | ⟨e1,_⟩<;>omega
        by_cases hm:es2.length=0
        .obtain rfl:=AF hm;have G0:=hI.objs r;rw[e0]at G0
         obtain⟨k1,k2⟩:=hI.upd r (.tok ES (es.length+([]:List (List AV)).length)) (g.ρ r) (g.ln r) (g.tk r) (g.own r) g.S w none ⟨rfl,rfl,rfl,Ad _⟩ (fun _ _ _=>rfl) (fun b e=>by cases e) (fun _ _ h=>h) (fun _ _ h=>.inl h) (fun b o e=>by cases e)
          (fun b _ e=>⟨(hI.loc r b hl e).1,.inl ⟨hl,e⟩⟩) sS (fun _=>⟨rfl,Ad _,fun _=>rfl,fun _=>rfl⟩) (fun hg FW=>by
           obtain⟨u1,u2,u3,u4⟩:=Bi g r (g.ρ r) (g.ln r) (g.tk r) (g.own r) g.S;rw[Aw,CJ];exact G0.same FW (fun i hi=>CV sS i hi) hg u1 u2 u3 u4 (fun b _ _=>⟨rfl,fun _ h=>h⟩))
         refine⟨_,w,_,_,_,Gx hT w ht Dm a a2 es.length cap c2 Vc,hk,k1,k2,?_⟩;rw[BR];exact(Bo.tok (AD h) r ES es _ hr RK hu ht' hn IL).le k2
        .by_cases Gj:es.length+es2.length<=cap
         .rcases a3 with ⟨e1,_⟩ | ⟨e1,b,E,Cl,off,rfl,e3,⟨fz,e4,pA⟩,e5,e6⟩
          .omega
          .rcases m4 with h | ⟨ba,rfl,GC⟩
           .omega
           .obtain⟨i,z,i1,i2,i3,i4,i5⟩:=FF hT Dm;have N1:(es.length+es2.length)*ES<=cap*ES:=A0 _ Gj;have ga:news.length=es2.length*ES:=by rw[Mt];exact m1
            have Um:i.size=ES:=i3.trans Mt.symm;have Ce:=OE (P:=P) t ty e i (hT.slice ht) i1 b off es.length cap Cl e4 pA ba es2.length c2 news (by rw[Um];exact ga) GC m2 Gj (by rw[Um,ga,e5];rw[D1]at N1;omega);rw[Um]at Ce;have IB:∀j u,olds[j]?=some u->w.cell? ⟨b,off+j,none⟩=some u:=by
             obtain⟨p1,p2,a',c',p3,p4⟩:=o1;cases p3;intro j u hj;rcases p4 with h | ⟨b',h,h'⟩
             .rw[h,Gt]at p1;rw[AF p1]at hj;simp at hj
             .cases h
              have:=h' j u hj
              rwa [Addr.add_lit]at this
            obtain⟨p1,p2,p3⟩:=db e4 e5 e1 Gj ga o1.1 IB;generalize hnewd:Cl.toList.take (off+es.length*ES)++news++Cl.toList.drop (off+es.length*ES+news.length)=new at Ce p1 p2 p3;have Dz:=setRow_heap w b Cl new.toArray E fz e4;have Wr:=(hI.loc r b hl e3).1
            obtain⟨k1,k2⟩:=hI.upd r (.tok ES (es.length+es2.length)) (.slice (some ⟨b,off,none⟩) (es.length+es2.length) cap) (es.length+es2.length) (g.tk r) (g.own r) (g.more b (off+(es.length+es2.length)*ES)) (w.setRow b new.toArray) (some b)
             ⟨rfl,rfl,rfl,by rw[size_setRow];exact Ad _⟩ (fun k _ Dn=>setRow_other w b k _ (fun e=>Dn (by rw[e]))) (fun b' e=>by cases e;exact⟨hl,e3⟩) (fun _ _ h=>.inl h)
             (fun b' o hs=>hs.elim .inl (fun hs=>.inr ⟨by rw[size_setRow,hs.1];exact Wr,.inr ⟨hl,by rw[hs.1];exact e3⟩⟩))
             (fun b' o e hs=>by
              cases e
              refine⟨?_,fun es ck he=>by rw[e4]at he;cases he⟩;rw[Ee Dz,Ee e4];exact p3 o (e6 o hs)) (fun b' _ e=>by
              rw[e3]at e;cases e;exact⟨by rw[size_setRow];exact Wr,.inl ⟨hl,e3⟩⟩) sS (fun _=>⟨rfl,by omega,fun e=>(by rw[t1]at e;cases e),fun e=>by omega⟩) (fun hg FW=>by
              obtain⟨u1,u2,u3,u4⟩:=Bi g r (.slice (some ⟨b,off,none⟩) (es.length+es2.length) cap) (es.length+es2.length) (g.tk r) (g.own r) (g.more b (off+(es.length+es2.length)*ES));exact⟨u3.trans t1,u2,_,cap,u1,  .inr ⟨Gj,b,E,_,off,rfl,u4.trans e3,⟨fz,Dz,pA.imp id fun h=>by rw[CF,p1,<-e5];exact h⟩,by rw[CF];exact p1,fun o ho=>by
               rcases ho with ho | ⟨_,ho⟩
               .have h1:=e6 o ho;have h2:es.length*ES<=(es.length+es2.length)*ES:=A0 _ sP;omega
               .exact ho⟩⟩)
            have Dd:=Bo.slice_off (g:=g.upd r (.slice (some ⟨b,off,none⟩) (es.length+es2.length) cap) (es.length+es2.length) (g.tk r) (g.own r) (g.more b (off+(es.length+es2.length)*ES))) (U:=AD (AH h r (.tok ES (es.length+es2.length)))) (cap:=cap) (es:=es++es2) Dz EM (by rw[Ac];exact Gj) (by
             rw[Ac,show new.toArray.toList=new from rfl,p2];exact WA.mono k2.keeps (fun _ h=>h) (fun _ h=>h.elim)) (fun o ho=>.inr ⟨rfl,by rw[Ac]at ho;exact Nat.add_lt_add_left ho off⟩)
            rw[Ac]at Dd;exact⟨_,_,_,_,_,Ce,hk,k1,k2,.tok _ r ES _ _ Dd EM (by unfold AD;rw[AM];simp) (by simp[Gh.upd,t1]) (by simp[Gh.upd]) (fun _=>by simp[Gh.upd])⟩
         .have J3:cap<es.length+es2.length:=by omega
          have ha:a=none->cap=0:=by
           rintro rfl
           rcases a3 with ⟨e1,_⟩ | ⟨_,b,_,_,_,e2,_⟩
           .obtain⟨p1,p2,a',c',p3,p4⟩:=o1;cases p3;rcases p4 with h | ⟨b',h,_⟩
            .omega
            .cases h
           .cases e2
          obtain⟨nc,rest,r1,r2,r3⟩:=FQ hT w (ty:=ty) ht Dm hz (by rw[<-Mt];exact o1) rfl ha ⟨m1,m2,a2,c2,rfl,m4⟩ rfl sP J3 q3 q4;have Dz:=E7 w.drew (.cells (olds++news++rest).toArray e (0,0)) (b:=w.heap.size) rfl
          obtain⟨k1,k2⟩:=hI.upd r (.tok ES (es.length+es2.length)) (.slice (some ⟨w.heap.size,0,none⟩) (es.length+es2.length) nc) (es.length+es2.length) (g.tk r) (some w.heap.size) (g.more w.heap.size ((es.length+es2.length)*ES))
           (w.drew.alloc (.cells (olds++news++rest).toArray e (0,0))) none
           ⟨rfl,rfl,rfl,by rw[World.size_alloc];exact Nat.le_succ _⟩ (fun k hk' _=>by rw[heap_alloc_old _ _ (by exact hk')];rfl) (fun b' e=>by cases e) (fun _ _ h=>.inl h)
           (fun b' o hs=>hs.elim .inl (fun hs=>.inr ⟨by rw[World.size_alloc,hs.1];exact En _,.inl (by rw[hs.1];exact Ad _)⟩))
           (fun b' o e=>by cases e) (fun b' _ e=>by cases e;exact⟨by rw[World.size_alloc];exact En _,.inr (Ad _)⟩) sS (fun _=>⟨rfl,by omega,fun e=>(by rw[t1]at e;cases e),fun e=>by omega⟩) (fun hg FW=>by
            obtain⟨u1,u2,u3,u4⟩:=Bi g r (.slice (some ⟨w.heap.size,0,none⟩) (es.length+es2.length) nc) (es.length+es2.length) (g.tk r) (some w.heap.size) (g.more w.heap.size ((es.length+es2.length)*ES));exact⟨u3.trans t1,u2,_,nc,u1,.inr ⟨r2,w.heap.size,e,_,0,rfl,u4,.of Dz,by rw[CF,Mt,Bf];exact r3,fun o ho=>by
             rcases ho with ho | ⟨_,ho⟩
             .have:=hI.slt _ _ ho;omega
             .omega⟩⟩)
          have Dd:=Bo.slice_row (g:=g.upd r (.slice (some ⟨w.heap.size,0,none⟩) (es.length+es2.length) nc) (es.length+es2.length) (g.tk r) (some w.heap.size) (g.more w.heap.size ((es.length+es2.length)*ES))) (U:=AD (AH h r (.tok ES (es.length+es2.length)))) (cap:=nc) (es:=es++es2) Dz EM (by rw[Ac];exact r2) (by
           rw[Ac,show(olds++news++rest).toArray.toList=olds++news++rest from rfl,DF (by rw[Ac,o1.1,m1,Mt,D1])];exact WA.mono k2.keeps (fun _ h=>h) (fun _ h=>h.elim)) (fun o ho=>.inr ⟨rfl,by rw[Ac]at ho;exact ho⟩)
          rw[Ac]at Dd;exact⟨_,_,_,_,_,r1,hk,k1,k2,.tok _ r ES _ _ Dd EM (by unfold AD;rw[AM];simp) (by simp[Gh.upd,t1]) (by simp[Gh.upd]) (fun _=>by simp[Gh.upd])⟩
      .exact hk.elim
     .exact hk.elim
    .rename_i r n;have ho:=hI.objs r;split at hk
     .rename_i sz es e0;split at hk
      .rename_i Mt;obtain Mt:=AB Mt;obtain⟨⟨q1,q2,q3,q4⟩,hk⟩:=hk;rw[Mt]at q1;obtain⟨news,n1,n2⟩:=h6 (El q1);obtain⟨m1,m2,a2,c2,rfl,m4⟩:=n1;obtain⟨hv,olds,o1,o2⟩:=PB hI e0 hs q2.symm;have G0:=ho;rw[e0]at ho;obtain⟨t1,l1,al,a3⟩:=ho;have hl:(h r).live:=by rw[e0];trivial
       subst hv;have EM:∀c∈es++es2,c.length=sz:=fun c hc=>(By.1 hc).elim (al c) (fun h=>(El q1 c h).trans Mt.symm);have WA:=o2.app n2;rw[<-Ec]at WA;obtain⟨a,cap,hρ,Vc,ha⟩:∃a cap,g.ρ r=.slice a es.length cap/\es.length<=cap/\(a=none->cap=0):=by
        rcases a3 with ⟨rfl,e2,e3⟩ | ⟨b,cap,E,Cl,e1,e2,e3,e4,e5,e6,e7⟩
        .exact⟨none,0,e2,Ad _,fun _=>rfl⟩
        .exact⟨_,cap,e1,e3,fun e=>by cases e⟩
       by_cases hm:es2.length=0
       .obtain rfl:=AF hm;rw[e0]at G0
        obtain⟨k1,k2⟩:=hI.upd r (.arr sz (es++[])) (g.ρ r) (g.ln r) (g.tk r) (g.own r) g.S w none ⟨rfl,rfl,rfl,Ad _⟩ (fun _ _ _=>rfl) (fun b e=>by cases e) (fun _ _ h=>h) (fun _ _ h=>.inl h) (fun b o e=>by cases e)
         (fun b _ e=>⟨(hI.loc r b hl e).1,.inl ⟨hl,e⟩⟩) sS (fun _=>⟨rfl,Ad _,fun _=>rfl,fun _=>rfl⟩) (fun hg FW=>by
          obtain⟨u1,u2,u3,u4⟩:=Bi g r (g.ρ r) (g.ln r) (g.tk r) (g.own r) g.S;rw[BR];exact G0.same FW (fun i hi=>CV sS i hi) hg u1 u2 u3 u4 (fun b _ _=>⟨rfl,fun _ h=>h⟩))
        refine⟨g.ρ r,w,_,_,_,?_,hk,k1,k2,?_⟩
        .rw[hρ];exact Gx hT w ht Dm a a2 es.length cap c2 Vc
        .have:=hs.le k2
         rw[<-q2]at this;exact this
       .by_cases Gj:es.length+es2.length<=cap
        .rcases a3 with ⟨rfl,e2,e3⟩ | ⟨b,HL,E,Cl,e1,e2,e3,e4,e5,e6,e7⟩
         .rw[e2]at hρ;cases hρ;omega
         .rw[e1]at hρ;simp only[Value.slice.injEq,true_and]at hρ;obtain⟨rfl,rfl⟩:=hρ;rcases m4 with h | ⟨ba,rfl,GC⟩
          .omega
          .obtain⟨i,z,i1,i2,i3,i4,i5⟩:=FF hT Dm;have N1:(es.length+es2.length)*sz<=HL*sz:=A0 _ Gj;have ga:news.length=es2.length*sz:=by rw[Mt];exact m1
           have Um:i.size=sz:=i3.trans Mt.symm;have Ce:=L8 (P:=P) t ty e i (hT.slice ht) i1 b es.length HL Cl e4 ba es2.length c2 news (by rw[Um];exact ga) GC m2 Gj (by rw[Um,ga,<-D1,e5];exact N1);rw[Um]at Ce;have IB:∀j u,olds[j]?=some u->w.cell? ⟨b,j,none⟩=some u:=by
            obtain⟨p1,p2,a',c',p3,p4⟩:=o1;rw[e1]at p3;cases p3;intro j u hj;rcases p4 with h | ⟨b',h,h'⟩
            .rw[h,Gt]at p1;rw[AF p1]at hj;simp at hj
            .cases h
             have:=h' j u hj
             rwa [Addr.add_lit,Bf]at this
           obtain⟨p1,p2,p3⟩:=au e4 e5 e3 Gj ga o1.1 IB;generalize hnewd:Cl.toList.take (es.length*sz)++news++Cl.toList.drop (es.length*sz+news.length)=new at Ce p1 p2 p3;have Dz:=setRow_heap w b Cl new.toArray E (0,0) e4;have Wr:=(hI.loc r b hl e2).1
           obtain⟨k1,k2⟩:=hI.upd r (.arr sz (es++es2)) (.slice (some ⟨b,0,none⟩) (es.length+es2.length) HL) (es.length+es2.length) (g.tk r) (g.own r) g.S (w.setRow b new.toArray) (some b)
            ⟨rfl,rfl,rfl,by rw[size_setRow];exact Ad _⟩ (fun k _ Dn=>setRow_other w b k _ (fun e=>Dn (by rw[e]))) (fun b' e=>by cases e;exact⟨hl,e2⟩) (fun _ _ h=>h) (fun _ _ h=>.inl h)
            (fun b' o e hs=>by cases e;exact absurd hs (e7 o)) (fun b' _ e=>by
             rw[e2]at e;cases e;exact⟨by rw[size_setRow];exact Wr,.inl ⟨hl,e2⟩⟩) sS (fun _=>⟨rfl,by omega,fun e=>(by rw[t1]at e;cases e),fun e=>by omega⟩) (fun hg FW=>by
             obtain⟨u1,u2,u3,u4⟩:=Bi g r (.slice (some ⟨b,0,none⟩) (es.length+es2.length) HL) (es.length+es2.length) (g.tk r) (g.own r) g.S;refine⟨u3.trans t1,by rw[u2,Ac],EM,.inr ⟨b,HL,E,_,by rw[u1,Ac],u4.trans e2,by rw[Ac];exact Gj,Dz,by rw[CF];exact p1,?_,e7⟩⟩;rw[Ac,show new.toArray.toList=new from rfl,p2];exact WA.mono FW (fun _ h=>h) (fun _ h=>h.elim))
           rw[e1];exact⟨_,_,_,_,_,Ce,hk,k1,k2,.msl _ r _ _ _ (by unfold AD;rw[AM];simp) (by simp[Gh.upd,t1]) (by simp[Gh.upd]) (.inr ⟨_,rfl⟩) (fun _=>by simp[Gh.upd])⟩
        .have J3:cap<es.length+es2.length:=by omega
         obtain⟨nc,rest,r1,r2,r3⟩:=FQ hT w (ty:=ty) ht Dm hz (by rw[<-Mt];exact o1) hρ ha ⟨m1,m2,a2,c2,rfl,m4⟩ rfl sP J3 q3 q4;have Dz:=E7 w.drew (.cells (olds++news++rest).toArray e (0,0)) (b:=w.heap.size) rfl
         obtain⟨k1,k2⟩:=hI.upd r (.arr sz (es++es2)) (.slice (some ⟨w.heap.size,0,none⟩) (es.length+es2.length) nc) (es.length+es2.length) (g.tk r) (some w.heap.size) g.S
          (w.drew.alloc (.cells (olds++news++rest).toArray e (0,0))) none
          ⟨rfl,rfl,rfl,by rw[World.size_alloc];exact Nat.le_succ _⟩ (fun k hk' _=>by rw[heap_alloc_old _ _ (by exact hk')];rfl) (fun b' e=>by cases e) (fun _ _ h=>h) (fun _ _ h=>.inl h)
          (fun b' o e=>by cases e) (fun b' _ e=>by cases e;exact⟨by rw[World.size_alloc];exact En _,.inr (Ad _)⟩) sS (fun _=>⟨rfl,by omega,fun e=>(by rw[t1]at e;cases e),fun e=>by omega⟩) (fun hg FW=>by
           obtain⟨u1,u2,u3,u4⟩:=Bi g r (.slice (some ⟨w.heap.size,0,none⟩) (es.length+es2.length) nc) (es.length+es2.length) (g.tk r) (some w.heap.size) g.S;refine⟨u3.trans t1,by rw[u2,Ac],EM,.inr ⟨w.heap.size,nc,e,_,by rw[u1,Ac],u4,by rw[Ac];exact r2,Dz,by rw[CF,Mt];exact r3,?_,fun o ho=>by have:=hI.slt _ _ ho;omega⟩⟩;rw[Ac,show(olds++news++rest).toArray.toList=olds++news++rest from rfl,DF (by rw[Ac,o1.1,m1,Mt,D1])];exact WA.mono FW (fun _ h=>h) (fun _ h=>h.elim))
         exact⟨_,_,_,_,_,r1,hk,k1,k2,.msl _ r _ _ _ (by unfold AD;rw[AM];simp) (by simp[Gh.upd,t1]) (by simp[Gh.upd]) (.inr ⟨_,rfl⟩) (fun _=>by simp[Gh.upd])⟩
      .exact hk.elim
     .exact hk.elim
    .exact hk.elim
 .exact hk.elim
theorem Wb(hT:B7 P cx.T){d:Option Nat}{s t:Nat}(hx:Bo g w (AD h) x vx)(hk:T8 cx d h s t x K):Kb P w0 g0 h0 h g w (convert s t vx) K:=by
 unfold T8 at hk;split at hk
 .rename_i e b hs ht;split at hk
  .rename_i d he;generalize He cx d=d1 at hk;split at hk
   .rename_i hd;obtain rfl:=hx.v_eq;have Ce:=run_bytes_of_string (P:=P) w s t e b (hT.string hs) (hT.slice ht) (hT.int he);have I4:b.size<=grownCap w b.size 0 e:=grownCap_ge w b.size 0 e;generalize grownCap w b.size 0 e=cap at Ce I4;have BQ:(Ij b).length=b.size:=by
     show(b.data.toList.map _).length=b.size;rw[AO,A4];rfl
    have nT:b.data.toList.length=b.size:=by rw[A4];rfl
    have Uq:(bytesRow b cap).size=cap:=by
     show(b.data.map _++Array.replicate _ _).size=cap;rw[Array.size_append,Array.size_map,Array.size_replicate];show b.size+_=cap;omega
    have bj:(bytesRow b cap).toList.take ((Ij b).length*1)=b.data.toList.map fun c=>Value.int .u8 c.toNat:=by
     show(b.data.map _++Array.replicate _ _).toList.take _=_;rw[Array.toList_append,Array.toList_map,BQ,Gc,DF (by rw[AO,nT])]
    have hfl:(Ij b).flatten=(b.data.toList.map fun c=>Value.int .u8 c.toNat).map AV.v:=by
     rw[Cw]
     have:∀l:List UInt8,(l.map fun c=>[AV.v (.int .u8 c.toNat)]).flatten=l.map (AV.v ∘ fun c=>Value.int .u8 c.toNat):=fun l=>by
      induction l with
      |nil=>rfl
      |cons c l ih=>rw[Bq,Co,ih];rfl
     exact this _
    have K7:∀l:List UInt8,EY ((l.map fun c=>Value.int .u8 c.toNat).map AV.v)=true:=fun l=>by
     induction l with
     |nil=>rfl
     |cons c l ih=>exact ih
    have hr:B3 g w D2 (Ij b).flatten ((bytesRow b cap).toList.take ((Ij b).length*1)):=by
     rw[bj,hfl];exact B3.vals (K7 _)
    have hl:∀cs∈Ij b,cs.length=1:=fun cs hc=>by obtain⟨c,_,rfl⟩:=AA.1 hc;rfl
    generalize bytesRow b cap=vs at Ce Uq hr;rw[<-BQ]at Ce I4;generalize Ij b=es at *
    have Dz:(w.drew.alloc (.cells vs e (vs.size,vs.size+1))).heap[w.heap.size]?=some (.cells vs e (vs.size,vs.size+1)):=E7 w.drew _ rfl
    have nW:=hI.upd d1 (.tok 1 es.length) (.slice (some ⟨w.heap.size,0,none⟩) es.length cap) es.length true (some w.heap.size) (g.more w.heap.size (es.length*1)) (w.drew.alloc (.cells vs e (vs.size,vs.size+1))) none
     ⟨rfl,rfl,rfl,by rw[World.size_alloc];exact Nat.le_succ _⟩ (fun k hk' _=>by rw[heap_alloc_old _ _ (by exact hk')];rfl) (fun b e=>by cases e) (fun _ _ h=>.inl h)
     (fun b o hb=>by
      rcases hb with hb | ⟨rfl,_⟩
      .exact .inl hb
      .exact .inr ⟨by rw[World.size_alloc];exact En _,.inl (Ad _)⟩) (fun b o e=>by cases e)
     (fun b _ e=>by cases e;rw[World.size_alloc];exact⟨En _,.inr (Ad _)⟩) sS (fun hu=>absurd hd hu) (fun hg FW=>by
      obtain⟨u1,u2,u3,u4⟩:=Bi g d1 (.slice (some ⟨w.heap.size,0,none⟩) es.length cap) es.length true (some w.heap.size) (g.more w.heap.size (es.length*1));exact⟨u3,u2,_,cap,u1,.inr ⟨I4,w.heap.size,e,vs,0,rfl,u4,⟨_,Dz,.inr (Ad _)⟩,by rw[Uq,Bf,Gc],fun o ho=>by
       rcases ho with ho | ⟨_,ho⟩
       .have:=hI.slt _ _ ho;omega
       .omega⟩⟩)
    obtain⟨k1,k2⟩:=nW;refine⟨_,_,_,_,_,Ce,hk,k1,k2,.tok _ d1 1 es _ (Bo.slice_row Dz hl I4 (hr.mono k2.keeps (fun _ h=>h) (fun _ h=>h.elim)) (fun o ho=>.inr ⟨rfl,ho⟩)) hl (by unfold AD;rw[AM];simp) ?_ ?_ ?_⟩<;>simp[Gh.upd]
   .exact hk.elim
  .exact hk.elim
 .exact Bk.does hI (Sg hT hx hk)
end
end Go.Eng
