/- Lemmas 9. -/
import Derived.Test.YteaiieomnhbmgaaGreatDoorFA08
import Derived.Laws.IdiomStrings
namespace Go.Eng
variable {E:TypeId}{olds:List Value}{vx:Value}{x:AV}{cx:Cx}{K:HK}
theorem CW.app{g:Gh}{w:World}{U:Nat->Prop}{WE bs:List AV}{xs ys:List Value}(h:CW g w U WE xs)(k:CW g w U bs ys):CW g w U (WE++bs) (xs++ys):=by
 refine⟨by simp[h.1,k.1],fun x hx=>(AN.1 hx).elim (h.2.1 x) (k.2.1 x),fun i av x h1 h2=>?_⟩
 by_cases hi:i<WE.length
 .rw[AT hi]at h1;rw[AT (by rw[h.1];exact hi)]at h2;exact h.2.2 i av x h1 h2
 .rw[A2 ch]at h1;rw[A2 (by rw[h.1];omega),h.1]at h2;exact k.2.2 _ av x h1 h2
theorem kW(P:Program)(g o:Nat)(t:TypeId)(fz:Nat×Nat)(vs:List Value):∀(i:Nat) (EJ:Array Value) (w:World),w.heap[g]?=some (.cells EJ t fz)->(fz=(0,0)\/EJ.size<=fz.1)->o+i+vs.length<=EJ.size->(∀v∈vs,v.oneCell'=true) ->
  (storeCells ⟨g,o,none⟩ vs i).run P w=.ok () (w.setRow g (EJ.toList.take (o+i)++vs++EJ.toList.drop (o+i+vs.length)).toArray):=by
 induction vs with
 |nil=>
  intro i EJ w hg _ _ _;have e:(EJ.toList.take (o+i)++[]++EJ.toList.drop (o+i+([]:List Value).length)).toArray=EJ:=by simp
  rw[e,setRow_self w g EJ t fz hg];rfl
 |cons v rest ih=>
  intro i EJ w hg hf hl h1;simp only[Al]at hl;have hi:o+i<EJ.size:=by omega
  have ha:(⟨g,o,none⟩:Addr).add i=⟨g,o+i,none⟩:=Addr.add_lit ..;have hc:w.cell? ⟨g,o+i,none⟩=some EJ[o+i]:=by simp[World.cell?,hg,hi]
  have hz:w.frozen? ⟨g,o+i,none⟩=false:=by
   rcases hf with rfl|hf
   .simp[World.frozen?,hg]
   .simp only[World.frozen?,hg,MO,HI];exact .inl ch
  have h2:(store ((⟨g,o,none⟩:Addr).add i) v).run P w=.ok () (w.setRow g (EJ.setIfInBounds (o+i) v)):=by
   rw[ha,run_store P w _ v _ (h1 v (Ab ..)),hc];simp[hz,setCell_eq_setRow w g (o+i) EJ t fz v hg]
  have h3:=ih (i+1) (EJ.setIfInBounds (o+i) v) (w.setRow g (EJ.setIfInBounds (o+i) v)) (setRow_heap w g EJ _ t _ hg) (by rw[Array.size_setIfInBounds];exact hf) (by rw[Array.size_setIfInBounds];omega) fun x hx=>h1 x (Ah _ hx);have e:(EJ.setIfInBounds (o+i) v).toList.take (o+(i+1))++rest++(EJ.setIfInBounds (o+i) v).toList.drop (o+(i+1)+rest.length)=EJ.toList.take (o+i)++v::rest++EJ.toList.drop (o+i+(v::rest).length):=by
   simpa[Array.toList_setIfInBounds,Nat.add_assoc]using list_seg_step EJ.toList (o+i) v rest (by rw[B1];show o+i+(rest.length+1)<=_;omega)
  rw[storeCells,Sem.run_bind,h2,Result.andThen_ok,h3,setRow_setRow,e]
section
variable {P:Program}{w0:World}{g0:Gh}{h0 h:Nat->HO}{g:Gh}{w:World}(hI:D3 w0 g0 h0 h g w)
include hI
omit hI in
theorem Se(t ty e:TypeId)(i:TypeInfo)(ht:P.underlying t=some (.slice e))(hi:P.info? e=some i)(g Px fw:Nat)(EJ:Array Value)(hg:w.heap[g]?=some (.cells EJ E (0,0)))(a:Addr)(m c:Nat)(news:List Value)(hl:news.length=m*i.size)(JY:∀j u,news[j]?=some u->w.cell? (a.add j)=some u)(h1:∀u∈news,u.oneCell'=true)(Ld:Px+m<=fw)(dY:Px*i.size+news.length<=EJ.size) :
  (Builtin.append_ #[t,t] ty #[.slice (some ⟨g,0,none⟩) Px fw,.slice (some a) m c]).run P w =
   .ok (.slice (some ⟨g,0,none⟩) (Px+m) fw) (w.setRow g (EJ.toList.take (Px*i.size)++news++EJ.toList.drop (Px*i.size+news.length)).toArray):=by
 have hf:=run_firstCells_some (P:=P) w i.size m a m c news hl JY;have K4:=run_storeCells_at P g (Px*i.size) E news 0 EJ w hg (by simpa using dY) h1;simp only[GT]at K4;simp[Builtin.append_,run_underlying ht,sizeOf,typeInfo,hi,Builtin.lenOf,Ld,hf,Addr.add_lit,K4]
omit hI in
theorem VT(t ty e:TypeId)(i:TypeInfo)(ht:P.underlying t=some (.slice e))(hi:P.info? e=some i)(g off Px fw:Nat)(EJ:Array Value){fz:Nat×Nat}(hg:w.heap[g]?=some (.cells EJ E fz))(hfz:fz=(0,0)\/EJ.size<=fz.1)(a:Addr)(m c:Nat)(news:List Value)(hl:news.length=m*i.size)(JY:∀j u,news[j]?=some u->w.cell? (a.add j)=some u)(h1:∀u∈news,u.oneCell'=true)(Ld:Px+m<=fw)(dY:off+Px*i.size+news.length<=EJ.size) :
  (Builtin.append_ #[t,t] ty #[.slice (some ⟨g,off,none⟩) Px fw,.slice (some a) m c]).run P w =
   .ok (.slice (some ⟨g,off,none⟩) (Px+m) fw) (w.setRow g (EJ.toList.take (off+Px*i.size)++news++EJ.toList.drop (off+Px*i.size+news.length)).toArray):=by
 have hf:=run_firstCells_some (P:=P) w i.size m a m c news hl JY;have K4:=kW P g (off+Px*i.size) E fz news 0 EJ w hg hfz (by simpa using dY) h1;simp only[GT]at K4;simp[Builtin.append_,run_underlying ht,sizeOf,typeInfo,hi,Builtin.lenOf,Ld,hf,Addr.add_lit,K4]
omit hI in
theorem r7{b off n m sz cap:Nat}{EJ:Array Value}{fz:Nat×Nat}{news:List Value}(hb:w.heap[b]?=some (.cells EJ E fz))(bp:EJ.size=off+cap*sz)(hn:n<=cap)(hm:n+m<=cap)(hnl:news.length=m*sz)(hol:olds.length=n*sz)(Ho:∀j u,olds[j]?=some u->w.cell? ⟨b,off+j,none⟩=some u) :
  (EJ.toList.take (off+n*sz)++news++EJ.toList.drop (off+n*sz+news.length)).length=off+cap*sz /\
  ((EJ.toList.take (off+n*sz)++news++EJ.toList.drop (off+n*sz+news.length)).drop off).take ((n+m)*sz)=olds++news /\
  ∀o,o<off+n*sz->(EJ.toList.take (off+n*sz)++news++EJ.toList.drop (off+n*sz+news.length)).toArray[o]?=EJ[o]?:=by
 have hcl:EJ.toList.length=off+cap*sz:=by rw[B1];exact bp
 have RK:(n+m)*sz<=cap*sz:=Bf _ hm;have m9:n*sz<=cap*sz:=Bf _ hn;rw[Fl]at RK;have LW:(EJ.toList.take (off+n*sz)).drop off=olds:=by
  apply Dz;intro j
  by_cases hj:j<n*sz
  .rw[DX,BZ ch];have hx:olds[j]?=some olds[j]:=AD ch
   have:=Ho j _ hx
   rw[F5 hb]at this;rw[A5,this,hx]
  .rw[A8 (by rw[Di,Ax];omega),A8 ch]
 have vH:(EJ.toList.take (off+n*sz)).length=off+n*sz:=by rw[Ax];omega
 refine⟨?_,?_,fun o ho=>?_⟩
 .rw[Ac,Ac,vH,Di,hcl,hnl];omega
 .rw[BD,List.drop_append_of_le_length (by rw[vH];omega),LW,<-BD,FZ (by rw[Ac,hol,hnl,Fl])]
 .rw[GC,BD,AT (by rw[vH];exact ho),BZ ho,A5]
omit hI in
theorem oV{b n m sz cap:Nat}{EJ:Array Value}{news:List Value}(hb:w.heap[b]?=some (.cells EJ E (0,0)))(bp:EJ.size=cap*sz)(hn:n<=cap)(hm:n+m<=cap)(hnl:news.length=m*sz)(hol:olds.length=n*sz)(Ho:∀j u,olds[j]?=some u->w.cell? ⟨b,j,none⟩=some u) :
  (EJ.toList.take (n*sz)++news++EJ.toList.drop (n*sz+news.length)).length=cap*sz /\
  (EJ.toList.take (n*sz)++news++EJ.toList.drop (n*sz+news.length)).take ((n+m)*sz)=olds++news /\
  ∀o,o<n*sz->(EJ.toList.take (n*sz)++news++EJ.toList.drop (n*sz+news.length)).toArray[o]?=EJ[o]?:=by
 have hcl:EJ.toList.length=cap*sz:=by rw[B1];exact bp
 have RK:(n+m)*sz<=cap*sz:=Bf _ hm;have m9:n*sz<=cap*sz:=Bf _ hn;rw[Fl]at RK;have LW:EJ.toList.take (n*sz)=olds:=by
  apply Dz;intro j
  by_cases hj:j<n*sz
  .rw[BZ hj];have hx:olds[j]?=some olds[j]:=AD ch
   have:=Ho j _ hx
   rw[F5 hb]at this;rw[A5,this,hx]
  .rw[A8 (by rw[Ax];omega),A8 ch]
 have vH:(EJ.toList.take (n*sz)).length=n*sz:=by rw[Ax];omega
 refine⟨?_,?_,fun o ho=>?_⟩
 .rw[Ac,Ac,vH,Di,hcl,hnl];omega
 .rw[LW,FZ (by rw[Ac,hol,hnl,Fl])]
 .rw[GC,BD,AT (by rw[vH];exact ho),BZ ho,A5]
theorem Xm{r n sz:Nat}{es:List (List AV)}{x:Value}(he:h r=.arr sz es)(hx:BU g w (AR h) (.msl r n) x)(hn:n=es.length) :
  x=g.ρ r/\∃news,PO w x es.length sz news/\CW g w FB es.flatten news:=by
 have ho:=hI.objs r;rw[he]at ho;obtain⟨t1,l1,al,a1⟩:=ho;cases hx with
 |msl _ _ _ a cap hu ht bw ha M6=>
  have e:=M6 (hn.trans l1.symm);refine⟨e,?_⟩;rw[e];rcases a1 with ⟨rfl,e2,e3⟩|⟨b,Ml,E,vs,e1,e2,e3,e4,e5,e6,e7⟩
  .exact⟨[],⟨by simp,by simp,none,0,e2,.inl rfl⟩,by simp,by simp,fun i av x h1 h2=>by simp at h2⟩
  .have bp:vs.toList.length=Ml*sz:=by rw[B1];exact e5
   have Is:es.length*sz<=vs.toList.length:=by rw[bp];exact Bf _ e3
   refine⟨vs.toList.take (es.length*sz),⟨by rw[Ax,Xb Is],e6.2.1,_,_,e1,.inr ⟨_,rfl,fun j u hj=>?_⟩⟩,e6⟩;rw[Addr.add_lit,Bb,F5 e4];have DF:=(Aw.1 hj).1;rw[Ax]at DF;rw[BZ ch,A5]at hj;exact hj
theorem jr{sz:Nat}{K:List (List AV)->Prop}(hx:BU g w (AR h) x vx)(hk:Mr h x K) :
  ∃es,K es/\((∀c∈es,c.length=sz)->∃news,PO w vx es.length sz news/\CW g w FB es.flatten news):=by
 unfold Mr at hk;split at hk
 .exact⟨_,hk,fun hl=>PO.of_rep hx.slice_none hl⟩
 .obtain rfl:=hx.v_eq;exact⟨[],hk,fun _=>⟨[],⟨by simp,by simp,none,0,rfl,.inl rfl⟩,by simp,by simp,fun i av x h1 h2=>by simp at h2⟩⟩
 .rename_i r n;split at hk
  .rename_i Hb es e;obtain⟨hn,hk⟩:=hk;refine⟨es,hk,fun hl=>?_⟩;obtain⟨_,news,n1,n2⟩:=Xm hI e hx hn;refine⟨news,?_,n2⟩
   have:news.length=es.length*sz:=by rw[n2.1,DC hl]
   exact⟨this,n1.2.1,n1.2.2⟩
  .exact hk.elim
 .exact hk.elim
theorem j8{d:Option Nat}{sz:Nat}(hk:EY cx d h sz [] K) :
  ∃g' av h',K av h'/\D3 w0 g0 h0 h' g' w/\Le h g w h' g' w/\BU g' w (AR h') av (.slice none 0 0):=by
 have base:∀(d:Nat) (o' : HO),h d=.free->o'≠.free->(∀g' : Gh,g'.ρ d=.slice none 0 0->g'.ln d=0->g'.tk d=true->g'.own d=none->Ez g' w (AR (A3 h d o')) d o') ->
   D3 w0 g0 h0 (A3 h d o') (g.upd d (.slice none 0 0) 0 true none g.S) w/\Le h g w (A3 h d o') (g.upd d (.slice none 0 0) 0 true none g.S) w:=by
  intro d o' hd DJ KD;refine hI.upd d o' _ _ _ _ _ w none ⟨rfl,rfl,rfl,Am _⟩ (fun _ _ _=>rfl) (fun b e=>by cases e) (fun _ _ h=>h) (fun _ _ h=>.inl h) (fun b o e=>by cases e) (fun b _ e=>by cases e) DJ (fun hu=>absurd hd hu) (fun _ _=>?_);obtain⟨u1,u2,u3,u4⟩:=BK g d (.slice none 0 0) 0 true none g.S;exact KD _ u1 u2 u3 u4
 unfold EY at hk;split at hk
 .exact hk.elim
 .rename_i d;generalize KZ cx d=d1 at hk;split at hk
  .rename_i hd;split at hk
   .obtain⟨k1,k2⟩:=base d1 (.arr sz []) hd B0 (fun g' u1 u2 u3 u4=>⟨u3,u2,by simp,.inl ⟨rfl,u1,u4⟩⟩);exact⟨_,_,_,hk,k1,k2,.msl _ d1 0 none 0 (by unfold AR;rw[Bi];simp) (by simp[Gh.upd]) (AB _) (.inl rfl) (fun _=>by simp[Gh.upd])⟩
   .obtain⟨k1,k2⟩:=base d1 (.tok sz 0) hd B0 (fun g' u1 u2 u3 u4=>⟨u3,u2,none,0,u1,.inl ⟨rfl,u4⟩⟩);exact⟨_,_,_,hk,k1,k2,.tok _ d1 sz [] _ (.snil _ _ _) B0 (by unfold AR;rw[Bi];simp) (by simp[Gh.upd]) (AB _) (fun _=>by simp[Gh.upd])⟩
  .exact hk.elim
theorem dq(hT:CM P cx.T){d:Option Nat}{t ty:Nat}{s:AV}{vs:Value}(hs:BU g w (AR h) s vs)(hx:BU g w (AR h) x vx)(hk:Jh cx d h t s x K) :
  OT P w0 g0 h0 h g w (Builtin.append_ #[t,t] ty #[vs,vx]) K:=by
 unfold Jh at hk;split at hk
 .rename_i e ht;split at hk
  .exact hk.elim
  .rename_i hz;have hz:=AL hz;split at hk
   .exact hk.elim
   .rename_i k ES;have h5:=jr hI (sz:=(cx.T e).size) hx hk
    clear hk
    obtain⟨es2,hk,h6⟩:=h5;split at hk
    .obtain⟨⟨q1,q2,q3⟩,hk⟩:=hk;obtain rfl:=hs.v_eq;obtain⟨news,n1,n2⟩:=h6 (Gp q1);obtain⟨m1,m2,a,c,rfl,m4⟩:=n1
     by_cases hm:es2.length=0
     .obtain rfl:=AQ hm;obtain⟨g',av,h',k1,k2,k3,k4⟩:=j8 hI hk;exact⟨_,w,g',av,h',JQ hT w ht ES none a 0 0 c (Am _),k1,k2,k3,k4⟩
     .obtain⟨nc,rest,r1,r2,r3⟩:=IT hT w (ty:=ty) ht ES hz (olds:=[]) (a:=none) (n:=0) (cap:=0) ⟨by simp,by simp,none,0,rfl,.inl rfl⟩ rfl (fun _=>rfl) ⟨m1,m2,a,c,rfl,m4⟩ rfl ch ch (by rw[Bb];exact q2) ch;obtain⟨g',av,h',k1,k2,k3,k4⟩:=Li hI hk (vs:=([]++news++rest).toArray) (cap:=nc) e (Gp q1) ch (by simpa using r3) (by
       rw[FY,show(news++rest).toArray.toList=news++rest from rfl,FZ m1];exact n2) w.drew ⟨rfl,rfl,rfl,rfl⟩
      rw[Bb]at r1;exact⟨_,_,g',av,h',r1,k1,k2,k3,k4⟩
    .rename_i Hb es;split at hk
     .rename_i SQ;obtain SQ:=AL SQ;obtain⟨⟨q1,q2,q3,q4⟩,hk⟩:=hk;obtain⟨news,n1,n2⟩:=h6 (Gp q1);obtain⟨m1,m2,a2,c2,rfl,m4⟩:=n1;cases hs with
      |full _ _ _ _ hr ZT M6=>
       obtain⟨a,rfl⟩:=M6;have GJ:∀c∈es++es2,c.length=(cx.T e).size:=fun c hc=>(AN.1 hc).elim (fun h=>(ZT c h).trans SQ) (Gp q1 c);obtain⟨olds,o1,o2⟩:=PO.of_rep hr (sz:=(cx.T e).size) (fun c hc=>(ZT c hc).trans SQ);have hrl:=o2.app n2;rw[<-Cm]at hrl;have ha:a=none->es.length=0:=by
        rintro rfl
        obtain⟨p1,p2,a',c',p3,p4⟩:=o1;cases p3;rcases p4 with h|⟨b',h,_⟩
        .exact h
        .cases h
       obtain⟨nc,rest,r1,r2,r3⟩:=IT hT w (ty:=ty) ht ES hz o1 rfl ha ⟨m1,m2,a2,c2,rfl,m4⟩ rfl q2 ch q3 q4;obtain⟨g',av,h',k1,k2,k3,k4⟩:=Li hI hk (vs:=(olds++news++rest).toArray) (cap:=nc) e GJ (by rw[Ac];exact r2) (by rw[Eb];exact r3) (by
        rw[show(olds++news++rest).toArray.toList=olds++news++rest from rfl,FZ (by rw[Ac,Ac,o1.1,m1,Fl])];exact hrl) w.drew ⟨rfl,rfl,rfl,rfl⟩
       rw[Ac]at k4;exact⟨_,_,g',av,h',r1,k1,k2,k3,k4⟩
     .exact hk.elim
    .rename_i r Hb es;have ho:=hI.objs r;split at hk
     .rename_i sz n e0;rw[e0]at ho;split at hk
      .rename_i SQ AdP;obtain rfl:=AL AdP;obtain SQ:=AL SQ;obtain⟨⟨q1,q2,q3,q4⟩,hk⟩:=hk;rw[SQ]at q1;obtain⟨news,n1,n2⟩:=h6 (Gp q1);obtain⟨m1,m2,a2,c2,rfl,m4⟩:=n1;obtain⟨t1,l1,a,cap,a1,a3⟩:=ho;have hl:(h r).live:=by rw[e0];trivial
       have GJ:∀c∈es++es2,es.length=n->True:=fun _ _ _=>trivial;cases hs with
       |tok _ _ _ _ _ hr ZT hu ht' hn M6=>
        have hv:=M6 (q2.trans l1.symm);rw[a1]at hv;subst hv;subst q2;have GJ:∀c∈es++es2,c.length=Hb:=fun c hc=>(AN.1 hc).elim (ZT c) (fun h=>(Gp q1 c h).trans SQ.symm);obtain⟨olds,o1,o2⟩:=PO.of_rep hr ZT;have hrl:=o2.app n2;rw[<-Cm]at hrl;have gA:es.length<=cap:=by rcases a3 with ⟨e1,_⟩|⟨e1,_⟩<;>omega
        by_cases hm:es2.length=0
        .obtain rfl:=AQ hm;have KD:=hI.objs r;rw[e0]at KD
         obtain⟨k1,k2⟩:=hI.upd r (.tok Hb (es.length+([]:List (List AV)).length)) (g.ρ r) (g.ln r) (g.tk r) (g.own r) g.S w none ⟨rfl,rfl,rfl,Am _⟩ (fun _ _ _=>rfl) (fun b e=>by cases e) (fun _ _ h=>h) (fun _ _ h=>.inl h) (fun b o e=>by cases e)
          (fun b _ e=>⟨(hI.loc r b hl e).1,.inl ⟨hl,e⟩⟩) B0 (fun _=>⟨rfl,Am _,fun _=>rfl,fun _=>rfl⟩) (fun hg IY=>by
           obtain⟨u1,u2,u3,u4⟩:=BK g r (g.ρ r) (g.ln r) (g.tk r) (g.own r) g.S;rw[Au,GT];exact KD.same IY (fun i hi=>Ea B0 i hi) hg u1 u2 u3 u4 (fun b _ _=>⟨rfl,fun _ h=>h⟩))
         refine⟨_,w,_,_,_,JQ hT w ht ES a a2 es.length cap c2 gA,hk,k1,k2,?_⟩;rw[BQ];exact(BU.tok (AR h) r Hb es _ hr ZT hu ht' hn M6).le k2
        .by_cases Ld:es.length+es2.length<=cap
         .rcases a3 with ⟨e1,_⟩|⟨e1,b,E,EJ,off,rfl,e3,⟨fz,e4,efz⟩,e5,e6⟩
          .omega
          .rcases m4 with h|⟨ba,rfl,JY⟩
           .omega
           .obtain⟨i,z,i1,i2,i3,i4,i5⟩:=IA hT ES;have RK:(es.length+es2.length)*Hb<=cap*Hb:=Bf _ Ld;have vq:news.length=es2.length*Hb:=by rw[SQ];exact m1
            have dZ:i.size=Hb:=i3.trans SQ.symm;have CZ:=VT (P:=P) t ty e i (hT.slice ht) i1 b off es.length cap EJ e4 efz ba es2.length c2 news (by rw[dZ];exact vq) JY m2 Ld (by rw[dZ,vq,e5];rw[Fl]at RK;omega);rw[dZ]at CZ;have Ho:∀j u,olds[j]?=some u->w.cell? ⟨b,off+j,none⟩=some u:=by
             obtain⟨p1,p2,a',c',p3,p4⟩:=o1;cases p3;intro j u hj;rcases p4 with h|⟨b',h,h'⟩
             .rw[h,JL]at p1;rw[AQ p1]at hj;simp at hj
             .cases h
              have:=h' j u hj
              rwa [Addr.add_lit]at this
            obtain⟨p1,p2,p3⟩:=r7 e4 e5 e1 Ld vq o1.1 Ho;generalize hnewd:EJ.toList.take (off+es.length*Hb)++news++EJ.toList.drop (off+es.length*Hb+news.length)=new at CZ p1 p2 p3;have ED:=setRow_heap w b EJ new.toArray E fz e4;have jD:=(hI.loc r b hl e3).1
            obtain⟨k1,k2⟩:=hI.upd r (.tok Hb (es.length+es2.length)) (.slice (some ⟨b,off,none⟩) (es.length+es2.length) cap) (es.length+es2.length) (g.tk r) (g.own r) (g.more b (off+(es.length+es2.length)*Hb)) (w.setRow b new.toArray) (some b)
             ⟨rfl,rfl,rfl,by rw[size_setRow];exact Am _⟩ (fun k _ DJ=>setRow_other w b k _ (fun e=>DJ (by rw[e]))) (fun b' e=>by cases e;exact⟨hl,e3⟩) (fun _ _ h=>.inl h)
             (fun b' o hs=>hs.elim .inl (fun hs=>.inr ⟨by rw[size_setRow,hs.1];exact jD,.inr ⟨hl,by rw[hs.1];exact e3⟩⟩))
             (fun b' o e hs=>by
              cases e
              refine⟨?_,fun es ck he=>by rw[e4]at he;cases he⟩;rw[F5 ED,F5 e4];exact p3 o (e6 o hs)) (fun b' _ e=>by
              rw[e3]at e;cases e;exact⟨by rw[size_setRow];exact jD,.inl ⟨hl,e3⟩⟩) B0 (fun _=>⟨rfl,by omega,fun e=>(by rw[t1]at e;cases e),fun e=>by omega⟩) (fun hg IY=>by
              obtain⟨u1,u2,u3,u4⟩:=BK g r (.slice (some ⟨b,off,none⟩) (es.length+es2.length) cap) (es.length+es2.length) (g.tk r) (g.own r) (g.more b (off+(es.length+es2.length)*Hb));exact⟨u3.trans t1,u2,_,cap,u1,  .inr ⟨Ld,b,E,_,off,rfl,u4.trans e3,⟨fz,ED,efz.imp id fun h=>by rw[Eb,p1,<-e5];exact h⟩,by rw[Eb];exact p1,fun o ho=>by
               rcases ho with ho|⟨_,ho⟩
               .have h1:=e6 o ho;have h2:es.length*Hb<=(es.length+es2.length)*Hb:=Bf _ ch;omega
               .exact ho⟩⟩)
            have EA:=BU.slice_off (g:=g.upd r (.slice (some ⟨b,off,none⟩) (es.length+es2.length) cap) (es.length+es2.length) (g.tk r) (g.own r) (g.more b (off+(es.length+es2.length)*Hb))) (U:=AR (A3 h r (.tok Hb (es.length+es2.length)))) (cap:=cap) (es:=es++es2) ED GJ (by rw[Ac];exact Ld) (by
             rw[Ac,show new.toArray.toList=new from rfl,p2];exact hrl.mono k2.keeps (fun _ h=>h) (fun _ h=>h.elim)) (fun o ho=>.inr ⟨rfl,by rw[Ac]at ho;exact Nat.add_lt_add_left ho off⟩)
            rw[Ac]at EA;exact⟨_,_,_,_,_,CZ,hk,k1,k2,.tok _ r Hb _ _ EA GJ (by unfold AR;rw[Bi];simp) (by simp[Gh.upd,t1]) (by simp[Gh.upd]) (fun _=>by simp[Gh.upd])⟩
         .have m6:cap<es.length+es2.length:=by omega
          have ha:a=none->cap=0:=by
           rintro rfl
           rcases a3 with ⟨e1,_⟩|⟨_,b,_,_,_,e2,_⟩
           .obtain⟨p1,p2,a',c',p3,p4⟩:=o1;cases p3;rcases p4 with h|⟨b',h,_⟩
            .omega
            .cases h
           .cases e2
          obtain⟨nc,rest,r1,r2,r3⟩:=IT hT w (ty:=ty) ht ES hz (by rw[<-SQ];exact o1) rfl ha ⟨m1,m2,a2,c2,rfl,m4⟩ rfl ch m6 q3 q4;have ED:=G0 w.drew (.cells (olds++news++rest).toArray e (0,0)) (b:=w.heap.size) rfl
          obtain⟨k1,k2⟩:=hI.upd r (.tok Hb (es.length+es2.length)) (.slice (some ⟨w.heap.size,0,none⟩) (es.length+es2.length) nc) (es.length+es2.length) (g.tk r) (some w.heap.size) (g.more w.heap.size ((es.length+es2.length)*Hb))
           (w.drew.alloc (.cells (olds++news++rest).toArray e (0,0))) none
           ⟨rfl,rfl,rfl,by rw[World.size_alloc];exact Nat.le_succ _⟩ (fun k hk' _=>by rw[heap_alloc_old _ _ (by exact hk')];rfl) (fun b' e=>by cases e) (fun _ _ h=>.inl h)
           (fun b' o hs=>hs.elim .inl (fun hs=>.inr ⟨by rw[World.size_alloc,hs.1];exact Gr _,.inl (by rw[hs.1];exact Am _)⟩))
           (fun b' o e=>by cases e) (fun b' _ e=>by cases e;exact⟨by rw[World.size_alloc];exact Gr _,.inr (Am _)⟩) B0 (fun _=>⟨rfl,by omega,fun e=>(by rw[t1]at e;cases e),fun e=>by omega⟩) (fun hg IY=>by
            obtain⟨u1,u2,u3,u4⟩:=BK g r (.slice (some ⟨w.heap.size,0,none⟩) (es.length+es2.length) nc) (es.length+es2.length) (g.tk r) (some w.heap.size) (g.more w.heap.size ((es.length+es2.length)*Hb));exact⟨u3.trans t1,u2,_,nc,u1,.inr ⟨r2,w.heap.size,e,_,0,rfl,u4,.of ED,by rw[Eb,SQ,Bb];exact r3,fun o ho=>by
             rcases ho with ho|⟨_,ho⟩
             .have:=hI.slt _ _ ho;omega
             .omega⟩⟩)
          have EA:=BU.slice_row (g:=g.upd r (.slice (some ⟨w.heap.size,0,none⟩) (es.length+es2.length) nc) (es.length+es2.length) (g.tk r) (some w.heap.size) (g.more w.heap.size ((es.length+es2.length)*Hb))) (U:=AR (A3 h r (.tok Hb (es.length+es2.length)))) (cap:=nc) (es:=es++es2) ED GJ (by rw[Ac];exact r2) (by
           rw[Ac,show(olds++news++rest).toArray.toList=olds++news++rest from rfl,FZ (by rw[Ac,o1.1,m1,SQ,Fl])];exact hrl.mono k2.keeps (fun _ h=>h) (fun _ h=>h.elim)) (fun o ho=>.inr ⟨rfl,by rw[Ac]at ho;exact ho⟩)
          rw[Ac]at EA;exact⟨_,_,_,_,_,r1,hk,k1,k2,.tok _ r Hb _ _ EA GJ (by unfold AR;rw[Bi];simp) (by simp[Gh.upd,t1]) (by simp[Gh.upd]) (fun _=>by simp[Gh.upd])⟩
      .exact hk.elim
     .exact hk.elim
    .rename_i r n;have ho:=hI.objs r;split at hk
     .rename_i sz es e0;split at hk
      .rename_i SQ;obtain SQ:=AL SQ;obtain⟨⟨q1,q2,q3,q4⟩,hk⟩:=hk;rw[SQ]at q1;obtain⟨news,n1,n2⟩:=h6 (Gp q1);obtain⟨m1,m2,a2,c2,rfl,m4⟩:=n1;obtain⟨hv,olds,o1,o2⟩:=Xm hI e0 hs q2.symm;have KD:=ho;rw[e0]at ho;obtain⟨t1,l1,al,a3⟩:=ho;have hl:(h r).live:=by rw[e0];trivial
       subst hv;have GJ:∀c∈es++es2,c.length=sz:=fun c hc=>(AN.1 hc).elim (al c) (fun h=>(Gp q1 c h).trans SQ.symm);have hrl:=o2.app n2;rw[<-Cm]at hrl;obtain⟨a,cap,hρ,gA,ha⟩:∃a cap,g.ρ r=.slice a es.length cap/\es.length<=cap/\(a=none->cap=0):=by
        rcases a3 with ⟨rfl,e2,e3⟩|⟨b,cap,E,EJ,e1,e2,e3,e4,e5,e6,e7⟩
        .exact⟨none,0,e2,Am _,fun _=>rfl⟩
        .exact⟨_,cap,e1,e3,fun e=>by cases e⟩
       by_cases hm:es2.length=0
       .obtain rfl:=AQ hm;rw[e0]at KD
        obtain⟨k1,k2⟩:=hI.upd r (.arr sz (es++[])) (g.ρ r) (g.ln r) (g.tk r) (g.own r) g.S w none ⟨rfl,rfl,rfl,Am _⟩ (fun _ _ _=>rfl) (fun b e=>by cases e) (fun _ _ h=>h) (fun _ _ h=>.inl h) (fun b o e=>by cases e)
         (fun b _ e=>⟨(hI.loc r b hl e).1,.inl ⟨hl,e⟩⟩) B0 (fun _=>⟨rfl,Am _,fun _=>rfl,fun _=>rfl⟩) (fun hg IY=>by
          obtain⟨u1,u2,u3,u4⟩:=BK g r (g.ρ r) (g.ln r) (g.tk r) (g.own r) g.S;rw[BQ];exact KD.same IY (fun i hi=>Ea B0 i hi) hg u1 u2 u3 u4 (fun b _ _=>⟨rfl,fun _ h=>h⟩))
        refine⟨g.ρ r,w,_,_,_,?_,hk,k1,k2,?_⟩
        .rw[hρ];exact JQ hT w ht ES a a2 es.length cap c2 gA
        .have:=hs.le k2
         rw[<-q2]at this;exact this
       .by_cases Ld:es.length+es2.length<=cap
        .rcases a3 with ⟨rfl,e2,e3⟩|⟨b,Ml,E,EJ,e1,e2,e3,e4,e5,e6,e7⟩
         .rw[e2]at hρ;cases hρ;omega
         .rw[e1]at hρ;simp only[Value.slice.injEq,true_and]at hρ;obtain⟨rfl,rfl⟩:=hρ;rcases m4 with h|⟨ba,rfl,JY⟩
          .omega
          .obtain⟨i,z,i1,i2,i3,i4,i5⟩:=IA hT ES;have RK:(es.length+es2.length)*sz<=Ml*sz:=Bf _ Ld;have vq:news.length=es2.length*sz:=by rw[SQ];exact m1
           have dZ:i.size=sz:=i3.trans SQ.symm;have CZ:=Se (P:=P) t ty e i (hT.slice ht) i1 b es.length Ml EJ e4 ba es2.length c2 news (by rw[dZ];exact vq) JY m2 Ld (by rw[dZ,vq,<-Fl,e5];exact RK);rw[dZ]at CZ;have Ho:∀j u,olds[j]?=some u->w.cell? ⟨b,j,none⟩=some u:=by
            obtain⟨p1,p2,a',c',p3,p4⟩:=o1;rw[e1]at p3;cases p3;intro j u hj;rcases p4 with h|⟨b',h,h'⟩
            .rw[h,JL]at p1;rw[AQ p1]at hj;simp at hj
            .cases h
             have:=h' j u hj
             rwa [Addr.add_lit,Bb]at this
           obtain⟨p1,p2,p3⟩:=oV e4 e5 e3 Ld vq o1.1 Ho;generalize hnewd:EJ.toList.take (es.length*sz)++news++EJ.toList.drop (es.length*sz+news.length)=new at CZ p1 p2 p3;have ED:=setRow_heap w b EJ new.toArray E (0,0) e4;have jD:=(hI.loc r b hl e2).1
           obtain⟨k1,k2⟩:=hI.upd r (.arr sz (es++es2)) (.slice (some ⟨b,0,none⟩) (es.length+es2.length) Ml) (es.length+es2.length) (g.tk r) (g.own r) g.S (w.setRow b new.toArray) (some b)
            ⟨rfl,rfl,rfl,by rw[size_setRow];exact Am _⟩ (fun k _ DJ=>setRow_other w b k _ (fun e=>DJ (by rw[e]))) (fun b' e=>by cases e;exact⟨hl,e2⟩) (fun _ _ h=>h) (fun _ _ h=>.inl h)
            (fun b' o e hs=>by cases e;exact absurd hs (e7 o)) (fun b' _ e=>by
             rw[e2]at e;cases e;exact⟨by rw[size_setRow];exact jD,.inl ⟨hl,e2⟩⟩) B0 (fun _=>⟨rfl,by omega,fun e=>(by rw[t1]at e;cases e),fun e=>by omega⟩) (fun hg IY=>by
             obtain⟨u1,u2,u3,u4⟩:=BK g r (.slice (some ⟨b,0,none⟩) (es.length+es2.length) Ml) (es.length+es2.length) (g.tk r) (g.own r) g.S;refine⟨u3.trans t1,by rw[u2,Ac],GJ,.inr ⟨b,Ml,E,_,by rw[u1,Ac],u4.trans e2,by rw[Ac];exact Ld,ED,by rw[Eb];exact p1,?_,e7⟩⟩;rw[Ac,show new.toArray.toList=new from rfl,p2];exact hrl.mono IY (fun _ h=>h) (fun _ h=>h.elim))
           rw[e1];exact⟨_,_,_,_,_,CZ,hk,k1,k2,.msl _ r _ _ _ (by unfold AR;rw[Bi];simp) (by simp[Gh.upd,t1]) (by simp[Gh.upd]) (.inr ⟨_,rfl⟩) (fun _=>by simp[Gh.upd])⟩
        .have m6:cap<es.length+es2.length:=by omega
         obtain⟨nc,rest,r1,r2,r3⟩:=IT hT w (ty:=ty) ht ES hz (by rw[<-SQ];exact o1) hρ ha ⟨m1,m2,a2,c2,rfl,m4⟩ rfl ch m6 q3 q4;have ED:=G0 w.drew (.cells (olds++news++rest).toArray e (0,0)) (b:=w.heap.size) rfl
         obtain⟨k1,k2⟩:=hI.upd r (.arr sz (es++es2)) (.slice (some ⟨w.heap.size,0,none⟩) (es.length+es2.length) nc) (es.length+es2.length) (g.tk r) (some w.heap.size) g.S
          (w.drew.alloc (.cells (olds++news++rest).toArray e (0,0))) none
          ⟨rfl,rfl,rfl,by rw[World.size_alloc];exact Nat.le_succ _⟩ (fun k hk' _=>by rw[heap_alloc_old _ _ (by exact hk')];rfl) (fun b' e=>by cases e) (fun _ _ h=>h) (fun _ _ h=>.inl h)
          (fun b' o e=>by cases e) (fun b' _ e=>by cases e;exact⟨by rw[World.size_alloc];exact Gr _,.inr (Am _)⟩) B0 (fun _=>⟨rfl,by omega,fun e=>(by rw[t1]at e;cases e),fun e=>by omega⟩) (fun hg IY=>by
           obtain⟨u1,u2,u3,u4⟩:=BK g r (.slice (some ⟨w.heap.size,0,none⟩) (es.length+es2.length) nc) (es.length+es2.length) (g.tk r) (some w.heap.size) g.S;refine⟨u3.trans t1,by rw[u2,Ac],GJ,.inr ⟨w.heap.size,nc,e,_,by rw[u1,Ac],u4,by rw[Ac];exact r2,ED,by rw[Eb,SQ];exact r3,?_,fun o ho=>by have:=hI.slt _ _ ho;omega⟩⟩;rw[Ac,show(olds++news++rest).toArray.toList=olds++news++rest from rfl,FZ (by rw[Ac,o1.1,m1,SQ,Fl])];exact hrl.mono IY (fun _ h=>h) (fun _ h=>h.elim))
         exact⟨_,_,_,_,_,r1,hk,k1,k2,.msl _ r _ _ _ (by unfold AR;rw[Bi];simp) (by simp[Gh.upd,t1]) (by simp[Gh.upd]) (.inr ⟨_,rfl⟩) (fun _=>by simp[Gh.upd])⟩
      .exact hk.elim
     .exact hk.elim
    .exact hk.elim
 .exact hk.elim
theorem jn(hT:CM P cx.T){d:Option Nat}{s t:Nat}(hx:BU g w (AR h) x vx)(hk:dH cx d h s t x K):OT P w0 g0 h0 h g w (convert s t vx) K:=by
 unfold dH at hk;split at hk
 .rename_i e b hs ht;split at hk
  .rename_i d he;generalize KZ cx d=d1 at hk;split at hk
   .rename_i hd;obtain rfl:=hx.v_eq;have CZ:=run_bytes_of_string (P:=P) w s t e b (hT.string hs) (hT.slice ht) (hT.int he);have Mx:b.size<=grownCap w b.size 0 e:=grownCap_ge w b.size 0 e;generalize grownCap w b.size 0 e=cap at CZ Mx;have CH:(Mi b).length=b.size:=by
     show(b.data.toList.map _).length=b.size;rw[A7,B1];rfl
    have hbl:b.data.toList.length=b.size:=by rw[B1];rfl
    have d9:(bytesRow b cap).size=cap:=by
     show(b.data.map _++Array.replicate _ _).size=cap;rw[Array.size_append,Array.size_map,Array.size_replicate];show b.size+_=cap;omega
    have zH:(bytesRow b cap).toList.take ((Mi b).length*1)=b.data.toList.map fun c=>Value.int .u8 c.toNat:=by
     show(b.data.map _++Array.replicate _ _).toList.take _=_;rw[Array.toList_append,Array.toList_map,CH,Nat.mul_one,FZ (by rw[A7,hbl])]
    have hfl:(Mi b).flatten=(b.data.toList.map fun c=>Value.int .u8 c.toNat).map AV.v:=by
     rw[Bq]
     have:∀l:List UInt8,(l.map fun c=>[AV.v (.int .u8 c.toNat)]).flatten=l.map (AV.v ∘ fun c=>Value.int .u8 c.toNat):=fun l=>by
      induction l with
      |nil=>rfl
      |cons c l ih=>rw[AJ,BE,ih];rfl
     exact this _
    have QD:∀l:List UInt8,Hq ((l.map fun c=>Value.int .u8 c.toNat).map AV.v)=true:=fun l=>by
     induction l with
     |nil=>rfl
     |cons c l ih=>exact ih
    have hr:CW g w FB (Mi b).flatten ((bytesRow b cap).toList.take ((Mi b).length*1)):=by
     rw[zH,hfl];exact CW.vals (QD _)
    have hl:∀cs∈Mi b,cs.length=1:=fun cs hc=>by obtain⟨c,_,rfl⟩:=Ai.1 hc;rfl
    generalize bytesRow b cap=vs at CZ d9 hr;rw[<-CH]at CZ Mx;generalize Mi b=es at *
    have ED:(w.drew.alloc (.cells vs e (vs.size,vs.size+1))).heap[w.heap.size]?=some (.cells vs e (vs.size,vs.size+1)):=G0 w.drew _ rfl
    have tb:=hI.upd d1 (.tok 1 es.length) (.slice (some ⟨w.heap.size,0,none⟩) es.length cap) es.length true (some w.heap.size) (g.more w.heap.size (es.length*1)) (w.drew.alloc (.cells vs e (vs.size,vs.size+1))) none
     ⟨rfl,rfl,rfl,by rw[World.size_alloc];exact Nat.le_succ _⟩ (fun k hk' _=>by rw[heap_alloc_old _ _ (by exact hk')];rfl) (fun b e=>by cases e) (fun _ _ h=>.inl h)
     (fun b o hb=>by
      rcases hb with hb|⟨rfl,_⟩
      .exact .inl hb
      .exact .inr ⟨by rw[World.size_alloc];exact Gr _,.inl (Am _)⟩) (fun b o e=>by cases e)
     (fun b _ e=>by cases e;rw[World.size_alloc];exact⟨Gr _,.inr (Am _)⟩) B0 (fun hu=>absurd hd hu) (fun hg IY=>by
      obtain⟨u1,u2,u3,u4⟩:=BK g d1 (.slice (some ⟨w.heap.size,0,none⟩) es.length cap) es.length true (some w.heap.size) (g.more w.heap.size (es.length*1));exact⟨u3,u2,_,cap,u1,.inr ⟨Mx,w.heap.size,e,vs,0,rfl,u4,⟨_,ED,.inr (Am _)⟩,by rw[d9,Bb,Nat.mul_one],fun o ho=>by
       rcases ho with ho|⟨_,ho⟩
       .have:=hI.slt _ _ ho;omega
       .omega⟩⟩)
    obtain⟨k1,k2⟩:=tb;refine⟨_,_,_,_,_,CZ,hk,k1,k2,.tok _ d1 1 es _ (BU.slice_row ED hl Mx (hr.mono k2.keeps (fun _ h=>h) (fun _ h=>h.elim)) (fun o ho=>.inr ⟨rfl,ho⟩)) hl (by unfold AR;rw[Bi];simp) ?_ ?_ ?_⟩<;>simp[Gh.upd]
   .exact hk.elim
  .exact hk.elim
 .exact BW.does hI (aE hT hx hk)
end
end Go.Eng
