/- Lemmas 9. -/
import Derived.Test.YteaiieomnhbmgaaGreatDoorAA08
import Derived.Laws.IdiomStrings
namespace Go.Eng
variable {E:TypeId}{olds:List Value}{vx:Value}{x:AV}{cx:Cx}{K:HK}
theorem CY.app{g:Gh}{w:World}{U:Nat->Prop}{Wu bs:List AV}{xs ys:List Value}(h:CY g w U Wu xs)(k:CY g w U bs ys):CY g w U (Wu++bs) (xs++ys):=by
 refine⟨by simp[h.1,k.1],fun x hx=>(AO.1 hx).elim (h.2.1 x) (k.2.1 x),fun i av x h1 h2=>?_⟩
 by_cases hi:i<Wu.length
 .rw[AZ hi]at h1;rw[AZ (by rw[h.1];exact hi)]at h2;exact h.2.2 i av x h1 h2
 .rw[A0 ch]at h1;rw[A0 (by rw[h.1];omega),h.1]at h2;exact k.2.2 _ av x h1 h2
theorem km(P:Program)(g o:Nat)(t:TypeId)(fz:Nat×Nat)(vs:List Value):∀(i:Nat) (EN:Array Value) (w:World),w.heap[g]?=some (.cells EN t fz)->(fz=(0,0)\/EN.size<=fz.1)->o+i+vs.length<=EN.size->(∀v∈vs,v.oneCell'=true) ->
  (storeCells ⟨g,o,none⟩ vs i).run P w=.ok () (w.setRow g (EN.toList.take (o+i)++vs++EN.toList.drop (o+i+vs.length)).toArray):=by
 induction vs with
 |nil=>
  intro i EN w hg _ _ _;have e:(EN.toList.take (o+i)++[]++EN.toList.drop (o+i+([]:List Value).length)).toArray=EN:=by simp
  rw[e,setRow_self w g EN t fz hg];rfl
 |cons v rest ih=>
  intro i EN w hg hf hl h1;simp only[Ag]at hl;have hi:o+i<EN.size:=by omega
  have ha:(⟨g,o,none⟩:Addr).add i=⟨g,o+i,none⟩:=Addr.add_lit ..;have hc:w.cell? ⟨g,o+i,none⟩=some EN[o+i]:=by simp[World.cell?,hg,hi]
  have hz:w.frozen? ⟨g,o+i,none⟩=false:=by
   rcases hf with rfl | hf
   .simp[World.frozen?,hg]
   .simp only[World.frozen?,hg,MB,HE];exact .inl ch
  have h2:(store ((⟨g,o,none⟩:Addr).add i) v).run P w=.ok () (w.setRow g (EN.setIfInBounds (o+i) v)):=by
   rw[ha,run_store P w _ v _ (h1 v (Ab ..)),hc];simp[hz,setCell_eq_setRow w g (o+i) EN t fz v hg]
  have h3:=ih (i+1) (EN.setIfInBounds (o+i) v) (w.setRow g (EN.setIfInBounds (o+i) v)) (setRow_heap w g EN _ t _ hg) (by rw[Array.size_setIfInBounds];exact hf) (by rw[Array.size_setIfInBounds];omega) fun x hx=>h1 x (Ah _ hx);have e:(EN.setIfInBounds (o+i) v).toList.take (o+(i+1))++rest++(EN.setIfInBounds (o+i) v).toList.drop (o+(i+1)+rest.length)=EN.toList.take (o+i)++v::rest++EN.toList.drop (o+i+(v::rest).length):=by
   simpa[Array.toList_setIfInBounds,Nat.add_assoc]using list_seg_step EN.toList (o+i) v rest (by rw[Br];show o+i+(rest.length+1)<=_;omega)
  rw[storeCells,Sem.run_bind,h2,Result.andThen_ok,h3,setRow_setRow,e]
section
variable {P:Program}{w0:World}{g0:Gh}{h0 h:Nat->HO}{g:Gh}{w:World}(hI:D7 w0 g0 h0 h g w)
include hI
omit hI in
theorem RZ(t ty e:TypeId)(i:TypeInfo)(ht:P.underlying t=some (.slice e))(hi:P.info? e=some i)(g Pp eG:Nat)(EN:Array Value)(hg:w.heap[g]?=some (.cells EN E (0,0)))(a:Addr)(m c:Nat)(news:List Value)(hl:news.length=m*i.size)(JI:∀j u,news[j]?=some u->w.cell? (a.add j)=some u)(h1:∀u∈news,u.oneCell'=true)(KX:Pp+m<=eG)(dB:Pp*i.size+news.length<=EN.size) :
  (Builtin.append_ #[t,t] ty #[.slice (some ⟨g,0,none⟩) Pp eG,.slice (some a) m c]).run P w =
   .ok (.slice (some ⟨g,0,none⟩) (Pp+m) eG) (w.setRow g (EN.toList.take (Pp*i.size)++news++EN.toList.drop (Pp*i.size+news.length)).toArray):=by
 have hf:=run_firstCells_some (P:=P) w i.size m a m c news hl JI;have KL:=run_storeCells_at P g (Pp*i.size) E news 0 EN w hg (by simpa using dB) h1;simp only[Gi]at KL;simp[Builtin.append_,run_underlying ht,sizeOf,typeInfo,hi,Builtin.lenOf,KX,hf,Addr.add_lit,KL]
omit hI in
theorem VP(t ty e:TypeId)(i:TypeInfo)(ht:P.underlying t=some (.slice e))(hi:P.info? e=some i)(g off Pp eG:Nat)(EN:Array Value){fz:Nat×Nat}(hg:w.heap[g]?=some (.cells EN E fz))(hfz:fz=(0,0)\/EN.size<=fz.1)(a:Addr)(m c:Nat)(news:List Value)(hl:news.length=m*i.size)(JI:∀j u,news[j]?=some u->w.cell? (a.add j)=some u)(h1:∀u∈news,u.oneCell'=true)(KX:Pp+m<=eG)(dB:off+Pp*i.size+news.length<=EN.size) :
  (Builtin.append_ #[t,t] ty #[.slice (some ⟨g,off,none⟩) Pp eG,.slice (some a) m c]).run P w =
   .ok (.slice (some ⟨g,off,none⟩) (Pp+m) eG) (w.setRow g (EN.toList.take (off+Pp*i.size)++news++EN.toList.drop (off+Pp*i.size+news.length)).toArray):=by
 have hf:=run_firstCells_some (P:=P) w i.size m a m c news hl JI;have KL:=km P g (off+Pp*i.size) E fz news 0 EN w hg hfz (by simpa using dB) h1;simp only[Gi]at KL;simp[Builtin.append_,run_underlying ht,sizeOf,typeInfo,hi,Builtin.lenOf,KX,hf,Addr.add_lit,KL]
omit hI in
theorem rE{b off n m sz cap:Nat}{EN:Array Value}{fz:Nat×Nat}{news:List Value}(hb:w.heap[b]?=some (.cells EN E fz))(aP:EN.size=off+cap*sz)(hn:n<=cap)(hm:n+m<=cap)(hnl:news.length=m*sz)(hol:olds.length=n*sz)(Hm:∀j u,olds[j]?=some u->w.cell? ⟨b,off+j,none⟩=some u) :
  (EN.toList.take (off+n*sz)++news++EN.toList.drop (off+n*sz+news.length)).length=off+cap*sz /\
  ((EN.toList.take (off+n*sz)++news++EN.toList.drop (off+n*sz+news.length)).drop off).take ((n+m)*sz)=olds++news /\
  ∀o,o<off+n*sz->(EN.toList.take (off+n*sz)++news++EN.toList.drop (off+n*sz+news.length)).toArray[o]?=EN[o]?:=by
 have hcl:EN.toList.length=off+cap*sz:=by rw[Br];exact aP
 have U5:(n+m)*sz<=cap*sz:=A9 _ hm;have mE:n*sz<=cap*sz:=A9 _ hn;rw[EU]at U5;have LK:(EN.toList.take (off+n*sz)).drop off=olds:=by
  apply Dx;intro j
  by_cases hj:j<n*sz
  .rw[D0,BW ch];have hx:olds[j]?=some olds[j]:=Az ch
   have:=Hm j _ hx
   rw[F7 hb]at this;rw[A4,this,hx]
  .rw[A7 (by rw[CK,Au];omega),A7 ch]
 have uQ:(EN.toList.take (off+n*sz)).length=off+n*sz:=by rw[Au];omega
 refine⟨?_,?_,fun o ho=>?_⟩
 .rw[Ac,Ac,uQ,CK,hcl,hnl];omega
 .rw[BA,List.drop_append_of_le_length (by rw[uQ];omega),LK,<-BA,F2 (by rw[Ac,hol,hnl,EU])]
 .rw[GE,BA,AZ (by rw[uQ];exact ho),BW ho,A4]
omit hI in
theorem ol{b n m sz cap:Nat}{EN:Array Value}{news:List Value}(hb:w.heap[b]?=some (.cells EN E (0,0)))(aP:EN.size=cap*sz)(hn:n<=cap)(hm:n+m<=cap)(hnl:news.length=m*sz)(hol:olds.length=n*sz)(Hm:∀j u,olds[j]?=some u->w.cell? ⟨b,j,none⟩=some u) :
  (EN.toList.take (n*sz)++news++EN.toList.drop (n*sz+news.length)).length=cap*sz /\
  (EN.toList.take (n*sz)++news++EN.toList.drop (n*sz+news.length)).take ((n+m)*sz)=olds++news /\
  ∀o,o<n*sz->(EN.toList.take (n*sz)++news++EN.toList.drop (n*sz+news.length)).toArray[o]?=EN[o]?:=by
 have hcl:EN.toList.length=cap*sz:=by rw[Br];exact aP
 have U5:(n+m)*sz<=cap*sz:=A9 _ hm;have mE:n*sz<=cap*sz:=A9 _ hn;rw[EU]at U5;have LK:EN.toList.take (n*sz)=olds:=by
  apply Dx;intro j
  by_cases hj:j<n*sz
  .rw[BW hj];have hx:olds[j]?=some olds[j]:=Az ch
   have:=Hm j _ hx
   rw[F7 hb]at this;rw[A4,this,hx]
  .rw[A7 (by rw[Au];omega),A7 ch]
 have uQ:(EN.toList.take (n*sz)).length=n*sz:=by rw[Au];omega
 refine⟨?_,?_,fun o ho=>?_⟩
 .rw[Ac,Ac,uQ,CK,hcl,hnl];omega
 .rw[LK,F2 (by rw[Ac,hol,hnl,EU])]
 .rw[GE,BA,AZ (by rw[uQ];exact ho),BW ho,A4]
theorem Xc{r n sz:Nat}{es:List (List AV)}{x:Value}(he:h r=.arr sz es)(hx:BS g w (AQ h) (.msl r n) x)(hn:n=es.length) :
  x=g.ρ r/\∃news,PG w x es.length sz news/\CY g w FK es.flatten news:=by
 have ho:=hI.objs r;rw[he]at ho;obtain⟨t1,l1,al,a1⟩:=ho;cases hx with
 |msl _ _ _ a cap hu ht aV ha MS=>
  have e:=MS (hn.trans l1.symm);refine⟨e,?_⟩;rw[e];rcases a1 with ⟨rfl,e2,e3⟩ | ⟨b,Mb,E,vs,e1,e2,e3,e4,e5,e6,e7⟩
  .exact⟨[],⟨by simp,by simp,none,0,e2,.inl rfl⟩,by simp,by simp,fun i av x h1 h2=>by simp at h2⟩
  .have aP:vs.toList.length=Mb*sz:=by rw[Br];exact e5
   have Ij:es.length*sz<=vs.toList.length:=by rw[aP];exact A9 _ e3
   refine⟨vs.toList.take (es.length*sz),⟨by rw[Au,KD Ij],e6.2.1,_,_,e1,.inr ⟨_,rfl,fun j u hj=>?_⟩⟩,e6⟩;rw[Addr.add_lit,Bg,F7 e4];have Du:=(Av.1 hj).1;rw[Au]at Du;rw[BW ch,A4]at hj;exact hj
theorem iM{sz:Nat}{K:List (List AV)->Prop}(hx:BS g w (AQ h) x vx)(hk:Mi h x K) :
  ∃es,K es/\((∀c∈es,c.length=sz)->∃news,PG w vx es.length sz news/\CY g w FK es.flatten news):=by
 unfold Mi at hk;split at hk
 .exact⟨_,hk,fun hl=>PG.of_rep hx.slice_none hl⟩
 .obtain rfl:=hx.v_eq;exact⟨[],hk,fun _=>⟨[],⟨by simp,by simp,none,0,rfl,.inl rfl⟩,by simp,by simp,fun i av x h1 h2=>by simp at h2⟩⟩
 .rename_i r n;split at hk
  .rename_i Hb es e;obtain⟨hn,hk⟩:=hk;refine⟨es,hk,fun hl=>?_⟩;obtain⟨_,news,n1,n2⟩:=Xc hI e hx hn;refine⟨news,?_,n2⟩
   have:news.length=es.length*sz:=by rw[n2.1,DA hl]
   exact⟨this,n1.2.1,n1.2.2⟩
  .exact hk.elim
 .exact hk.elim
theorem jz{d:Option Nat}{sz:Nat}(hk:E7 cx d h sz [] K) :
  ∃g' av h',K av h'/\D7 w0 g0 h0 h' g' w/\Le h g w h' g' w/\BS g' w (AQ h') av (.slice none 0 0):=by
 have base:∀(d:Nat) (o' : HO),h d=.free->o'≠.free->(∀g' : Gh,g'.ρ d=.slice none 0 0->g'.ln d=0->g'.tk d=true->g'.own d=none->EC g' w (AQ (A1 h d o')) d o') ->
   D7 w0 g0 h0 (A1 h d o') (g.upd d (.slice none 0 0) 0 true none g.S) w/\Le h g w (A1 h d o') (g.upd d (.slice none 0 0) 0 true none g.S) w:=by
  intro d o' hd DH Kn;refine hI.upd d o' _ _ _ _ _ w none ⟨rfl,rfl,rfl,Ak _⟩ (fun _ _ _=>rfl) (fun b e=>by cases e) (fun _ _ h=>h) (fun _ _ h=>.inl h) (fun b o e=>by cases e) (fun b _ e=>by cases e) DH (fun hu=>absurd hd hu) (fun _ _=>?_);obtain⟨u1,u2,u3,u4⟩:=BJ g d (.slice none 0 0) 0 true none g.S;exact Kn _ u1 u2 u3 u4
 unfold E7 at hk;split at hk
 .exact hk.elim
 .rename_i d;generalize KJ cx d=d1 at hk;split at hk
  .rename_i hd;split at hk
   .obtain⟨k1,k2⟩:=base d1 (.arr sz []) hd B0 (fun g' u1 u2 u3 u4=>⟨u3,u2,by simp,.inl ⟨rfl,u1,u4⟩⟩);exact⟨_,_,_,hk,k1,k2,.msl _ d1 0 none 0 (by unfold AQ;rw[Bl];simp) (by simp[Gh.upd]) (Ax _) (.inl rfl) (fun _=>by simp[Gh.upd])⟩
   .obtain⟨k1,k2⟩:=base d1 (.tok sz 0) hd B0 (fun g' u1 u2 u3 u4=>⟨u3,u2,none,0,u1,.inl ⟨rfl,u4⟩⟩);exact⟨_,_,_,hk,k1,k2,.tok _ d1 sz [] _ (.snil _ _ _) B0 (by unfold AQ;rw[Bl];simp) (by simp[Gh.upd]) (Ax _) (fun _=>by simp[Gh.upd])⟩
  .exact hk.elim
theorem cL(hT:CI P cx.T){d:Option Nat}{t ty:Nat}{s:AV}{vs:Value}(hs:BS g w (AQ h) s vs)(hx:BS g w (AQ h) x vx)(hk:I6 cx d h t s x K) :
  OM P w0 g0 h0 h g w (Builtin.append_ #[t,t] ty #[vs,vx]) K:=by
 unfold I6 at hk;split at hk
 .rename_i e ht;split at hk
  .exact hk.elim
  .rename_i hz;have hz:=AL hz;split at hk
   .exact hk.elim
   .rename_i k EZ;have h5:=iM hI (sz:=(cx.T e).size) hx hk
    clear hk
    obtain⟨es2,hk,h6⟩:=h5;split at hk
    .obtain⟨⟨q1,q2,q3⟩,hk⟩:=hk;obtain rfl:=hs.v_eq;obtain⟨news,n1,n2⟩:=h6 (Gn q1);obtain⟨m1,m2,a,c,rfl,m4⟩:=n1
     by_cases hm:es2.length=0
     .obtain rfl:=AP hm;obtain⟨g',av,h',k1,k2,k3,k4⟩:=jz hI hk;exact⟨_,w,g',av,h',JC hT w ht EZ none a 0 0 c (Ak _),k1,k2,k3,k4⟩
     .obtain⟨nc,rest,r1,r2,r3⟩:=IH hT w (ty:=ty) ht EZ hz (olds:=[]) (a:=none) (n:=0) (cap:=0) ⟨by simp,by simp,none,0,rfl,.inl rfl⟩ rfl (fun _=>rfl) ⟨m1,m2,a,c,rfl,m4⟩ rfl ch ch (by rw[Bg];exact q2) ch;obtain⟨g',av,h',k1,k2,k3,k4⟩:=KZ hI hk (vs:=([]++news++rest).toArray) (cap:=nc) e (Gn q1) ch (by simpa using r3) (by
       rw[F1,show(news++rest).toArray.toList=news++rest from rfl,F2 m1];exact n2) w.drew ⟨rfl,rfl,rfl,rfl⟩
      rw[Bg]at r1;exact⟨_,_,g',av,h',r1,k1,k2,k3,k4⟩
    .rename_i Hb es;split at hk
     .rename_i SM;obtain SM:=AL SM;obtain⟨⟨q1,q2,q3,q4⟩,hk⟩:=hk;obtain⟨news,n1,n2⟩:=h6 (Gn q1);obtain⟨m1,m2,a2,c2,rfl,m4⟩:=n1;cases hs with
      |full _ _ _ _ hr ZC MS=>
       obtain⟨a,rfl⟩:=MS;have GL:∀c∈es++es2,c.length=(cx.T e).size:=fun c hc=>(AO.1 hc).elim (fun h=>(ZC c h).trans SM) (Gn q1 c);obtain⟨olds,o1,o2⟩:=PG.of_rep hr (sz:=(cx.T e).size) (fun c hc=>(ZC c hc).trans SM);have hrl:=o2.app n2;rw[<-Ch]at hrl;have ha:a=none->es.length=0:=by
        rintro rfl
        obtain⟨p1,p2,a',c',p3,p4⟩:=o1;cases p3;rcases p4 with h | ⟨b',h,_⟩
        .exact h
        .cases h
       obtain⟨nc,rest,r1,r2,r3⟩:=IH hT w (ty:=ty) ht EZ hz o1 rfl ha ⟨m1,m2,a2,c2,rfl,m4⟩ rfl q2 ch q3 q4;obtain⟨g',av,h',k1,k2,k3,k4⟩:=KZ hI hk (vs:=(olds++news++rest).toArray) (cap:=nc) e GL (by rw[Ac];exact r2) (by rw[DV];exact r3) (by
        rw[show(olds++news++rest).toArray.toList=olds++news++rest from rfl,F2 (by rw[Ac,Ac,o1.1,m1,EU])];exact hrl) w.drew ⟨rfl,rfl,rfl,rfl⟩
       rw[Ac]at k4;exact⟨_,_,g',av,h',r1,k1,k2,k3,k4⟩
     .exact hk.elim
    .rename_i r Hb es;have ho:=hI.objs r;split at hk
     .rename_i sz n e0;rw[e0]at ho;split at hk
      .rename_i SM Adg;obtain rfl:=AL Adg;obtain SM:=AL SM;obtain⟨⟨q1,q2,q3,q4⟩,hk⟩:=hk;rw[SM]at q1;obtain⟨news,n1,n2⟩:=h6 (Gn q1);obtain⟨m1,m2,a2,c2,rfl,m4⟩:=n1;obtain⟨t1,l1,a,cap,a1,a3⟩:=ho;have hl:(h r).live:=by rw[e0];trivial
       have GL:∀c∈es++es2,es.length=n->True:=fun _ _ _=>trivial;cases hs with
       |tok _ _ _ _ _ hr ZC hu ht' hn MS=>
        have hv:=MS (q2.trans l1.symm);rw[a1]at hv;subst hv;subst q2;have GL:∀c∈es++es2,c.length=Hb:=fun c hc=>(AO.1 hc).elim (ZC c) (fun h=>(Gn q1 c h).trans SM.symm);obtain⟨olds,o1,o2⟩:=PG.of_rep hr ZC;have hrl:=o2.app n2;rw[<-Ch]at hrl;have fM:es.length<=cap:=by rcases a3 with ⟨e1,_⟩ | ⟨e1,_⟩<;>omega
        by_cases hm:es2.length=0
        .obtain rfl:=AP hm;have Kn:=hI.objs r;rw[e0]at Kn
         obtain⟨k1,k2⟩:=hI.upd r (.tok Hb (es.length+([]:List (List AV)).length)) (g.ρ r) (g.ln r) (g.tk r) (g.own r) g.S w none ⟨rfl,rfl,rfl,Ak _⟩ (fun _ _ _=>rfl) (fun b e=>by cases e) (fun _ _ h=>h) (fun _ _ h=>.inl h) (fun b o e=>by cases e)
          (fun b _ e=>⟨(hI.loc r b hl e).1,.inl ⟨hl,e⟩⟩) B0 (fun _=>⟨rfl,Ak _,fun _=>rfl,fun _=>rfl⟩) (fun hg IM=>by
           obtain⟨u1,u2,u3,u4⟩:=BJ g r (g.ρ r) (g.ln r) (g.tk r) (g.own r) g.S;rw[Ao,Gi];exact Kn.same IM (fun i hi=>Ee B0 i hi) hg u1 u2 u3 u4 (fun b _ _=>⟨rfl,fun _ h=>h⟩))
         refine⟨_,w,_,_,_,JC hT w ht EZ a a2 es.length cap c2 fM,hk,k1,k2,?_⟩;rw[BP];exact(BS.tok (AQ h) r Hb es _ hr ZC hu ht' hn MS).le k2
        .by_cases KX:es.length+es2.length<=cap
         .rcases a3 with ⟨e1,_⟩ | ⟨e1,b,E,EN,off,rfl,e3,⟨fz,e4,efz⟩,e5,e6⟩
          .omega
          .rcases m4 with h | ⟨ba,rfl,JI⟩
           .omega
           .obtain⟨i,z,i1,i2,i3,i4,i5⟩:=Iq hT EZ;have U5:(es.length+es2.length)*Hb<=cap*Hb:=A9 _ KX;have uG:news.length=es2.length*Hb:=by rw[SM];exact m1
            have dC:i.size=Hb:=i3.trans SM.symm;have C3:=VP (P:=P) t ty e i (hT.slice ht) i1 b off es.length cap EN e4 efz ba es2.length c2 news (by rw[dC];exact uG) JI m2 KX (by rw[dC,uG,e5];rw[EU]at U5;omega);rw[dC]at C3;have Hm:∀j u,olds[j]?=some u->w.cell? ⟨b,off+j,none⟩=some u:=by
             obtain⟨p1,p2,a',c',p3,p4⟩:=o1;cases p3;intro j u hj;rcases p4 with h | ⟨b',h,h'⟩
             .rw[h,Lz]at p1;rw[AP p1]at hj;simp at hj
             .cases h
              have:=h' j u hj
              rwa [Addr.add_lit]at this
            obtain⟨p1,p2,p3⟩:=rE e4 e5 e1 KX uG o1.1 Hm;generalize hnewd:EN.toList.take (off+es.length*Hb)++news++EN.toList.drop (off+es.length*Hb+news.length)=new at C3 p1 p2 p3;have EY:=setRow_heap w b EN new.toArray E fz e4;have iY:=(hI.loc r b hl e3).1
            obtain⟨k1,k2⟩:=hI.upd r (.tok Hb (es.length+es2.length)) (.slice (some ⟨b,off,none⟩) (es.length+es2.length) cap) (es.length+es2.length) (g.tk r) (g.own r) (g.more b (off+(es.length+es2.length)*Hb)) (w.setRow b new.toArray) (some b)
             ⟨rfl,rfl,rfl,by rw[size_setRow];exact Ak _⟩ (fun k _ DH=>setRow_other w b k _ (fun e=>DH (by rw[e]))) (fun b' e=>by cases e;exact⟨hl,e3⟩) (fun _ _ h=>.inl h)
             (fun b' o hs=>hs.elim .inl (fun hs=>.inr ⟨by rw[size_setRow,hs.1];exact iY,.inr ⟨hl,by rw[hs.1];exact e3⟩⟩))
             (fun b' o e hs=>by
              cases e
              refine⟨?_,fun es ck he=>by rw[e4]at he;cases he⟩;rw[F7 EY,F7 e4];exact p3 o (e6 o hs)) (fun b' _ e=>by
              rw[e3]at e;cases e;exact⟨by rw[size_setRow];exact iY,.inl ⟨hl,e3⟩⟩) B0 (fun _=>⟨rfl,by omega,fun e=>(by rw[t1]at e;cases e),fun e=>by omega⟩) (fun hg IM=>by
              obtain⟨u1,u2,u3,u4⟩:=BJ g r (.slice (some ⟨b,off,none⟩) (es.length+es2.length) cap) (es.length+es2.length) (g.tk r) (g.own r) (g.more b (off+(es.length+es2.length)*Hb));exact⟨u3.trans t1,u2,_,cap,u1,  .inr ⟨KX,b,E,_,off,rfl,u4.trans e3,⟨fz,EY,efz.imp id fun h=>by rw[DV,p1,<-e5];exact h⟩,by rw[DV];exact p1,fun o ho=>by
               rcases ho with ho | ⟨_,ho⟩
               .have h1:=e6 o ho;have h2:es.length*Hb<=(es.length+es2.length)*Hb:=A9 _ ch;omega
               .exact ho⟩⟩)
            have EE:=BS.slice_off (g:=g.upd r (.slice (some ⟨b,off,none⟩) (es.length+es2.length) cap) (es.length+es2.length) (g.tk r) (g.own r) (g.more b (off+(es.length+es2.length)*Hb))) (U:=AQ (A1 h r (.tok Hb (es.length+es2.length)))) (cap:=cap) (es:=es++es2) EY GL (by rw[Ac];exact KX) (by
             rw[Ac,show new.toArray.toList=new from rfl,p2];exact hrl.mono k2.keeps (fun _ h=>h) (fun _ h=>h.elim)) (fun o ho=>.inr ⟨rfl,by rw[Ac]at ho;exact Nat.add_lt_add_left ho off⟩)
            rw[Ac]at EE;exact⟨_,_,_,_,_,C3,hk,k1,k2,.tok _ r Hb _ _ EE GL (by unfold AQ;rw[Bl];simp) (by simp[Gh.upd,t1]) (by simp[Gh.upd]) (fun _=>by simp[Gh.upd])⟩
         .have mB:cap<es.length+es2.length:=by omega
          have ha:a=none->cap=0:=by
           rintro rfl
           rcases a3 with ⟨e1,_⟩ | ⟨_,b,_,_,_,e2,_⟩
           .obtain⟨p1,p2,a',c',p3,p4⟩:=o1;cases p3;rcases p4 with h | ⟨b',h,_⟩
            .omega
            .cases h
           .cases e2
          obtain⟨nc,rest,r1,r2,r3⟩:=IH hT w (ty:=ty) ht EZ hz (by rw[<-SM];exact o1) rfl ha ⟨m1,m2,a2,c2,rfl,m4⟩ rfl ch mB q3 q4;have EY:=G2 w.drew (.cells (olds++news++rest).toArray e (0,0)) (b:=w.heap.size) rfl
          obtain⟨k1,k2⟩:=hI.upd r (.tok Hb (es.length+es2.length)) (.slice (some ⟨w.heap.size,0,none⟩) (es.length+es2.length) nc) (es.length+es2.length) (g.tk r) (some w.heap.size) (g.more w.heap.size ((es.length+es2.length)*Hb))
           (w.drew.alloc (.cells (olds++news++rest).toArray e (0,0))) none
           ⟨rfl,rfl,rfl,by rw[World.size_alloc];exact Nat.le_succ _⟩ (fun k hk' _=>by rw[heap_alloc_old _ _ (by exact hk')];rfl) (fun b' e=>by cases e) (fun _ _ h=>.inl h)
           (fun b' o hs=>hs.elim .inl (fun hs=>.inr ⟨by rw[World.size_alloc,hs.1];exact Gq _,.inl (by rw[hs.1];exact Ak _)⟩))
           (fun b' o e=>by cases e) (fun b' _ e=>by cases e;exact⟨by rw[World.size_alloc];exact Gq _,.inr (Ak _)⟩) B0 (fun _=>⟨rfl,by omega,fun e=>(by rw[t1]at e;cases e),fun e=>by omega⟩) (fun hg IM=>by
            obtain⟨u1,u2,u3,u4⟩:=BJ g r (.slice (some ⟨w.heap.size,0,none⟩) (es.length+es2.length) nc) (es.length+es2.length) (g.tk r) (some w.heap.size) (g.more w.heap.size ((es.length+es2.length)*Hb));exact⟨u3.trans t1,u2,_,nc,u1,.inr ⟨r2,w.heap.size,e,_,0,rfl,u4,.of EY,by rw[DV,SM,Bg];exact r3,fun o ho=>by
             rcases ho with ho | ⟨_,ho⟩
             .have:=hI.slt _ _ ho;omega
             .omega⟩⟩)
          have EE:=BS.slice_row (g:=g.upd r (.slice (some ⟨w.heap.size,0,none⟩) (es.length+es2.length) nc) (es.length+es2.length) (g.tk r) (some w.heap.size) (g.more w.heap.size ((es.length+es2.length)*Hb))) (U:=AQ (A1 h r (.tok Hb (es.length+es2.length)))) (cap:=nc) (es:=es++es2) EY GL (by rw[Ac];exact r2) (by
           rw[Ac,show(olds++news++rest).toArray.toList=olds++news++rest from rfl,F2 (by rw[Ac,o1.1,m1,SM,EU])];exact hrl.mono k2.keeps (fun _ h=>h) (fun _ h=>h.elim)) (fun o ho=>.inr ⟨rfl,by rw[Ac]at ho;exact ho⟩)
          rw[Ac]at EE;exact⟨_,_,_,_,_,r1,hk,k1,k2,.tok _ r Hb _ _ EE GL (by unfold AQ;rw[Bl];simp) (by simp[Gh.upd,t1]) (by simp[Gh.upd]) (fun _=>by simp[Gh.upd])⟩
      .exact hk.elim
     .exact hk.elim
    .rename_i r n;have ho:=hI.objs r;split at hk
     .rename_i sz es e0;split at hk
      .rename_i SM;obtain SM:=AL SM;obtain⟨⟨q1,q2,q3,q4⟩,hk⟩:=hk;rw[SM]at q1;obtain⟨news,n1,n2⟩:=h6 (Gn q1);obtain⟨m1,m2,a2,c2,rfl,m4⟩:=n1;obtain⟨hv,olds,o1,o2⟩:=Xc hI e0 hs q2.symm;have Kn:=ho;rw[e0]at ho;obtain⟨t1,l1,al,a3⟩:=ho;have hl:(h r).live:=by rw[e0];trivial
       subst hv;have GL:∀c∈es++es2,c.length=sz:=fun c hc=>(AO.1 hc).elim (al c) (fun h=>(Gn q1 c h).trans SM.symm);have hrl:=o2.app n2;rw[<-Ch]at hrl;obtain⟨a,cap,hρ,fM,ha⟩:∃a cap,g.ρ r=.slice a es.length cap/\es.length<=cap/\(a=none->cap=0):=by
        rcases a3 with ⟨rfl,e2,e3⟩ | ⟨b,cap,E,EN,e1,e2,e3,e4,e5,e6,e7⟩
        .exact⟨none,0,e2,Ak _,fun _=>rfl⟩
        .exact⟨_,cap,e1,e3,fun e=>by cases e⟩
       by_cases hm:es2.length=0
       .obtain rfl:=AP hm;rw[e0]at Kn
        obtain⟨k1,k2⟩:=hI.upd r (.arr sz (es++[])) (g.ρ r) (g.ln r) (g.tk r) (g.own r) g.S w none ⟨rfl,rfl,rfl,Ak _⟩ (fun _ _ _=>rfl) (fun b e=>by cases e) (fun _ _ h=>h) (fun _ _ h=>.inl h) (fun b o e=>by cases e)
         (fun b _ e=>⟨(hI.loc r b hl e).1,.inl ⟨hl,e⟩⟩) B0 (fun _=>⟨rfl,Ak _,fun _=>rfl,fun _=>rfl⟩) (fun hg IM=>by
          obtain⟨u1,u2,u3,u4⟩:=BJ g r (g.ρ r) (g.ln r) (g.tk r) (g.own r) g.S;rw[BP];exact Kn.same IM (fun i hi=>Ee B0 i hi) hg u1 u2 u3 u4 (fun b _ _=>⟨rfl,fun _ h=>h⟩))
        refine⟨g.ρ r,w,_,_,_,?_,hk,k1,k2,?_⟩
        .rw[hρ];exact JC hT w ht EZ a a2 es.length cap c2 fM
        .have:=hs.le k2
         rw[<-q2]at this;exact this
       .by_cases KX:es.length+es2.length<=cap
        .rcases a3 with ⟨rfl,e2,e3⟩ | ⟨b,Mb,E,EN,e1,e2,e3,e4,e5,e6,e7⟩
         .rw[e2]at hρ;cases hρ;omega
         .rw[e1]at hρ;simp only[Value.slice.injEq,true_and]at hρ;obtain⟨rfl,rfl⟩:=hρ;rcases m4 with h | ⟨ba,rfl,JI⟩
          .omega
          .obtain⟨i,z,i1,i2,i3,i4,i5⟩:=Iq hT EZ;have U5:(es.length+es2.length)*sz<=Mb*sz:=A9 _ KX;have uG:news.length=es2.length*sz:=by rw[SM];exact m1
           have dC:i.size=sz:=i3.trans SM.symm;have C3:=RZ (P:=P) t ty e i (hT.slice ht) i1 b es.length Mb EN e4 ba es2.length c2 news (by rw[dC];exact uG) JI m2 KX (by rw[dC,uG,<-EU,e5];exact U5);rw[dC]at C3;have Hm:∀j u,olds[j]?=some u->w.cell? ⟨b,j,none⟩=some u:=by
            obtain⟨p1,p2,a',c',p3,p4⟩:=o1;rw[e1]at p3;cases p3;intro j u hj;rcases p4 with h | ⟨b',h,h'⟩
            .rw[h,Lz]at p1;rw[AP p1]at hj;simp at hj
            .cases h
             have:=h' j u hj
             rwa [Addr.add_lit,Bg]at this
           obtain⟨p1,p2,p3⟩:=ol e4 e5 e3 KX uG o1.1 Hm;generalize hnewd:EN.toList.take (es.length*sz)++news++EN.toList.drop (es.length*sz+news.length)=new at C3 p1 p2 p3;have EY:=setRow_heap w b EN new.toArray E (0,0) e4;have iY:=(hI.loc r b hl e2).1
           obtain⟨k1,k2⟩:=hI.upd r (.arr sz (es++es2)) (.slice (some ⟨b,0,none⟩) (es.length+es2.length) Mb) (es.length+es2.length) (g.tk r) (g.own r) g.S (w.setRow b new.toArray) (some b)
            ⟨rfl,rfl,rfl,by rw[size_setRow];exact Ak _⟩ (fun k _ DH=>setRow_other w b k _ (fun e=>DH (by rw[e]))) (fun b' e=>by cases e;exact⟨hl,e2⟩) (fun _ _ h=>h) (fun _ _ h=>.inl h)
            (fun b' o e hs=>by cases e;exact absurd hs (e7 o)) (fun b' _ e=>by
             rw[e2]at e;cases e;exact⟨by rw[size_setRow];exact iY,.inl ⟨hl,e2⟩⟩) B0 (fun _=>⟨rfl,by omega,fun e=>(by rw[t1]at e;cases e),fun e=>by omega⟩) (fun hg IM=>by
             obtain⟨u1,u2,u3,u4⟩:=BJ g r (.slice (some ⟨b,0,none⟩) (es.length+es2.length) Mb) (es.length+es2.length) (g.tk r) (g.own r) g.S;refine⟨u3.trans t1,by rw[u2,Ac],GL,.inr ⟨b,Mb,E,_,by rw[u1,Ac],u4.trans e2,by rw[Ac];exact KX,EY,by rw[DV];exact p1,?_,e7⟩⟩;rw[Ac,show new.toArray.toList=new from rfl,p2];exact hrl.mono IM (fun _ h=>h) (fun _ h=>h.elim))
           rw[e1];exact⟨_,_,_,_,_,C3,hk,k1,k2,.msl _ r _ _ _ (by unfold AQ;rw[Bl];simp) (by simp[Gh.upd,t1]) (by simp[Gh.upd]) (.inr ⟨_,rfl⟩) (fun _=>by simp[Gh.upd])⟩
        .have mB:cap<es.length+es2.length:=by omega
         obtain⟨nc,rest,r1,r2,r3⟩:=IH hT w (ty:=ty) ht EZ hz (by rw[<-SM];exact o1) hρ ha ⟨m1,m2,a2,c2,rfl,m4⟩ rfl ch mB q3 q4;have EY:=G2 w.drew (.cells (olds++news++rest).toArray e (0,0)) (b:=w.heap.size) rfl
         obtain⟨k1,k2⟩:=hI.upd r (.arr sz (es++es2)) (.slice (some ⟨w.heap.size,0,none⟩) (es.length+es2.length) nc) (es.length+es2.length) (g.tk r) (some w.heap.size) g.S
          (w.drew.alloc (.cells (olds++news++rest).toArray e (0,0))) none
          ⟨rfl,rfl,rfl,by rw[World.size_alloc];exact Nat.le_succ _⟩ (fun k hk' _=>by rw[heap_alloc_old _ _ (by exact hk')];rfl) (fun b' e=>by cases e) (fun _ _ h=>h) (fun _ _ h=>.inl h)
          (fun b' o e=>by cases e) (fun b' _ e=>by cases e;exact⟨by rw[World.size_alloc];exact Gq _,.inr (Ak _)⟩) B0 (fun _=>⟨rfl,by omega,fun e=>(by rw[t1]at e;cases e),fun e=>by omega⟩) (fun hg IM=>by
           obtain⟨u1,u2,u3,u4⟩:=BJ g r (.slice (some ⟨w.heap.size,0,none⟩) (es.length+es2.length) nc) (es.length+es2.length) (g.tk r) (some w.heap.size) g.S;refine⟨u3.trans t1,by rw[u2,Ac],GL,.inr ⟨w.heap.size,nc,e,_,by rw[u1,Ac],u4,by rw[Ac];exact r2,EY,by rw[DV,SM];exact r3,?_,fun o ho=>by have:=hI.slt _ _ ho;omega⟩⟩;rw[Ac,show(olds++news++rest).toArray.toList=olds++news++rest from rfl,F2 (by rw[Ac,o1.1,m1,SM,EU])];exact hrl.mono IM (fun _ h=>h) (fun _ h=>h.elim))
         exact⟨_,_,_,_,_,r1,hk,k1,k2,.msl _ r _ _ _ (by unfold AQ;rw[Bl];simp) (by simp[Gh.upd,t1]) (by simp[Gh.upd]) (.inr ⟨_,rfl⟩) (fun _=>by simp[Gh.upd])⟩
      .exact hk.elim
     .exact hk.elim
    .exact hk.elim
 .exact hk.elim
theorem iI(hT:CI P cx.T){d:Option Nat}{s t:Nat}(hx:BS g w (AQ h) x vx)(hk:da cx d h s t x K):OM P w0 g0 h0 h g w (convert s t vx) K:=by
 unfold da at hk;split at hk
 .rename_i e b hs ht;split at hk
  .rename_i d he;generalize KJ cx d=d1 at hk;split at hk
   .rename_i hd;obtain rfl:=hx.v_eq;have C3:=run_bytes_of_string (P:=P) w s t e b (hT.string hs) (hT.slice ht) (hT.int he);have Mm:b.size<=grownCap w b.size 0 e:=grownCap_ge w b.size 0 e;generalize grownCap w b.size 0 e=cap at C3 Mm;have CQ:(L8 b).length=b.size:=by
     show(b.data.toList.map _).length=b.size;rw[A8,Br];rfl
    have hbl:b.data.toList.length=b.size:=by rw[Br];rfl
    have dI:(bytesRow b cap).size=cap:=by
     show(b.data.map _++Array.replicate _ _).size=cap;rw[Array.size_append,Array.size_map,Array.size_replicate];show b.size+_=cap;omega
    have y8:(bytesRow b cap).toList.take ((L8 b).length*1)=b.data.toList.map fun c=>Value.int .u8 c.toNat:=by
     show(b.data.map _++Array.replicate _ _).toList.take _=_;rw[Array.toList_append,Array.toList_map,CQ,Nat.mul_one,F2 (by rw[A8,hbl])]
    have hfl:(L8 b).flatten=(b.data.toList.map fun c=>Value.int .u8 c.toNat).map AV.v:=by
     rw[Bs]
     have:∀l:List UInt8,(l.map fun c=>[AV.v (.int .u8 c.toNat)]).flatten=l.map (AV.v ∘ fun c=>Value.int .u8 c.toNat):=fun l=>by
      induction l with
      |nil=>rfl
      |cons c l ih=>rw[AK,BD,ih];rfl
     exact this _
    have Qt:∀l:List UInt8,Hp ((l.map fun c=>Value.int .u8 c.toNat).map AV.v)=true:=fun l=>by
     induction l with
     |nil=>rfl
     |cons c l ih=>exact ih
    have hr:CY g w FK (L8 b).flatten ((bytesRow b cap).toList.take ((L8 b).length*1)):=by
     rw[y8,hfl];exact CY.vals (Qt _)
    have hl:∀cs∈L8 b,cs.length=1:=fun cs hc=>by obtain⟨c,_,rfl⟩:=Ai.1 hc;rfl
    generalize bytesRow b cap=vs at C3 dI hr;rw[<-CQ]at C3 Mm;generalize L8 b=es at *
    have EY:(w.drew.alloc (.cells vs e (vs.size,vs.size+1))).heap[w.heap.size]?=some (.cells vs e (vs.size,vs.size+1)):=G2 w.drew _ rfl
    have sF:=hI.upd d1 (.tok 1 es.length) (.slice (some ⟨w.heap.size,0,none⟩) es.length cap) es.length true (some w.heap.size) (g.more w.heap.size (es.length*1)) (w.drew.alloc (.cells vs e (vs.size,vs.size+1))) none
     ⟨rfl,rfl,rfl,by rw[World.size_alloc];exact Nat.le_succ _⟩ (fun k hk' _=>by rw[heap_alloc_old _ _ (by exact hk')];rfl) (fun b e=>by cases e) (fun _ _ h=>.inl h)
     (fun b o hb=>by
      rcases hb with hb | ⟨rfl,_⟩
      .exact .inl hb
      .exact .inr ⟨by rw[World.size_alloc];exact Gq _,.inl (Ak _)⟩) (fun b o e=>by cases e)
     (fun b _ e=>by cases e;rw[World.size_alloc];exact⟨Gq _,.inr (Ak _)⟩) B0 (fun hu=>absurd hd hu) (fun hg IM=>by
      obtain⟨u1,u2,u3,u4⟩:=BJ g d1 (.slice (some ⟨w.heap.size,0,none⟩) es.length cap) es.length true (some w.heap.size) (g.more w.heap.size (es.length*1));exact⟨u3,u2,_,cap,u1,.inr ⟨Mm,w.heap.size,e,vs,0,rfl,u4,⟨_,EY,.inr (Ak _)⟩,by rw[dI,Bg,Nat.mul_one],fun o ho=>by
       rcases ho with ho | ⟨_,ho⟩
       .have:=hI.slt _ _ ho;omega
       .omega⟩⟩)
    obtain⟨k1,k2⟩:=sF;refine⟨_,_,_,_,_,C3,hk,k1,k2,.tok _ d1 1 es _ (BS.slice_row EY hl Mm (hr.mono k2.keeps (fun _ h=>h) (fun _ h=>h.elim)) (fun o ho=>.inr ⟨rfl,ho⟩)) hl (by unfold AQ;rw[Bl];simp) ?_ ?_ ?_⟩<;>simp[Gh.upd]
   .exact hk.elim
  .exact hk.elim
 .exact BU.does hI (af hT hx hk)
end
end Go.Eng
