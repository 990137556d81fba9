/- Lemmas 9. -/
import Derived.Test.YteaiieomnhbmgaaGreatDoorEA08
import Derived.Laws.IdiomStrings
namespace Go.Eng
variable {E:TypeId}{olds:List Value}{vx:Value}{x:AV}{cx:Cx}{K:HK}
theorem CU.app{g:Gh}{w:World}{U:Nat->Prop}{Wl bs:List AV}{xs ys:List Value}(h:CU g w U Wl xs)(k:CU g w U bs ys):CU g w U (Wl++bs) (xs++ys):=by
 refine⟨by simp[h.1,k.1],fun x hx=>(AP.1 hx).elim (h.2.1 x) (k.2.1 x),fun i av x h1 h2=>?_⟩
 by_cases hi:i<Wl.length
 .rw[A0 hi]at h1;rw[A0 (by rw[h.1];exact hi)]at h2;exact h.2.2 i av x h1 h2
 .rw[A1 ch]at h1;rw[A1 (by rw[h.1];omega),h.1]at h2;exact k.2.2 _ av x h1 h2
theorem kn(P:Program)(g o:Nat)(t:TypeId)(fz:Nat×Nat)(vs:List Value):∀(i:Nat) (EI:Array Value) (w:World),w.heap[g]?=some (.cells EI t fz)->(fz=(0,0)\/EI.size<=fz.1)->o+i+vs.length<=EI.size->(∀v∈vs,v.oneCell'=true) ->
  (storeCells ⟨g,o,none⟩ vs i).run P w=.ok () (w.setRow g (EI.toList.take (o+i)++vs++EI.toList.drop (o+i+vs.length)).toArray):=by
 induction vs with
 |nil=>
  intro i EI w hg _ _ _;have e:(EI.toList.take (o+i)++[]++EI.toList.drop (o+i+([]:List Value).length)).toArray=EI:=by simp
  rw[e,setRow_self w g EI t fz hg];rfl
 |cons v rest ih=>
  intro i EI w hg hf hl h1;simp only[Am]at hl;have hi:o+i<EI.size:=by omega
  have ha:(⟨g,o,none⟩:Addr).add i=⟨g,o+i,none⟩:=Addr.add_lit ..;have hc:w.cell? ⟨g,o+i,none⟩=some EI[o+i]:=by simp[World.cell?,hg,hi]
  have hz:w.frozen? ⟨g,o+i,none⟩=false:=by
   rcases hf with rfl | hf
   .simp[World.frozen?,hg]
   .simp only[World.frozen?,hg,Mt,Hy];exact .inl ch
  have h2:(store ((⟨g,o,none⟩:Addr).add i) v).run P w=.ok () (w.setRow g (EI.setIfInBounds (o+i) v)):=by
   rw[ha,run_store P w _ v _ (h1 v (Ab ..)),hc];simp[hz,setCell_eq_setRow w g (o+i) EI t fz v hg]
  have h3:=ih (i+1) (EI.setIfInBounds (o+i) v) (w.setRow g (EI.setIfInBounds (o+i) v)) (setRow_heap w g EI _ t _ hg) (by rw[Array.size_setIfInBounds];exact hf) (by rw[Array.size_setIfInBounds];omega) fun x hx=>h1 x (Ah _ hx);have e:(EI.setIfInBounds (o+i) v).toList.take (o+(i+1))++rest++(EI.setIfInBounds (o+i) v).toList.drop (o+(i+1)+rest.length)=EI.toList.take (o+i)++v::rest++EI.toList.drop (o+i+(v::rest).length):=by
   simpa[Array.toList_setIfInBounds,Nat.add_assoc]using list_seg_step EI.toList (o+i) v rest (by rw[BT];show o+i+(rest.length+1)<=_;omega)
  rw[storeCells,Sem.run_bind,h2,Result.andThen_ok,h3,setRow_setRow,e]
section
variable {P:Program}{w0:World}{g0:Gh}{h0 h:Nat->HO}{g:Gh}{w:World}(hI:D2 w0 g0 h0 h g w)
include hI
omit hI in
theorem RT(t ty e:TypeId)(i:TypeInfo)(ht:P.underlying t=some (.slice e))(hi:P.info? e=some i)(g Pl d7:Nat)(EI:Array Value)(hg:w.heap[g]?=some (.cells EI E (0,0)))(a:Addr)(m c:Nat)(news:List Value)(hl:news.length=m*i.size)(JG:∀j u,news[j]?=some u->w.cell? (a.add j)=some u)(h1:∀u∈news,u.oneCell'=true)(KP:Pl+m<=d7)(dk:Pl*i.size+news.length<=EI.size) :
  (Builtin.append_ #[t,t] ty #[.slice (some ⟨g,0,none⟩) Pl d7,.slice (some a) m c]).run P w =
   .ok (.slice (some ⟨g,0,none⟩) (Pl+m) d7) (w.setRow g (EI.toList.take (Pl*i.size)++news++EI.toList.drop (Pl*i.size+news.length)).toArray):=by
 have hf:=run_firstCells_some (P:=P) w i.size m a m c news hl JG;have Kh:=run_storeCells_at P g (Pl*i.size) E news 0 EI w hg (by simpa using dk) h1;simp only[Ia]at Kh;simp[Builtin.append_,run_underlying ht,sizeOf,typeInfo,hi,Builtin.lenOf,KP,hf,Addr.add_lit,Kh]
omit hI in
theorem VJ(t ty e:TypeId)(i:TypeInfo)(ht:P.underlying t=some (.slice e))(hi:P.info? e=some i)(g off Pl d7:Nat)(EI:Array Value){fz:Nat×Nat}(hg:w.heap[g]?=some (.cells EI E fz))(hfz:fz=(0,0)\/EI.size<=fz.1)(a:Addr)(m c:Nat)(news:List Value)(hl:news.length=m*i.size)(JG:∀j u,news[j]?=some u->w.cell? (a.add j)=some u)(h1:∀u∈news,u.oneCell'=true)(KP:Pl+m<=d7)(dk:off+Pl*i.size+news.length<=EI.size) :
  (Builtin.append_ #[t,t] ty #[.slice (some ⟨g,off,none⟩) Pl d7,.slice (some a) m c]).run P w =
   .ok (.slice (some ⟨g,off,none⟩) (Pl+m) d7) (w.setRow g (EI.toList.take (off+Pl*i.size)++news++EI.toList.drop (off+Pl*i.size+news.length)).toArray):=by
 have hf:=run_firstCells_some (P:=P) w i.size m a m c news hl JG;have Kh:=kn P g (off+Pl*i.size) E fz news 0 EI w hg hfz (by simpa using dk) h1;simp only[Ia]at Kh;simp[Builtin.append_,run_underlying ht,sizeOf,typeInfo,hi,Builtin.lenOf,KP,hf,Addr.add_lit,Kh]
omit hI in
theorem rz{b off n m sz cap:Nat}{EI:Array Value}{fz:Nat×Nat}{news:List Value}(hb:w.heap[b]?=some (.cells EI E fz))(aI:EI.size=off+cap*sz)(hn:n<=cap)(hm:n+m<=cap)(hnl:news.length=m*sz)(hol:olds.length=n*sz)(Hf:∀j u,olds[j]?=some u->w.cell? ⟨b,off+j,none⟩=some u) :
  (EI.toList.take (off+n*sz)++news++EI.toList.drop (off+n*sz+news.length)).length=off+cap*sz /\
  ((EI.toList.take (off+n*sz)++news++EI.toList.drop (off+n*sz+news.length)).drop off).take ((n+m)*sz)=olds++news /\
  ∀o,o<off+n*sz->(EI.toList.take (off+n*sz)++news++EI.toList.drop (off+n*sz+news.length)).toArray[o]?=EI[o]?:=by
 have hcl:EI.toList.length=off+cap*sz:=by rw[BT];exact aI
 have U2:(n+m)*sz<=cap*sz:=Bh _ hm;have mB:n*sz<=cap*sz:=Bh _ hn;rw[FE]at U2;have LF:(EI.toList.take (off+n*sz)).drop off=olds:=by
  apply Du;intro j
  by_cases hj:j<n*sz
  .rw[DV,BS ch];have hx:olds[j]?=some olds[j]:=AB ch
   have:=Hf j _ hx
   rw[F3 hb]at this;rw[A5,this,hx]
  .rw[A9 (by rw[Di,Aw];omega),A9 ch]
 have uW:(EI.toList.take (off+n*sz)).length=off+n*sz:=by rw[Aw];omega
 refine⟨?_,?_,fun o ho=>?_⟩
 .rw[Ac,Ac,uW,Di,hcl,hnl];omega
 .rw[BB,List.drop_append_of_le_length (by rw[uW];omega),LF,<-BB,FX (by rw[Ac,hol,hnl,FE])]
 .rw[Gw,BB,A0 (by rw[uW];exact ho),BS ho,A5]
omit hI in
theorem od{b n m sz cap:Nat}{EI:Array Value}{news:List Value}(hb:w.heap[b]?=some (.cells EI E (0,0)))(aI:EI.size=cap*sz)(hn:n<=cap)(hm:n+m<=cap)(hnl:news.length=m*sz)(hol:olds.length=n*sz)(Hf:∀j u,olds[j]?=some u->w.cell? ⟨b,j,none⟩=some u) :
  (EI.toList.take (n*sz)++news++EI.toList.drop (n*sz+news.length)).length=cap*sz /\
  (EI.toList.take (n*sz)++news++EI.toList.drop (n*sz+news.length)).take ((n+m)*sz)=olds++news /\
  ∀o,o<n*sz->(EI.toList.take (n*sz)++news++EI.toList.drop (n*sz+news.length)).toArray[o]?=EI[o]?:=by
 have hcl:EI.toList.length=cap*sz:=by rw[BT];exact aI
 have U2:(n+m)*sz<=cap*sz:=Bh _ hm;have mB:n*sz<=cap*sz:=Bh _ hn;rw[FE]at U2;have LF:EI.toList.take (n*sz)=olds:=by
  apply Du;intro j
  by_cases hj:j<n*sz
  .rw[BS hj];have hx:olds[j]?=some olds[j]:=AB ch
   have:=Hf j _ hx
   rw[F3 hb]at this;rw[A5,this,hx]
  .rw[A9 (by rw[Aw];omega),A9 ch]
 have uW:(EI.toList.take (n*sz)).length=n*sz:=by rw[Aw];omega
 refine⟨?_,?_,fun o ho=>?_⟩
 .rw[Ac,Ac,uW,Di,hcl,hnl];omega
 .rw[LF,FX (by rw[Ac,hol,hnl,FE])]
 .rw[Gw,BB,A0 (by rw[uW];exact ho),BS ho,A5]
theorem WS{r n sz:Nat}{es:List (List AV)}{x:Value}(he:h r=.arr sz es)(hx:BO g w (AS h) (.msl r n) x)(hn:n=es.length) :
  x=g.ρ r/\∃news,PE w x es.length sz news/\CU g w Fx es.flatten news:=by
 have ho:=hI.objs r;rw[he]at ho;obtain⟨t1,l1,al,a1⟩:=ho;cases hx with
 |msl _ _ _ a cap hu ht aP ha MM=>
  have e:=MM (hn.trans l1.symm);refine⟨e,?_⟩;rw[e];rcases a1 with ⟨rfl,e2,e3⟩ | ⟨b,L6,E,vs,e1,e2,e3,e4,e5,e6,e7⟩
  .exact⟨[],⟨by simp,by simp,none,0,e2,.inl rfl⟩,by simp,by simp,fun i av x h1 h2=>by simp at h2⟩
  .have aI:vs.toList.length=L6*sz:=by rw[BT];exact e5
   have Ib:es.length*sz<=vs.toList.length:=by rw[aI];exact Bh _ e3
   refine⟨vs.toList.take (es.length*sz),⟨by rw[Aw,WJ Ib],e6.2.1,_,_,e1,.inr ⟨_,rfl,fun j u hj=>?_⟩⟩,e6⟩;rw[Addr.add_lit,Bf,F3 e4];have DE:=(Ay.1 hj).1;rw[Aw]at DE;rw[BS ch,A5]at hj;exact hj
theorem iP{sz:Nat}{K:List (List AV)->Prop}(hx:BO g w (AS h) x vx)(hk:Md h x K) :
  ∃es,K es/\((∀c∈es,c.length=sz)->∃news,PE w vx es.length sz news/\CU g w Fx es.flatten news):=by
 unfold Md at hk;split at hk
 .exact⟨_,hk,fun hl=>PE.of_rep hx.slice_none hl⟩
 .obtain rfl:=hx.v_eq;exact⟨[],hk,fun _=>⟨[],⟨by simp,by simp,none,0,rfl,.inl rfl⟩,by simp,by simp,fun i av x h1 h2=>by simp at h2⟩⟩
 .rename_i r n;split at hk
  .rename_i G3 es e;obtain⟨hn,hk⟩:=hk;refine⟨es,hk,fun hl=>?_⟩;obtain⟨_,news,n1,n2⟩:=WS hI e hx hn;refine⟨news,?_,n2⟩
   have:news.length=es.length*sz:=by rw[n2.1,Dx hl]
   exact⟨this,n1.2.1,n1.2.2⟩
  .exact hk.elim
 .exact hk.elim
theorem jB{d:Option Nat}{sz:Nat}(hk:E0 cx d h sz [] K) :
  ∃g' av h',K av h'/\D2 w0 g0 h0 h' g' w/\Le h g w h' g' w/\BO g' w (AS h') av (.slice none 0 0):=by
 have base:∀(d:Nat) (o' : HO),h d=.free->o'≠.free->(∀g' : Gh,g'.ρ d=.slice none 0 0->g'.ln d=0->g'.tk d=true->g'.own d=none->Ew g' w (AS (A2 h d o')) d o') ->
   D2 w0 g0 h0 (A2 h d o') (g.upd d (.slice none 0 0) 0 true none g.S) w/\Le h g w (A2 h d o') (g.upd d (.slice none 0 0) 0 true none g.S) w:=by
  intro d o' hd DD Kg;refine hI.upd d o' _ _ _ _ _ w none ⟨rfl,rfl,rfl,Ak _⟩ (fun _ _ _=>rfl) (fun b e=>by cases e) (fun _ _ h=>h) (fun _ _ h=>.inl h) (fun b o e=>by cases e) (fun b _ e=>by cases e) DD (fun hu=>absurd hd hu) (fun _ _=>?_);obtain⟨u1,u2,u3,u4⟩:=BI g d (.slice none 0 0) 0 true none g.S;exact Kg _ u1 u2 u3 u4
 unfold E0 at hk;split at hk
 .exact hk.elim
 .rename_i d;generalize KC cx d=d1 at hk;split at hk
  .rename_i hd;split at hk
   .obtain⟨k1,k2⟩:=base d1 (.arr sz []) hd B0 (fun g' u1 u2 u3 u4=>⟨u3,u2,by simp,.inl ⟨rfl,u1,u4⟩⟩);exact⟨_,_,_,hk,k1,k2,.msl _ d1 0 none 0 (by unfold AS;rw[Bl];simp) (by simp[Gh.upd]) (AA _) (.inl rfl) (fun _=>by simp[Gh.upd])⟩
   .obtain⟨k1,k2⟩:=base d1 (.tok sz 0) hd B0 (fun g' u1 u2 u3 u4=>⟨u3,u2,none,0,u1,.inl ⟨rfl,u4⟩⟩);exact⟨_,_,_,hk,k1,k2,.tok _ d1 sz [] _ (.snil _ _ _) B0 (by unfold AS;rw[Bl];simp) (by simp[Gh.upd]) (AA _) (fun _=>by simp[Gh.upd])⟩
  .exact hk.elim
theorem cC(hT:CK P cx.T){d:Option Nat}{t ty:Nat}{s:AV}{vs:Value}(hs:BO g w (AS h) s vs)(hx:BO g w (AS h) x vx)(hk:I3 cx d h t s x K) :
  OI P w0 g0 h0 h g w (Builtin.append_ #[t,t] ty #[vs,vx]) K:=by
 unfold I3 at hk;split at hk
 .rename_i e ht;split at hk
  .exact hk.elim
  .rename_i hz;have hz:=AM hz;split at hk
   .exact hk.elim
   .rename_i k ET;have h5:=iP hI (sz:=(cx.T e).size) hx hk
    clear hk
    obtain⟨es2,hk,h6⟩:=h5;split at hk
    .obtain⟨⟨q1,q2,q3⟩,hk⟩:=hk;obtain rfl:=hs.v_eq;obtain⟨news,n1,n2⟩:=h6 (Gg q1);obtain⟨m1,m2,a,c,rfl,m4⟩:=n1
     by_cases hm:es2.length=0
     .obtain rfl:=AQ hm;obtain⟨g',av,h',k1,k2,k3,k4⟩:=jB hI hk;exact⟨_,w,g',av,h',Jz hT w ht ET none a 0 0 c (Ak _),k1,k2,k3,k4⟩
     .obtain⟨nc,rest,r1,r2,r3⟩:=ID hT w (ty:=ty) ht ET hz (olds:=[]) (a:=none) (n:=0) (cap:=0) ⟨by simp,by simp,none,0,rfl,.inl rfl⟩ rfl (fun _=>rfl) ⟨m1,m2,a,c,rfl,m4⟩ rfl ch ch (by rw[Bf];exact q2) ch;obtain⟨g',av,h',k1,k2,k3,k4⟩:=KR hI hk (vs:=([]++news++rest).toArray) (cap:=nc) e (Gg q1) ch (by simpa using r3) (by
       rw[FW,show(news++rest).toArray.toList=news++rest from rfl,FX m1];exact n2) w.drew ⟨rfl,rfl,rfl,rfl⟩
      rw[Bf]at r1;exact⟨_,_,g',av,h',r1,k1,k2,k3,k4⟩
    .rename_i G3 es;split at hk
     .rename_i SG;obtain SG:=AM SG;obtain⟨⟨q1,q2,q3,q4⟩,hk⟩:=hk;obtain⟨news,n1,n2⟩:=h6 (Gg q1);obtain⟨m1,m2,a2,c2,rfl,m4⟩:=n1;cases hs with
      |full _ _ _ _ hr Zw MM=>
       obtain⟨a,rfl⟩:=MM;have GE:∀c∈es++es2,c.length=(cx.T e).size:=fun c hc=>(AP.1 hc).elim (fun h=>(Zw c h).trans SG) (Gg q1 c);obtain⟨olds,o1,o2⟩:=PE.of_rep hr (sz:=(cx.T e).size) (fun c hc=>(Zw c hc).trans SG);have hrl:=o2.app n2;rw[<-Ci]at hrl;have ha:a=none->es.length=0:=by
        rintro rfl
        obtain⟨p1,p2,a',c',p3,p4⟩:=o1;cases p3;rcases p4 with h | ⟨b',h,_⟩
        .exact h
        .cases h
       obtain⟨nc,rest,r1,r2,r3⟩:=ID hT w (ty:=ty) ht ET hz o1 rfl ha ⟨m1,m2,a2,c2,rfl,m4⟩ rfl q2 ch q3 q4;obtain⟨g',av,h',k1,k2,k3,k4⟩:=KR hI hk (vs:=(olds++news++rest).toArray) (cap:=nc) e GE (by rw[Ac];exact r2) (by rw[D8];exact r3) (by
        rw[show(olds++news++rest).toArray.toList=olds++news++rest from rfl,FX (by rw[Ac,Ac,o1.1,m1,FE])];exact hrl) w.drew ⟨rfl,rfl,rfl,rfl⟩
       rw[Ac]at k4;exact⟨_,_,g',av,h',r1,k1,k2,k3,k4⟩
     .exact hk.elim
    .rename_i r G3 es;have ho:=hI.objs r;split at hk
     .rename_i sz n e0;rw[e0]at ho;split at hk
      .rename_i SG Adc;obtain rfl:=AM Adc;obtain SG:=AM SG;obtain⟨⟨q1,q2,q3,q4⟩,hk⟩:=hk;rw[SG]at q1;obtain⟨news,n1,n2⟩:=h6 (Gg q1);obtain⟨m1,m2,a2,c2,rfl,m4⟩:=n1;obtain⟨t1,l1,a,cap,a1,a3⟩:=ho;have hl:(h r).live:=by rw[e0];trivial
       have GE:∀c∈es++es2,es.length=n->True:=fun _ _ _=>trivial;cases hs with
       |tok _ _ _ _ _ hr Zw hu ht' hn MM=>
        have hv:=MM (q2.trans l1.symm);rw[a1]at hv;subst hv;subst q2;have GE:∀c∈es++es2,c.length=G3:=fun c hc=>(AP.1 hc).elim (Zw c) (fun h=>(Gg q1 c h).trans SG.symm);obtain⟨olds,o1,o2⟩:=PE.of_rep hr Zw;have hrl:=o2.app n2;rw[<-Ci]at hrl;have fO:es.length<=cap:=by rcases a3 with ⟨e1,_⟩ | ⟨e1,_⟩<;>omega
        by_cases hm:es2.length=0
        .obtain rfl:=AQ hm;have Kg:=hI.objs r;rw[e0]at Kg
         obtain⟨k1,k2⟩:=hI.upd r (.tok G3 (es.length+([]:List (List AV)).length)) (g.ρ r) (g.ln r) (g.tk r) (g.own r) g.S w none ⟨rfl,rfl,rfl,Ak _⟩ (fun _ _ _=>rfl) (fun b e=>by cases e) (fun _ _ h=>h) (fun _ _ h=>.inl h) (fun b o e=>by cases e)
          (fun b _ e=>⟨(hI.loc r b hl e).1,.inl ⟨hl,e⟩⟩) B0 (fun _=>⟨rfl,Ak _,fun _=>rfl,fun _=>rfl⟩) (fun hg IJ=>by
           obtain⟨u1,u2,u3,u4⟩:=BI g r (g.ρ r) (g.ln r) (g.tk r) (g.own r) g.S;rw[Au,Ia];exact Kg.same IJ (fun i hi=>D7 B0 i hi) hg u1 u2 u3 u4 (fun b _ _=>⟨rfl,fun _ h=>h⟩))
         refine⟨_,w,_,_,_,Jz hT w ht ET a a2 es.length cap c2 fO,hk,k1,k2,?_⟩;rw[BM];exact(BO.tok (AS h) r G3 es _ hr Zw hu ht' hn MM).le k2
        .by_cases KP:es.length+es2.length<=cap
         .rcases a3 with ⟨e1,_⟩ | ⟨e1,b,E,EI,off,rfl,e3,⟨fz,e4,efz⟩,e5,e6⟩
          .omega
          .rcases m4 with h | ⟨ba,rfl,JG⟩
           .omega
           .obtain⟨i,z,i1,i2,i3,i4,i5⟩:=Ij hT ET;have U2:(es.length+es2.length)*G3<=cap*G3:=Bh _ KP;have uM:news.length=es2.length*G3:=by rw[SG];exact m1
            have dp:i.size=G3:=i3.trans SG.symm;have CV:=VJ (P:=P) t ty e i (hT.slice ht) i1 b off es.length cap EI e4 efz ba es2.length c2 news (by rw[dp];exact uM) JG m2 KP (by rw[dp,uM,e5];rw[FE]at U2;omega);rw[dp]at CV;have Hf:∀j u,olds[j]?=some u->w.cell? ⟨b,off+j,none⟩=some u:=by
             obtain⟨p1,p2,a',c',p3,p4⟩:=o1;cases p3;intro j u hj;rcases p4 with h | ⟨b',h,h'⟩
             .rw[h,Lw]at p1;rw[AQ p1]at hj;simp at hj
             .cases h
              have:=h' j u hj
              rwa [Addr.add_lit]at this
            obtain⟨p1,p2,p3⟩:=rz e4 e5 e1 KP uM o1.1 Hf;generalize hnewd:EI.toList.take (off+es.length*G3)++news++EI.toList.drop (off+es.length*G3+news.length)=new at CV p1 p2 p3;have ES:=setRow_heap w b EI new.toArray E fz e4;have ja:=(hI.loc r b hl e3).1
            obtain⟨k1,k2⟩:=hI.upd r (.tok G3 (es.length+es2.length)) (.slice (some ⟨b,off,none⟩) (es.length+es2.length) cap) (es.length+es2.length) (g.tk r) (g.own r) (g.more b (off+(es.length+es2.length)*G3)) (w.setRow b new.toArray) (some b)
             ⟨rfl,rfl,rfl,by rw[size_setRow];exact Ak _⟩ (fun k _ DD=>setRow_other w b k _ (fun e=>DD (by rw[e]))) (fun b' e=>by cases e;exact⟨hl,e3⟩) (fun _ _ h=>.inl h)
             (fun b' o hs=>hs.elim .inl (fun hs=>.inr ⟨by rw[size_setRow,hs.1];exact ja,.inr ⟨hl,by rw[hs.1];exact e3⟩⟩))
             (fun b' o e hs=>by
              cases e
              refine⟨?_,fun es ck he=>by rw[e4]at he;cases he⟩;rw[F3 ES,F3 e4];exact p3 o (e6 o hs)) (fun b' _ e=>by
              rw[e3]at e;cases e;exact⟨by rw[size_setRow];exact ja,.inl ⟨hl,e3⟩⟩) B0 (fun _=>⟨rfl,by omega,fun e=>(by rw[t1]at e;cases e),fun e=>by omega⟩) (fun hg IJ=>by
              obtain⟨u1,u2,u3,u4⟩:=BI g r (.slice (some ⟨b,off,none⟩) (es.length+es2.length) cap) (es.length+es2.length) (g.tk r) (g.own r) (g.more b (off+(es.length+es2.length)*G3));exact⟨u3.trans t1,u2,_,cap,u1,  .inr ⟨KP,b,E,_,off,rfl,u4.trans e3,⟨fz,ES,efz.imp id fun h=>by rw[D8,p1,<-e5];exact h⟩,by rw[D8];exact p1,fun o ho=>by
               rcases ho with ho | ⟨_,ho⟩
               .have h1:=e6 o ho;have h2:es.length*G3<=(es.length+es2.length)*G3:=Bh _ ch;omega
               .exact ho⟩⟩)
            have Ez:=BO.slice_off (g:=g.upd r (.slice (some ⟨b,off,none⟩) (es.length+es2.length) cap) (es.length+es2.length) (g.tk r) (g.own r) (g.more b (off+(es.length+es2.length)*G3))) (U:=AS (A2 h r (.tok G3 (es.length+es2.length)))) (cap:=cap) (es:=es++es2) ES GE (by rw[Ac];exact KP) (by
             rw[Ac,show new.toArray.toList=new from rfl,p2];exact hrl.mono k2.keeps (fun _ h=>h) (fun _ h=>h.elim)) (fun o ho=>.inr ⟨rfl,by rw[Ac]at ho;exact Nat.add_lt_add_left ho off⟩)
            rw[Ac]at Ez;exact⟨_,_,_,_,_,CV,hk,k1,k2,.tok _ r G3 _ _ Ez GE (by unfold AS;rw[Bl];simp) (by simp[Gh.upd,t1]) (by simp[Gh.upd]) (fun _=>by simp[Gh.upd])⟩
         .have mz:cap<es.length+es2.length:=by omega
          have ha:a=none->cap=0:=by
           rintro rfl
           rcases a3 with ⟨e1,_⟩ | ⟨_,b,_,_,_,e2,_⟩
           .obtain⟨p1,p2,a',c',p3,p4⟩:=o1;cases p3;rcases p4 with h | ⟨b',h,_⟩
            .omega
            .cases h
           .cases e2
          obtain⟨nc,rest,r1,r2,r3⟩:=ID hT w (ty:=ty) ht ET hz (by rw[<-SG];exact o1) rfl ha ⟨m1,m2,a2,c2,rfl,m4⟩ rfl ch mz q3 q4;have ES:=GT w.drew (.cells (olds++news++rest).toArray e (0,0)) (b:=w.heap.size) rfl
          obtain⟨k1,k2⟩:=hI.upd r (.tok G3 (es.length+es2.length)) (.slice (some ⟨w.heap.size,0,none⟩) (es.length+es2.length) nc) (es.length+es2.length) (g.tk r) (some w.heap.size) (g.more w.heap.size ((es.length+es2.length)*G3))
           (w.drew.alloc (.cells (olds++news++rest).toArray e (0,0))) none
           ⟨rfl,rfl,rfl,by rw[World.size_alloc];exact Nat.le_succ _⟩ (fun k hk' _=>by rw[heap_alloc_old _ _ (by exact hk')];rfl) (fun b' e=>by cases e) (fun _ _ h=>.inl h)
           (fun b' o hs=>hs.elim .inl (fun hs=>.inr ⟨by rw[World.size_alloc,hs.1];exact Gj _,.inl (by rw[hs.1];exact Ak _)⟩))
           (fun b' o e=>by cases e) (fun b' _ e=>by cases e;exact⟨by rw[World.size_alloc];exact Gj _,.inr (Ak _)⟩) B0 (fun _=>⟨rfl,by omega,fun e=>(by rw[t1]at e;cases e),fun e=>by omega⟩) (fun hg IJ=>by
            obtain⟨u1,u2,u3,u4⟩:=BI g r (.slice (some ⟨w.heap.size,0,none⟩) (es.length+es2.length) nc) (es.length+es2.length) (g.tk r) (some w.heap.size) (g.more w.heap.size ((es.length+es2.length)*G3));exact⟨u3.trans t1,u2,_,nc,u1,.inr ⟨r2,w.heap.size,e,_,0,rfl,u4,.of ES,by rw[D8,SG,Bf];exact r3,fun o ho=>by
             rcases ho with ho | ⟨_,ho⟩
             .have:=hI.slt _ _ ho;omega
             .omega⟩⟩)
          have Ez:=BO.slice_row (g:=g.upd r (.slice (some ⟨w.heap.size,0,none⟩) (es.length+es2.length) nc) (es.length+es2.length) (g.tk r) (some w.heap.size) (g.more w.heap.size ((es.length+es2.length)*G3))) (U:=AS (A2 h r (.tok G3 (es.length+es2.length)))) (cap:=nc) (es:=es++es2) ES GE (by rw[Ac];exact r2) (by
           rw[Ac,show(olds++news++rest).toArray.toList=olds++news++rest from rfl,FX (by rw[Ac,o1.1,m1,SG,FE])];exact hrl.mono k2.keeps (fun _ h=>h) (fun _ h=>h.elim)) (fun o ho=>.inr ⟨rfl,by rw[Ac]at ho;exact ho⟩)
          rw[Ac]at Ez;exact⟨_,_,_,_,_,r1,hk,k1,k2,.tok _ r G3 _ _ Ez GE (by unfold AS;rw[Bl];simp) (by simp[Gh.upd,t1]) (by simp[Gh.upd]) (fun _=>by simp[Gh.upd])⟩
      .exact hk.elim
     .exact hk.elim
    .rename_i r n;have ho:=hI.objs r;split at hk
     .rename_i sz es e0;split at hk
      .rename_i SG;obtain SG:=AM SG;obtain⟨⟨q1,q2,q3,q4⟩,hk⟩:=hk;rw[SG]at q1;obtain⟨news,n1,n2⟩:=h6 (Gg q1);obtain⟨m1,m2,a2,c2,rfl,m4⟩:=n1;obtain⟨hv,olds,o1,o2⟩:=WS hI e0 hs q2.symm;have Kg:=ho;rw[e0]at ho;obtain⟨t1,l1,al,a3⟩:=ho;have hl:(h r).live:=by rw[e0];trivial
       subst hv;have GE:∀c∈es++es2,c.length=sz:=fun c hc=>(AP.1 hc).elim (al c) (fun h=>(Gg q1 c h).trans SG.symm);have hrl:=o2.app n2;rw[<-Ci]at hrl;obtain⟨a,cap,hρ,fO,ha⟩:∃a cap,g.ρ r=.slice a es.length cap/\es.length<=cap/\(a=none->cap=0):=by
        rcases a3 with ⟨rfl,e2,e3⟩ | ⟨b,cap,E,EI,e1,e2,e3,e4,e5,e6,e7⟩
        .exact⟨none,0,e2,Ak _,fun _=>rfl⟩
        .exact⟨_,cap,e1,e3,fun e=>by cases e⟩
       by_cases hm:es2.length=0
       .obtain rfl:=AQ hm;rw[e0]at Kg
        obtain⟨k1,k2⟩:=hI.upd r (.arr sz (es++[])) (g.ρ r) (g.ln r) (g.tk r) (g.own r) g.S w none ⟨rfl,rfl,rfl,Ak _⟩ (fun _ _ _=>rfl) (fun b e=>by cases e) (fun _ _ h=>h) (fun _ _ h=>.inl h) (fun b o e=>by cases e)
         (fun b _ e=>⟨(hI.loc r b hl e).1,.inl ⟨hl,e⟩⟩) B0 (fun _=>⟨rfl,Ak _,fun _=>rfl,fun _=>rfl⟩) (fun hg IJ=>by
          obtain⟨u1,u2,u3,u4⟩:=BI g r (g.ρ r) (g.ln r) (g.tk r) (g.own r) g.S;rw[BM];exact Kg.same IJ (fun i hi=>D7 B0 i hi) hg u1 u2 u3 u4 (fun b _ _=>⟨rfl,fun _ h=>h⟩))
        refine⟨g.ρ r,w,_,_,_,?_,hk,k1,k2,?_⟩
        .rw[hρ];exact Jz hT w ht ET a a2 es.length cap c2 fO
        .have:=hs.le k2
         rw[<-q2]at this;exact this
       .by_cases KP:es.length+es2.length<=cap
        .rcases a3 with ⟨rfl,e2,e3⟩ | ⟨b,L6,E,EI,e1,e2,e3,e4,e5,e6,e7⟩
         .rw[e2]at hρ;cases hρ;omega
         .rw[e1]at hρ;simp only[Value.slice.injEq,true_and]at hρ;obtain⟨rfl,rfl⟩:=hρ;rcases m4 with h | ⟨ba,rfl,JG⟩
          .omega
          .obtain⟨i,z,i1,i2,i3,i4,i5⟩:=Ij hT ET;have U2:(es.length+es2.length)*sz<=L6*sz:=Bh _ KP;have uM:news.length=es2.length*sz:=by rw[SG];exact m1
           have dp:i.size=sz:=i3.trans SG.symm;have CV:=RT (P:=P) t ty e i (hT.slice ht) i1 b es.length L6 EI e4 ba es2.length c2 news (by rw[dp];exact uM) JG m2 KP (by rw[dp,uM,<-FE,e5];exact U2);rw[dp]at CV;have Hf:∀j u,olds[j]?=some u->w.cell? ⟨b,j,none⟩=some u:=by
            obtain⟨p1,p2,a',c',p3,p4⟩:=o1;rw[e1]at p3;cases p3;intro j u hj;rcases p4 with h | ⟨b',h,h'⟩
            .rw[h,Lw]at p1;rw[AQ p1]at hj;simp at hj
            .cases h
             have:=h' j u hj
             rwa [Addr.add_lit,Bf]at this
           obtain⟨p1,p2,p3⟩:=od e4 e5 e3 KP uM o1.1 Hf;generalize hnewd:EI.toList.take (es.length*sz)++news++EI.toList.drop (es.length*sz+news.length)=new at CV p1 p2 p3;have ES:=setRow_heap w b EI new.toArray E (0,0) e4;have ja:=(hI.loc r b hl e2).1
           obtain⟨k1,k2⟩:=hI.upd r (.arr sz (es++es2)) (.slice (some ⟨b,0,none⟩) (es.length+es2.length) L6) (es.length+es2.length) (g.tk r) (g.own r) g.S (w.setRow b new.toArray) (some b)
            ⟨rfl,rfl,rfl,by rw[size_setRow];exact Ak _⟩ (fun k _ DD=>setRow_other w b k _ (fun e=>DD (by rw[e]))) (fun b' e=>by cases e;exact⟨hl,e2⟩) (fun _ _ h=>h) (fun _ _ h=>.inl h)
            (fun b' o e hs=>by cases e;exact absurd hs (e7 o)) (fun b' _ e=>by
             rw[e2]at e;cases e;exact⟨by rw[size_setRow];exact ja,.inl ⟨hl,e2⟩⟩) B0 (fun _=>⟨rfl,by omega,fun e=>(by rw[t1]at e;cases e),fun e=>by omega⟩) (fun hg IJ=>by
             obtain⟨u1,u2,u3,u4⟩:=BI g r (.slice (some ⟨b,0,none⟩) (es.length+es2.length) L6) (es.length+es2.length) (g.tk r) (g.own r) g.S;refine⟨u3.trans t1,by rw[u2,Ac],GE,.inr ⟨b,L6,E,_,by rw[u1,Ac],u4.trans e2,by rw[Ac];exact KP,ES,by rw[D8];exact p1,?_,e7⟩⟩;rw[Ac,show new.toArray.toList=new from rfl,p2];exact hrl.mono IJ (fun _ h=>h) (fun _ h=>h.elim))
           rw[e1];exact⟨_,_,_,_,_,CV,hk,k1,k2,.msl _ r _ _ _ (by unfold AS;rw[Bl];simp) (by simp[Gh.upd,t1]) (by simp[Gh.upd]) (.inr ⟨_,rfl⟩) (fun _=>by simp[Gh.upd])⟩
        .have mz:cap<es.length+es2.length:=by omega
         obtain⟨nc,rest,r1,r2,r3⟩:=ID hT w (ty:=ty) ht ET hz (by rw[<-SG];exact o1) hρ ha ⟨m1,m2,a2,c2,rfl,m4⟩ rfl ch mz q3 q4;have ES:=GT w.drew (.cells (olds++news++rest).toArray e (0,0)) (b:=w.heap.size) rfl
         obtain⟨k1,k2⟩:=hI.upd r (.arr sz (es++es2)) (.slice (some ⟨w.heap.size,0,none⟩) (es.length+es2.length) nc) (es.length+es2.length) (g.tk r) (some w.heap.size) g.S
          (w.drew.alloc (.cells (olds++news++rest).toArray e (0,0))) none
          ⟨rfl,rfl,rfl,by rw[World.size_alloc];exact Nat.le_succ _⟩ (fun k hk' _=>by rw[heap_alloc_old _ _ (by exact hk')];rfl) (fun b' e=>by cases e) (fun _ _ h=>h) (fun _ _ h=>.inl h)
          (fun b' o e=>by cases e) (fun b' _ e=>by cases e;exact⟨by rw[World.size_alloc];exact Gj _,.inr (Ak _)⟩) B0 (fun _=>⟨rfl,by omega,fun e=>(by rw[t1]at e;cases e),fun e=>by omega⟩) (fun hg IJ=>by
           obtain⟨u1,u2,u3,u4⟩:=BI g r (.slice (some ⟨w.heap.size,0,none⟩) (es.length+es2.length) nc) (es.length+es2.length) (g.tk r) (some w.heap.size) g.S;refine⟨u3.trans t1,by rw[u2,Ac],GE,.inr ⟨w.heap.size,nc,e,_,by rw[u1,Ac],u4,by rw[Ac];exact r2,ES,by rw[D8,SG];exact r3,?_,fun o ho=>by have:=hI.slt _ _ ho;omega⟩⟩;rw[Ac,show(olds++news++rest).toArray.toList=olds++news++rest from rfl,FX (by rw[Ac,o1.1,m1,SG,FE])];exact hrl.mono IJ (fun _ h=>h) (fun _ h=>h.elim))
         exact⟨_,_,_,_,_,r1,hk,k1,k2,.msl _ r _ _ _ (by unfold AS;rw[Bl];simp) (by simp[Gh.upd,t1]) (by simp[Gh.upd]) (.inr ⟨_,rfl⟩) (fun _=>by simp[Gh.upd])⟩
      .exact hk.elim
     .exact hk.elim
    .exact hk.elim
 .exact hk.elim
theorem iL(hT:CK P cx.T){d:Option Nat}{s t:Nat}(hx:BO g w (AS h) x vx)(hk:cR cx d h s t x K):OI P w0 g0 h0 h g w (convert s t vx) K:=by
 unfold cR at hk;split at hk
 .rename_i e b hs ht;split at hk
  .rename_i d he;generalize KC cx d=d1 at hk;split at hk
   .rename_i hd;obtain rfl:=hx.v_eq;have CV:=run_bytes_of_string (P:=P) w s t e b (hT.string hs) (hT.slice ht) (hT.int he);have Mh:b.size<=grownCap w b.size 0 e:=grownCap_ge w b.size 0 e;generalize grownCap w b.size 0 e=cap at CV Mh;have CP:(L3 b).length=b.size:=by
     show(b.data.toList.map _).length=b.size;rw[Bb,BT];rfl
    have hbl:b.data.toList.length=b.size:=by rw[BT];rfl
    have dw:(bytesRow b cap).size=cap:=by
     show(b.data.map _++Array.replicate _ _).size=cap;rw[Array.size_append,Array.size_map,Array.size_replicate];show b.size+_=cap;omega
    have yY:(bytesRow b cap).toList.take ((L3 b).length*1)=b.data.toList.map fun c=>Value.int .u8 c.toNat:=by
     show(b.data.map _++Array.replicate _ _).toList.take _=_;rw[Array.toList_append,Array.toList_map,CP,Nat.mul_one,FX (by rw[Bb,hbl])]
    have hfl:(L3 b).flatten=(b.data.toList.map fun c=>Value.int .u8 c.toNat).map AV.v:=by
     rw[Br]
     have:∀l:List UInt8,(l.map fun c=>[AV.v (.int .u8 c.toNat)]).flatten=l.map (AV.v ∘ fun c=>Value.int .u8 c.toNat):=fun l=>by
      induction l with
      |nil=>rfl
      |cons c l ih=>rw[AL,BC,ih];rfl
     exact this _
    have Qr:∀l:List UInt8,Hh ((l.map fun c=>Value.int .u8 c.toNat).map AV.v)=true:=fun l=>by
     induction l with
     |nil=>rfl
     |cons c l ih=>exact ih
    have hr:CU g w Fx (L3 b).flatten ((bytesRow b cap).toList.take ((L3 b).length*1)):=by
     rw[yY,hfl];exact CU.vals (Qr _)
    have hl:∀cs∈L3 b,cs.length=1:=fun cs hc=>by obtain⟨c,_,rfl⟩:=Ai.1 hc;rfl
    generalize bytesRow b cap=vs at CV dw hr;rw[<-CP]at CV Mh;generalize L3 b=es at *
    have ES:(w.drew.alloc (.cells vs e (vs.size,vs.size+1))).heap[w.heap.size]?=some (.cells vs e (vs.size,vs.size+1)):=GT w.drew _ rfl
    have sJ:=hI.upd d1 (.tok 1 es.length) (.slice (some ⟨w.heap.size,0,none⟩) es.length cap) es.length true (some w.heap.size) (g.more w.heap.size (es.length*1)) (w.drew.alloc (.cells vs e (vs.size,vs.size+1))) none
     ⟨rfl,rfl,rfl,by rw[World.size_alloc];exact Nat.le_succ _⟩ (fun k hk' _=>by rw[heap_alloc_old _ _ (by exact hk')];rfl) (fun b e=>by cases e) (fun _ _ h=>.inl h)
     (fun b o hb=>by
      rcases hb with hb | ⟨rfl,_⟩
      .exact .inl hb
      .exact .inr ⟨by rw[World.size_alloc];exact Gj _,.inl (Ak _)⟩) (fun b o e=>by cases e)
     (fun b _ e=>by cases e;rw[World.size_alloc];exact⟨Gj _,.inr (Ak _)⟩) B0 (fun hu=>absurd hd hu) (fun hg IJ=>by
      obtain⟨u1,u2,u3,u4⟩:=BI g d1 (.slice (some ⟨w.heap.size,0,none⟩) es.length cap) es.length true (some w.heap.size) (g.more w.heap.size (es.length*1));exact⟨u3,u2,_,cap,u1,.inr ⟨Mh,w.heap.size,e,vs,0,rfl,u4,⟨_,ES,.inr (Ak _)⟩,by rw[dw,Bf,Nat.mul_one],fun o ho=>by
       rcases ho with ho | ⟨_,ho⟩
       .have:=hI.slt _ _ ho;omega
       .omega⟩⟩)
    obtain⟨k1,k2⟩:=sJ;refine⟨_,_,_,_,_,CV,hk,k1,k2,.tok _ d1 1 es _ (BO.slice_row ES hl Mh (hr.mono k2.keeps (fun _ h=>h) (fun _ h=>h.elim)) (fun o ho=>.inr ⟨rfl,ho⟩)) hl (by unfold AS;rw[Bl];simp) ?_ ?_ ?_⟩<;>simp[Gh.upd]
   .exact hk.elim
  .exact hk.elim
 .exact BQ.does hI (ZX hT hx hk)
end
end Go.Eng
