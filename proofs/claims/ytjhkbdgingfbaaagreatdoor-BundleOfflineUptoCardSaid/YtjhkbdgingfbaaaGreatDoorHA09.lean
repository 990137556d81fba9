/- Lemmas 9. -/
import Derived.Test.YtjhkbdgingfbaaaGreatDoorHA08
import Derived.Laws.IdiomStrings
namespace Go.Eng
variable {E:TypeId}{olds:List Value}{vx:Value}{x:AV}{cx:Cx}{K:HK}
theorem CJ.app{g:Gh}{w:World}{U:Nat->Prop}{VD bs:List AV}{xs ys:List Value}(h:CJ g w U VD xs)(k:CJ g w U bs ys):CJ g w U (VD++bs) (xs++ys):=by
 refine⟨by simp[h.1,k.1],fun x hx=>(AT.1 hx).elim (h.2.1 x) (k.2.1 x),fun i av x h1 h2=>?_⟩
 by_cases hi:i<VD.length
 .rw[AU hi]at h1;rw[AU (by rw[h.1];exact hi)]at h2;exact h.2.2 i av x h1 h2
 .rw[A0 ch]at h1;rw[A0 (by rw[h.1];omega),h.1]at h2;exact k.2.2 _ av x h1 h2
theorem jU(P:Program)(g o:Nat)(t:TypeId)(fz:Nat×Nat)(vs:List Value):∀(i:Nat) (Db:Array Value) (w:World),w.heap[g]?=some (.cells Db t fz)->(fz=(0,0)\/Db.size<=fz.1)->o+i+vs.length<=Db.size->(∀v∈vs,v.oneCell'=true) ->
  (storeCells ⟨g,o,none⟩ vs i).run P w=.ok () (w.setRow g (Db.toList.take (o+i)++vs++Db.toList.drop (o+i+vs.length)).toArray):=by
 induction vs with
 |nil=>
  intro i Db w hg _ _ _;have e:(Db.toList.take (o+i)++[]++Db.toList.drop (o+i+([]:List Value).length)).toArray=Db:=by simp
  rw[e,setRow_self w g Db t fz hg];rfl
 |cons v rest ih=>
  intro i Db w hg hf hl h1;simp only[Al]at hl;have hi:o+i<Db.size:=by omega
  have ha:(⟨g,o,none⟩:Addr).add i=⟨g,o+i,none⟩:=Addr.add_lit ..;have hc:w.cell? ⟨g,o+i,none⟩=some Db[o+i]:=by simp[World.cell?,hg,hi]
  have hz:w.frozen? ⟨g,o+i,none⟩=false:=by
   rcases hf with rfl | hf
   .simp[World.frozen?,hg]
   .simp only[World.frozen?,hg,Mo,Hk];exact .inl ch
  have h2:(store ((⟨g,o,none⟩:Addr).add i) v).run P w=.ok () (w.setRow g (Db.setIfInBounds (o+i) v)):=by
   rw[ha,run_store P w _ v _ (h1 v (Ab ..)),hc];simp[hz,setCell_eq_setRow w g (o+i) Db t fz v hg]
  have h3:=ih (i+1) (Db.setIfInBounds (o+i) v) (w.setRow g (Db.setIfInBounds (o+i) v)) (setRow_heap w g Db _ t _ hg) (by rw[Array.size_setIfInBounds];exact hf) (by rw[Array.size_setIfInBounds];omega) fun x hx=>h1 x (Ae _ hx);have e:(Db.setIfInBounds (o+i) v).toList.take (o+(i+1))++rest++(Db.setIfInBounds (o+i) v).toList.drop (o+(i+1)+rest.length)=Db.toList.take (o+i)++v::rest++Db.toList.drop (o+i+(v::rest).length):=by
   simpa[Array.toList_setIfInBounds,Nat.add_assoc]using list_seg_step Db.toList (o+i) v rest (by rw[BB];show o+i+(rest.length+1)<=_;omega)
  rw[storeCells,Sem.run_bind,h2,Result.andThen_ok,h3,setRow_setRow,e]
section
variable {P:Program}{w0:World}{g0:Gh}{h0 h:Nat->HO}{g:Gh}{w:World}(hI:Dr w0 g0 h0 h g w)
include hI
omit hI in
theorem Rr(t ty e:TypeId)(i:TypeInfo)(ht:P.underlying t=some (.slice e))(hi:P.info? e=some i)(g OO dG:Nat)(Db:Array Value)(hg:w.heap[g]?=some (.cells Db E (0,0)))(a:Addr)(m c:Nat)(news:List Value)(hl:news.length=m*i.size)(Js:∀j u,news[j]?=some u->w.cell? (a.add j)=some u)(h1:∀u∈news,u.oneCell'=true)(I5:OO+m<=dG)(cG:OO*i.size+news.length<=Db.size) :
  (Builtin.append_ #[t,t] ty #[.slice (some ⟨g,0,none⟩) OO dG,.slice (some a) m c]).run P w =
   .ok (.slice (some ⟨g,0,none⟩) (OO+m) dG) (w.setRow g (Db.toList.take (OO*i.size)++news++Db.toList.drop (OO*i.size+news.length)).toArray):=by
 have hf:=run_firstCells_some (P:=P) w i.size m a m c news hl Js;have Il:=run_storeCells_at P g (OO*i.size) E news 0 Db w hg (by simpa using cG) h1;simp only[DX]at Il;simp[Builtin.append_,run_underlying ht,sizeOf,typeInfo,hi,Builtin.lenOf,I5,hf,Addr.add_lit,Il]
omit hI in
theorem U9(t ty e:TypeId)(i:TypeInfo)(ht:P.underlying t=some (.slice e))(hi:P.info? e=some i)(g off OO dG:Nat)(Db:Array Value){fz:Nat×Nat}(hg:w.heap[g]?=some (.cells Db E fz))(zK:fz=(0,0)\/Db.size<=fz.1)(a:Addr)(m c:Nat)(news:List Value)(hl:news.length=m*i.size)(Js:∀j u,news[j]?=some u->w.cell? (a.add j)=some u)(h1:∀u∈news,u.oneCell'=true)(I5:OO+m<=dG)(cG:off+OO*i.size+news.length<=Db.size) :
  (Builtin.append_ #[t,t] ty #[.slice (some ⟨g,off,none⟩) OO dG,.slice (some a) m c]).run P w =
   .ok (.slice (some ⟨g,off,none⟩) (OO+m) dG) (w.setRow g (Db.toList.take (off+OO*i.size)++news++Db.toList.drop (off+OO*i.size+news.length)).toArray):=by
 have hf:=run_firstCells_some (P:=P) w i.size m a m c news hl Js;have Il:=jU P g (off+OO*i.size) E fz news 0 Db w hg zK (by simpa using cG) h1;simp only[DX]at Il;simp[Builtin.append_,run_underlying ht,sizeOf,typeInfo,hi,Builtin.lenOf,I5,hf,Addr.add_lit,Il]
omit hI in
theorem rd{b off n m sz cap:Nat}{Db:Array Value}{fz:Nat×Nat}{news:List Value}(hb:w.heap[b]?=some (.cells Db E fz))(ZR:Db.size=off+cap*sz)(hn:n<=cap)(hm:n+m<=cap)(hnl:news.length=m*sz)(hol:olds.length=n*sz)(GB:∀j u,olds[j]?=some u->w.cell? ⟨b,off+j,none⟩=some u) :
  (Db.toList.take (off+n*sz)++news++Db.toList.drop (off+n*sz+news.length)).length=off+cap*sz /\
  ((Db.toList.take (off+n*sz)++news++Db.toList.drop (off+n*sz+news.length)).drop off).take ((n+m)*sz)=olds++news /\
  ∀o,o<off+n*sz->(Db.toList.take (off+n*sz)++news++Db.toList.drop (off+n*sz+news.length)).toArray[o]?=Db[o]?:=by
 have hcl:Db.toList.length=off+cap*sz:=by rw[BB];exact ZR
 have QO:(n+m)*sz<=cap*sz:=Bh _ hm;have mn:n*sz<=cap*sz:=Bh _ hn;rw[E8]at QO;have Ky:(Db.toList.take (off+n*sz)).drop off=olds:=by
  apply Cz;intro j
  by_cases hj:j<n*sz
  .rw[CA,BI ch];have hx:olds[j]?=some olds[j]:=At ch
   have:=GB j _ hx
   rw[FU hb]at this;rw[AI,this,hx]
  .rw[AQ (by rw[DP,AA];omega),AQ ch]
 have vP:(Db.toList.take (off+n*sz)).length=off+n*sz:=by rw[AA];omega
 refine⟨?_,?_,fun o ho=>?_⟩
 .rw[Ac,Ac,vP,DP,hcl,hnl];omega
 .rw[Bm,List.drop_append_of_le_length (by rw[vP];omega),Ky,<-Bm,Ev (by rw[Ac,hol,hnl,E8])]
 .rw[Gu,Bm,AU (by rw[vP];exact ho),BI ho,AI]
omit hI in
theorem nQ{b n m sz cap:Nat}{Db:Array Value}{news:List Value}(hb:w.heap[b]?=some (.cells Db E (0,0)))(ZR:Db.size=cap*sz)(hn:n<=cap)(hm:n+m<=cap)(hnl:news.length=m*sz)(hol:olds.length=n*sz)(GB:∀j u,olds[j]?=some u->w.cell? ⟨b,j,none⟩=some u) :
  (Db.toList.take (n*sz)++news++Db.toList.drop (n*sz+news.length)).length=cap*sz /\
  (Db.toList.take (n*sz)++news++Db.toList.drop (n*sz+news.length)).take ((n+m)*sz)=olds++news /\
  ∀o,o<n*sz->(Db.toList.take (n*sz)++news++Db.toList.drop (n*sz+news.length)).toArray[o]?=Db[o]?:=by
 have hcl:Db.toList.length=cap*sz:=by rw[BB];exact ZR
 have QO:(n+m)*sz<=cap*sz:=Bh _ hm;have mn:n*sz<=cap*sz:=Bh _ hn;rw[E8]at QO;have Ky:Db.toList.take (n*sz)=olds:=by
  apply Cz;intro j
  by_cases hj:j<n*sz
  .rw[BI hj];have hx:olds[j]?=some olds[j]:=At ch
   have:=GB j _ hx
   rw[FU hb]at this;rw[AI,this,hx]
  .rw[AQ (by rw[AA];omega),AQ ch]
 have vP:(Db.toList.take (n*sz)).length=n*sz:=by rw[AA];omega
 refine⟨?_,?_,fun o ho=>?_⟩
 .rw[Ac,Ac,vP,DP,hcl,hnl];omega
 .rw[Ky,Ev (by rw[Ac,hol,hnl,E8])]
 .rw[Gu,Bm,AU (by rw[vP];exact ho),BI ho,AI]
theorem V9{r n sz:Nat}{es:List (List AV)}{x:Value}(he:h r=.arr sz es)(hx:Br g w (AN h) (.msl r n) x)(hn:n=es.length) :
  x=g.ρ r/\∃news,Pc w x es.length sz news/\CJ g w Fq es.flatten news:=by
 have ho:=hI.objs r;rw[he]at ho;obtain⟨t1,l1,al,a1⟩:=ho;cases hx with
 |msl _ _ _ a cap hu ht ae ha ME=>
  have e:=ME (hn.trans l1.symm);refine⟨e,?_⟩;rw[e];rcases a1 with ⟨rfl,e2,e3⟩ | ⟨b,Ln,E,vs,e1,e2,e3,e4,e5,e6,e7⟩
  .exact⟨[],⟨by simp,by simp,none,0,e2,.inl rfl⟩,by simp,by simp,fun i av x h1 h2=>by simp at h2⟩
  .have ZR:vs.toList.length=Ln*sz:=by rw[BB];exact e5
   have Hp:es.length*sz<=vs.toList.length:=by rw[ZR];exact Bh _ e3
   refine⟨vs.toList.take (es.length*sz),⟨by rw[AA,Nat.min_eq_left Hp],e6.2.1,_,_,e1,.inr ⟨_,rfl,fun j u hj=>?_⟩⟩,e6⟩;rw[Addr.add_lit,A7,FU e4];have Dx:=(Ar.1 hj).1;rw[AA]at Dx;rw[BI ch,AI]at hj;exact hj
theorem gS{sz:Nat}{K:List (List AV)->Prop}(hx:Br g w (AN h) x vx)(hk:L3 h x K) :
  ∃es,K es/\((∀c∈es,c.length=sz)->∃news,Pc w vx es.length sz news/\CJ g w Fq es.flatten news):=by
 unfold L3 at hk;split at hk
 .exact⟨_,hk,fun hl=>Pc.of_rep hx.slice_none hl⟩
 .obtain rfl:=hx.v_eq;exact⟨[],hk,fun _=>⟨[],⟨by simp,by simp,none,0,rfl,.inl rfl⟩,by simp,by simp,fun i av x h1 h2=>by simp at h2⟩⟩
 .rename_i r n;split at hk
  .rename_i GW es e;obtain⟨hn,hk⟩:=hk;refine⟨es,hk,fun hl=>?_⟩;obtain⟨_,news,n1,n2⟩:=V9 hI e hx hn;refine⟨news,?_,n2⟩
   have:news.length=es.length*sz:=by rw[n2.1,Dm hl]
   exact⟨this,n1.2.1,n1.2.2⟩
  .exact hk.elim
 .exact hk.elim
theorem i7{d:Option Nat}{sz:Nat}(hk:EO cx d h sz [] K) :
  ∃g' av h',K av h'/\Dr w0 g0 h0 h' g' w/\Le h g w h' g' w/\Br g' w (AN h') av (.slice none 0 0):=by
 have base:∀(d:Nat) (o' : HO),h d=.free->o'≠.free->(∀g' : Gh,g'.ρ d=.slice none 0 0->g'.ln d=0->g'.tk d=true->g'.own d=none->DR g' w (AN (AR h d o')) d o') ->
   Dr w0 g0 h0 (AR h d o') (g.upd d (.slice none 0 0) 0 true none g.S) w/\Le h g w (AR h d o') (g.upd d (.slice none 0 0) 0 true none g.S) w:=by
  intro d o' hd Dv JX;refine hI.upd d o' _ _ _ _ _ w none ⟨rfl,rfl,rfl,Ai _⟩ (fun _ _ _=>rfl) (fun b e=>by cases e) (fun _ _ h=>h) (fun _ _ h=>.inl h) (fun b o e=>by cases e) (fun b _ e=>by cases e) Dv (fun hu=>absurd hd hu) (fun _ _=>?_);obtain⟨u1,u2,u3,u4⟩:=Bq g d (.slice none 0 0) 0 true none g.S;exact JX _ u1 u2 u3 u4
 unfold EO at hk;split at hk
 .exact hk.elim
 .rename_i d;generalize Ki cx d=d1 at hk;split at hk
  .rename_i hd;split at hk
   .obtain⟨k1,k2⟩:=base d1 (.arr sz []) hd B0 (fun g' u1 u2 u3 u4=>⟨u3,u2,by simp,.inl ⟨rfl,u1,u4⟩⟩);exact⟨_,_,_,hk,k1,k2,.msl _ d1 0 none 0 (by unfold AN;rw[A3];simp) (by simp[Gh.upd]) (AE _) (.inl rfl) (fun _=>by simp[Gh.upd])⟩
   .obtain⟨k1,k2⟩:=base d1 (.tok sz 0) hd B0 (fun g' u1 u2 u3 u4=>⟨u3,u2,none,0,u1,.inl ⟨rfl,u4⟩⟩);exact⟨_,_,_,hk,k1,k2,.tok _ d1 sz [] _ (.snil _ _ _) B0 (by unfold AN;rw[A3];simp) (by simp[Gh.upd]) (AE _) (fun _=>by simp[Gh.upd])⟩
  .exact hk.elim
theorem bT(hT:Ci P cx.T){d:Option Nat}{t ty:Nat}{s:AV}{vs:Value}(hs:Br g w (AN h) s vs)(hx:Br g w (AN h) x vx)(hk:IK cx d h t s x K) :
  Ok P w0 g0 h0 h g w (Builtin.append_ #[t,t] ty #[vs,vx]) K:=by
 unfold IK at hk;split at hk
 .rename_i e ht;split at hk
  .exact hk.elim
  .rename_i hz;have hz:=AM hz;split at hk
   .exact hk.elim
   .rename_i k D5;have h5:=gS hI (sz:=(cx.T e).size) hx hk
    clear hk
    obtain⟨es2,hk,h6⟩:=h5;split at hk
    .obtain⟨⟨q1,q2,q3⟩,hk⟩:=hk;obtain rfl:=hs.v_eq;obtain⟨news,n1,n2⟩:=h6 (Gc q1);obtain⟨m1,m2,a,c,rfl,m4⟩:=n1
     by_cases hm:es2.length=0
     .obtain rfl:=AL hm;obtain⟨g',av,h',k1,k2,k3,k4⟩:=i7 hI hk;exact⟨_,w,g',av,h',Jm hT w ht D5 none a 0 0 c (Ai _),k1,k2,k3,k4⟩
     .obtain⟨nc,rest,r1,r2,r3⟩:=Ih hT w (ty:=ty) ht D5 hz (olds:=[]) (a:=none) (n:=0) (cap:=0) ⟨by simp,by simp,none,0,rfl,.inl rfl⟩ rfl (fun _=>rfl) ⟨m1,m2,a,c,rfl,m4⟩ rfl ch ch (by rw[A7];exact q2) ch;obtain⟨g',av,h',k1,k2,k3,k4⟩:=KB hI hk (vs:=([]++news++rest).toArray) (cap:=nc) e (Gc q1) ch (by simpa using r3) (by
       rw[E7,show(news++rest).toArray.toList=news++rest from rfl,Ev m1];exact n2) w.drew ⟨rfl,rfl,rfl,rfl⟩
      rw[A7]at r1;exact⟨_,_,g',av,h',r1,k1,k2,k3,k4⟩
    .rename_i GW es;split at hk
     .rename_i Sd;obtain Sd:=AM Sd;obtain⟨⟨q1,q2,q3,q4⟩,hk⟩:=hk;obtain⟨news,n1,n2⟩:=h6 (Gc q1);obtain⟨m1,m2,a2,c2,rfl,m4⟩:=n1;cases hs with
      |full _ _ _ _ hr Y1 ME=>
       obtain⟨a,rfl⟩:=ME;have FN:∀c∈es++es2,c.length=(cx.T e).size:=fun c hc=>(AT.1 hc).elim (fun h=>(Y1 c h).trans Sd) (Gc q1 c);obtain⟨olds,o1,o2⟩:=Pc.of_rep hr (sz:=(cx.T e).size) (fun c hc=>(Y1 c hc).trans Sd);have Uk:=o2.app n2;rw[<-Cs]at Uk;have ha:a=none->es.length=0:=by
        rintro rfl
        obtain⟨p1,p2,a',c',p3,p4⟩:=o1;cases p3;rcases p4 with h | ⟨b',h,_⟩
        .exact h
        .cases h
       obtain⟨nc,rest,r1,r2,r3⟩:=Ih hT w (ty:=ty) ht D5 hz o1 rfl ha ⟨m1,m2,a2,c2,rfl,m4⟩ rfl q2 ch q3 q4;obtain⟨g',av,h',k1,k2,k3,k4⟩:=KB hI hk (vs:=(olds++news++rest).toArray) (cap:=nc) e FN (by rw[Ac];exact r2) (by rw[DW];exact r3) (by
        rw[show(olds++news++rest).toArray.toList=olds++news++rest from rfl,Ev (by rw[Ac,Ac,o1.1,m1,E8])];exact Uk) w.drew ⟨rfl,rfl,rfl,rfl⟩
       rw[Ac]at k4;exact⟨_,_,g',av,h',r1,k1,k2,k3,k4⟩
     .exact hk.elim
    .rename_i r GW es;have ho:=hI.objs r;split at hk
     .rename_i sz n e0;rw[e0]at ho;split at hk
      .rename_i Sd Ace;obtain rfl:=AM Ace;obtain Sd:=AM Sd;obtain⟨⟨q1,q2,q3,q4⟩,hk⟩:=hk;rw[Sd]at q1;obtain⟨news,n1,n2⟩:=h6 (Gc q1);obtain⟨m1,m2,a2,c2,rfl,m4⟩:=n1;obtain⟨t1,l1,a,cap,a1,a3⟩:=ho;have hl:(h r).live:=by rw[e0];trivial
       have FN:∀c∈es++es2,es.length=n->True:=fun _ _ _=>trivial;cases hs with
       |tok _ _ _ _ _ hr Y1 hu ht' hn ME=>
        have hv:=ME (q2.trans l1.symm);rw[a1]at hv;subst hv;subst q2;have FN:∀c∈es++es2,c.length=GW:=fun c hc=>(AT.1 hc).elim (Y1 c) (fun h=>(Gc q1 c h).trans Sd.symm);obtain⟨olds,o1,o2⟩:=Pc.of_rep hr Y1;have Uk:=o2.app n2;rw[<-Cs]at Uk;have eG:es.length<=cap:=by rcases a3 with ⟨e1,_⟩ | ⟨e1,_⟩<;>omega
        by_cases hm:es2.length=0
        .obtain rfl:=AL hm;have JX:=hI.objs r;rw[e0]at JX
         obtain⟨k1,k2⟩:=hI.upd r (.tok GW (es.length+([]:List (List AV)).length)) (g.ρ r) (g.ln r) (g.tk r) (g.own r) g.S w none ⟨rfl,rfl,rfl,Ai _⟩ (fun _ _ _=>rfl) (fun b e=>by cases e) (fun _ _ h=>h) (fun _ _ h=>.inl h) (fun b o e=>by cases e)
          (fun b _ e=>⟨(hI.loc r b hl e).1,.inl ⟨hl,e⟩⟩) B0 (fun _=>⟨rfl,Ai _,fun _=>rfl,fun _=>rfl⟩) (fun hg Io=>by
           obtain⟨u1,u2,u3,u4⟩:=Bq g r (g.ρ r) (g.ln r) (g.tk r) (g.own r) g.S;rw[Ax,DX];exact JX.same Io (fun i hi=>DV B0 i hi) hg u1 u2 u3 u4 (fun b _ _=>⟨rfl,fun _ h=>h⟩))
         refine⟨_,w,_,_,_,Jm hT w ht D5 a a2 es.length cap c2 eG,hk,k1,k2,?_⟩;rw[BZ];exact(Br.tok (AN h) r GW es _ hr Y1 hu ht' hn ME).le k2
        .by_cases I5:es.length+es2.length<=cap
         .rcases a3 with ⟨e1,_⟩ | ⟨e1,b,E,Db,off,rfl,e3,⟨fz,e4,efz⟩,e5,e6⟩
          .omega
          .rcases m4 with h | ⟨ba,rfl,Js⟩
           .omega
           .obtain⟨i,z,i1,i2,i3,i4,i5⟩:=H1 hT D5;have QO:(es.length+es2.length)*GW<=cap*GW:=Bh _ I5;have rR:news.length=es2.length*GW:=by rw[Sd];exact m1
            have cH:i.size=GW:=i3.trans Sd.symm;have CI:=U9 (P:=P) t ty e i (hT.slice ht) i1 b off es.length cap Db e4 efz ba es2.length c2 news (by rw[cH];exact rR) Js m2 I5 (by rw[cH,rR,e5];rw[E8]at QO;omega);rw[cH]at CI;have GB:∀j u,olds[j]?=some u->w.cell? ⟨b,off+j,none⟩=some u:=by
             obtain⟨p1,p2,a',c',p3,p4⟩:=o1;cases p3;intro j u hj;rcases p4 with h | ⟨b',h,h'⟩
             .rw[h,HT]at p1;rw[AL p1]at hj;simp at hj
             .cases h
              have:=h' j u hj
              rwa [Addr.add_lit]at this
            obtain⟨p1,p2,p3⟩:=rd e4 e5 e1 I5 rR o1.1 GB;generalize hnewd:Db.toList.take (off+es.length*GW)++news++Db.toList.drop (off+es.length*GW+news.length)=new at CI p1 p2 p3;have ER:=setRow_heap w b Db new.toArray E fz e4;have ig:=(hI.loc r b hl e3).1
            obtain⟨k1,k2⟩:=hI.upd r (.tok GW (es.length+es2.length)) (.slice (some ⟨b,off,none⟩) (es.length+es2.length) cap) (es.length+es2.length) (g.tk r) (g.own r) (g.more b (off+(es.length+es2.length)*GW)) (w.setRow b new.toArray) (some b)
             ⟨rfl,rfl,rfl,by rw[size_setRow];exact Ai _⟩ (fun k _ Dv=>setRow_other w b k _ (fun e=>Dv (by rw[e]))) (fun b' e=>by cases e;exact⟨hl,e3⟩) (fun _ _ h=>.inl h)
             (fun b' o hs=>hs.elim .inl (fun hs=>.inr ⟨by rw[size_setRow,hs.1];exact ig,.inr ⟨hl,by rw[hs.1];exact e3⟩⟩))
             (fun b' o e hs=>by
              cases e
              refine⟨?_,fun es ck he=>by rw[e4]at he;cases he⟩;rw[FU ER,FU e4];exact p3 o (e6 o hs)) (fun b' _ e=>by
              rw[e3]at e;cases e;exact⟨by rw[size_setRow];exact ig,.inl ⟨hl,e3⟩⟩) B0 (fun _=>⟨rfl,by omega,fun e=>(by rw[t1]at e;cases e),fun e=>by omega⟩) (fun hg Io=>by
              obtain⟨u1,u2,u3,u4⟩:=Bq g r (.slice (some ⟨b,off,none⟩) (es.length+es2.length) cap) (es.length+es2.length) (g.tk r) (g.own r) (g.more b (off+(es.length+es2.length)*GW));exact⟨u3.trans t1,u2,_,cap,u1,  .inr ⟨I5,b,E,_,off,rfl,u4.trans e3,⟨fz,ER,efz.imp id fun h=>by rw[DW,p1,<-e5];exact h⟩,by rw[DW];exact p1,fun o ho=>by
               rcases ho with ho | ⟨_,ho⟩
               .have h1:=e6 o ho;have h2:es.length*GW<=(es.length+es2.length)*GW:=Bh _ ch;omega
               .exact ho⟩⟩)
            have D8:=Br.slice_off (g:=g.upd r (.slice (some ⟨b,off,none⟩) (es.length+es2.length) cap) (es.length+es2.length) (g.tk r) (g.own r) (g.more b (off+(es.length+es2.length)*GW))) (U:=AN (AR h r (.tok GW (es.length+es2.length)))) (cap:=cap) (es:=es++es2) ER FN (by rw[Ac];exact I5) (by
             rw[Ac,show new.toArray.toList=new from rfl,p2];exact Uk.mono k2.keeps (fun _ h=>h) (fun _ h=>h.elim)) (fun o ho=>.inr ⟨rfl,by rw[Ac]at ho;exact Nat.add_lt_add_left ho off⟩)
            rw[Ac]at D8;exact⟨_,_,_,_,_,CI,hk,k1,k2,.tok _ r GW _ _ D8 FN (by unfold AN;rw[A3];simp) (by simp[Gh.upd,t1]) (by simp[Gh.upd]) (fun _=>by simp[Gh.upd])⟩
         .have N9:cap<es.length+es2.length:=by omega
          have ha:a=none->cap=0:=by
           rintro rfl
           rcases a3 with ⟨e1,_⟩ | ⟨_,b,_,_,_,e2,_⟩
           .obtain⟨p1,p2,a',c',p3,p4⟩:=o1;cases p3;rcases p4 with h | ⟨b',h,_⟩
            .omega
            .cases h
           .cases e2
          obtain⟨nc,rest,r1,r2,r3⟩:=Ih hT w (ty:=ty) ht D5 hz (by rw[<-Sd];exact o1) rfl ha ⟨m1,m2,a2,c2,rfl,m4⟩ rfl ch N9 q3 q4;have ER:=Ho w.drew (.cells (olds++news++rest).toArray e (0,0)) (b:=w.heap.size) rfl
          obtain⟨k1,k2⟩:=hI.upd r (.tok GW (es.length+es2.length)) (.slice (some ⟨w.heap.size,0,none⟩) (es.length+es2.length) nc) (es.length+es2.length) (g.tk r) (some w.heap.size) (g.more w.heap.size ((es.length+es2.length)*GW))
           (w.drew.alloc (.cells (olds++news++rest).toArray e (0,0))) none
           ⟨rfl,rfl,rfl,by rw[World.size_alloc];exact Nat.le_succ _⟩ (fun k hk' _=>by rw[heap_alloc_old _ _ (by exact hk')];rfl) (fun b' e=>by cases e) (fun _ _ h=>.inl h)
           (fun b' o hs=>hs.elim .inl (fun hs=>.inr ⟨by rw[World.size_alloc,hs.1];exact Gf _,.inl (by rw[hs.1];exact Ai _)⟩))
           (fun b' o e=>by cases e) (fun b' _ e=>by cases e;exact⟨by rw[World.size_alloc];exact Gf _,.inr (Ai _)⟩) B0 (fun _=>⟨rfl,by omega,fun e=>(by rw[t1]at e;cases e),fun e=>by omega⟩) (fun hg Io=>by
            obtain⟨u1,u2,u3,u4⟩:=Bq g r (.slice (some ⟨w.heap.size,0,none⟩) (es.length+es2.length) nc) (es.length+es2.length) (g.tk r) (some w.heap.size) (g.more w.heap.size ((es.length+es2.length)*GW));exact⟨u3.trans t1,u2,_,nc,u1,.inr ⟨r2,w.heap.size,e,_,0,rfl,u4,.of ER,by rw[DW,Sd,A7];exact r3,fun o ho=>by
             rcases ho with ho | ⟨_,ho⟩
             .have:=hI.slt _ _ ho;omega
             .omega⟩⟩)
          have D8:=Br.slice_row (g:=g.upd r (.slice (some ⟨w.heap.size,0,none⟩) (es.length+es2.length) nc) (es.length+es2.length) (g.tk r) (some w.heap.size) (g.more w.heap.size ((es.length+es2.length)*GW))) (U:=AN (AR h r (.tok GW (es.length+es2.length)))) (cap:=nc) (es:=es++es2) ER FN (by rw[Ac];exact r2) (by
           rw[Ac,show(olds++news++rest).toArray.toList=olds++news++rest from rfl,Ev (by rw[Ac,o1.1,m1,Sd,E8])];exact Uk.mono k2.keeps (fun _ h=>h) (fun _ h=>h.elim)) (fun o ho=>.inr ⟨rfl,by rw[Ac]at ho;exact ho⟩)
          rw[Ac]at D8;exact⟨_,_,_,_,_,r1,hk,k1,k2,.tok _ r GW _ _ D8 FN (by unfold AN;rw[A3];simp) (by simp[Gh.upd,t1]) (by simp[Gh.upd]) (fun _=>by simp[Gh.upd])⟩
      .exact hk.elim
     .exact hk.elim
    .rename_i r n;have ho:=hI.objs r;split at hk
     .rename_i sz es e0;split at hk
      .rename_i Sd;obtain Sd:=AM Sd;obtain⟨⟨q1,q2,q3,q4⟩,hk⟩:=hk;rw[Sd]at q1;obtain⟨news,n1,n2⟩:=h6 (Gc q1);obtain⟨m1,m2,a2,c2,rfl,m4⟩:=n1;obtain⟨hv,olds,o1,o2⟩:=V9 hI e0 hs q2.symm;have JX:=ho;rw[e0]at ho;obtain⟨t1,l1,al,a3⟩:=ho;have hl:(h r).live:=by rw[e0];trivial
       subst hv;have FN:∀c∈es++es2,c.length=sz:=fun c hc=>(AT.1 hc).elim (al c) (fun h=>(Gc q1 c h).trans Sd.symm);have Uk:=o2.app n2;rw[<-Cs]at Uk;obtain⟨a,cap,hρ,eG,ha⟩:∃a cap,g.ρ r=.slice a es.length cap/\es.length<=cap/\(a=none->cap=0):=by
        rcases a3 with ⟨rfl,e2,e3⟩ | ⟨b,cap,E,Db,e1,e2,e3,e4,e5,e6,e7⟩
        .exact⟨none,0,e2,Ai _,fun _=>rfl⟩
        .exact⟨_,cap,e1,e3,fun e=>by cases e⟩
       by_cases hm:es2.length=0
       .obtain rfl:=AL hm;rw[e0]at JX
        obtain⟨k1,k2⟩:=hI.upd r (.arr sz (es++[])) (g.ρ r) (g.ln r) (g.tk r) (g.own r) g.S w none ⟨rfl,rfl,rfl,Ai _⟩ (fun _ _ _=>rfl) (fun b e=>by cases e) (fun _ _ h=>h) (fun _ _ h=>.inl h) (fun b o e=>by cases e)
         (fun b _ e=>⟨(hI.loc r b hl e).1,.inl ⟨hl,e⟩⟩) B0 (fun _=>⟨rfl,Ai _,fun _=>rfl,fun _=>rfl⟩) (fun hg Io=>by
          obtain⟨u1,u2,u3,u4⟩:=Bq g r (g.ρ r) (g.ln r) (g.tk r) (g.own r) g.S;rw[BZ];exact JX.same Io (fun i hi=>DV B0 i hi) hg u1 u2 u3 u4 (fun b _ _=>⟨rfl,fun _ h=>h⟩))
        refine⟨g.ρ r,w,_,_,_,?_,hk,k1,k2,?_⟩
        .rw[hρ];exact Jm hT w ht D5 a a2 es.length cap c2 eG
        .have:=hs.le k2
         rw[<-q2]at this;exact this
       .by_cases I5:es.length+es2.length<=cap
        .rcases a3 with ⟨rfl,e2,e3⟩ | ⟨b,Ln,E,Db,e1,e2,e3,e4,e5,e6,e7⟩
         .rw[e2]at hρ;cases hρ;omega
         .rw[e1]at hρ;simp only[Value.slice.injEq,true_and]at hρ;obtain⟨rfl,rfl⟩:=hρ;rcases m4 with h | ⟨ba,rfl,Js⟩
          .omega
          .obtain⟨i,z,i1,i2,i3,i4,i5⟩:=H1 hT D5;have QO:(es.length+es2.length)*sz<=Ln*sz:=Bh _ I5;have rR:news.length=es2.length*sz:=by rw[Sd];exact m1
           have cH:i.size=sz:=i3.trans Sd.symm;have CI:=Rr (P:=P) t ty e i (hT.slice ht) i1 b es.length Ln Db e4 ba es2.length c2 news (by rw[cH];exact rR) Js m2 I5 (by rw[cH,rR,<-E8,e5];exact QO);rw[cH]at CI;have GB:∀j u,olds[j]?=some u->w.cell? ⟨b,j,none⟩=some u:=by
            obtain⟨p1,p2,a',c',p3,p4⟩:=o1;rw[e1]at p3;cases p3;intro j u hj;rcases p4 with h | ⟨b',h,h'⟩
            .rw[h,HT]at p1;rw[AL p1]at hj;simp at hj
            .cases h
             have:=h' j u hj
             rwa [Addr.add_lit,A7]at this
           obtain⟨p1,p2,p3⟩:=nQ e4 e5 e3 I5 rR o1.1 GB;generalize hnewd:Db.toList.take (es.length*sz)++news++Db.toList.drop (es.length*sz+news.length)=new at CI p1 p2 p3;have ER:=setRow_heap w b Db new.toArray E (0,0) e4;have ig:=(hI.loc r b hl e2).1
           obtain⟨k1,k2⟩:=hI.upd r (.arr sz (es++es2)) (.slice (some ⟨b,0,none⟩) (es.length+es2.length) Ln) (es.length+es2.length) (g.tk r) (g.own r) g.S (w.setRow b new.toArray) (some b)
            ⟨rfl,rfl,rfl,by rw[size_setRow];exact Ai _⟩ (fun k _ Dv=>setRow_other w b k _ (fun e=>Dv (by rw[e]))) (fun b' e=>by cases e;exact⟨hl,e2⟩) (fun _ _ h=>h) (fun _ _ h=>.inl h)
            (fun b' o e hs=>by cases e;exact absurd hs (e7 o)) (fun b' _ e=>by
             rw[e2]at e;cases e;exact⟨by rw[size_setRow];exact ig,.inl ⟨hl,e2⟩⟩) B0 (fun _=>⟨rfl,by omega,fun e=>(by rw[t1]at e;cases e),fun e=>by omega⟩) (fun hg Io=>by
             obtain⟨u1,u2,u3,u4⟩:=Bq g r (.slice (some ⟨b,0,none⟩) (es.length+es2.length) Ln) (es.length+es2.length) (g.tk r) (g.own r) g.S;refine⟨u3.trans t1,by rw[u2,Ac],FN,.inr ⟨b,Ln,E,_,by rw[u1,Ac],u4.trans e2,by rw[Ac];exact I5,ER,by rw[DW];exact p1,?_,e7⟩⟩;rw[Ac,show new.toArray.toList=new from rfl,p2];exact Uk.mono Io (fun _ h=>h) (fun _ h=>h.elim))
           rw[e1];exact⟨_,_,_,_,_,CI,hk,k1,k2,.msl _ r _ _ _ (by unfold AN;rw[A3];simp) (by simp[Gh.upd,t1]) (by simp[Gh.upd]) (.inr ⟨_,rfl⟩) (fun _=>by simp[Gh.upd])⟩
        .have N9:cap<es.length+es2.length:=by omega
         obtain⟨nc,rest,r1,r2,r3⟩:=Ih hT w (ty:=ty) ht D5 hz (by rw[<-Sd];exact o1) hρ ha ⟨m1,m2,a2,c2,rfl,m4⟩ rfl ch N9 q3 q4;have ER:=Ho w.drew (.cells (olds++news++rest).toArray e (0,0)) (b:=w.heap.size) rfl
         obtain⟨k1,k2⟩:=hI.upd r (.arr sz (es++es2)) (.slice (some ⟨w.heap.size,0,none⟩) (es.length+es2.length) nc) (es.length+es2.length) (g.tk r) (some w.heap.size) g.S
          (w.drew.alloc (.cells (olds++news++rest).toArray e (0,0))) none
          ⟨rfl,rfl,rfl,by rw[World.size_alloc];exact Nat.le_succ _⟩ (fun k hk' _=>by rw[heap_alloc_old _ _ (by exact hk')];rfl) (fun b' e=>by cases e) (fun _ _ h=>h) (fun _ _ h=>.inl h)
          (fun b' o e=>by cases e) (fun b' _ e=>by cases e;exact⟨by rw[World.size_alloc];exact Gf _,.inr (Ai _)⟩) B0 (fun _=>⟨rfl,by omega,fun e=>(by rw[t1]at e;cases e),fun e=>by omega⟩) (fun hg Io=>by
           obtain⟨u1,u2,u3,u4⟩:=Bq g r (.slice (some ⟨w.heap.size,0,none⟩) (es.length+es2.length) nc) (es.length+es2.length) (g.tk r) (some w.heap.size) g.S;refine⟨u3.trans t1,by rw[u2,Ac],FN,.inr ⟨w.heap.size,nc,e,_,by rw[u1,Ac],u4,by rw[Ac];exact r2,ER,by rw[DW,Sd];exact r3,?_,fun o ho=>by have:=hI.slt _ _ ho;omega⟩⟩;rw[Ac,show(olds++news++rest).toArray.toList=olds++news++rest from rfl,Ev (by rw[Ac,o1.1,m1,Sd,E8])];exact Uk.mono Io (fun _ h=>h) (fun _ h=>h.elim))
         exact⟨_,_,_,_,_,r1,hk,k1,k2,.msl _ r _ _ _ (by unfold AN;rw[A3];simp) (by simp[Gh.upd,t1]) (by simp[Gh.upd]) (.inr ⟨_,rfl⟩) (fun _=>by simp[Gh.upd])⟩
      .exact hk.elim
     .exact hk.elim
    .exact hk.elim
 .exact hk.elim
theorem gP(hT:Ci P cx.T){d:Option Nat}{s t:Nat}(hx:Br g w (AN h) x vx)(hk:cn cx d h s t x K):Ok P w0 g0 h0 h g w (convert s t vx) K:=by
 unfold cn at hk;split at hk
 .rename_i e b hs ht;split at hk
  .rename_i d he;generalize Ki cx d=d1 at hk;split at hk
   .rename_i hd;obtain rfl:=hx.v_eq;have CI:=run_bytes_of_string (P:=P) w s t e b (hT.string hs) (hT.slice ht) (hT.int he);have KO:b.size<=grownCap w b.size 0 e:=grownCap_ge w b.size 0 e;generalize grownCap w b.size 0 e=cap at CI KO;have Ca:(LU b).length=b.size:=by
     show(b.data.toList.map _).length=b.size;rw[AS,BB];rfl
    have zG:b.data.toList.length=b.size:=by rw[BB];rfl
    have cN:(bytesRow b cap).size=cap:=by
     show(b.data.map _++Array.replicate _ _).size=cap;rw[Array.size_append,Array.size_map,Array.size_replicate];show b.size+_=cap;omega
    have oY:(bytesRow b cap).toList.take ((LU b).length*1)=b.data.toList.map fun c=>Value.int .u8 c.toNat:=by
     show(b.data.map _++Array.replicate _ _).toList.take _=_;rw[Array.toList_append,Array.toList_map,Ca,IX,Ev (by rw[AS,zG])]
    have hfl:(LU b).flatten=(b.data.toList.map fun c=>Value.int .u8 c.toNat).map AV.v:=by
     rw[Bw]
     have:∀l:List UInt8,(l.map fun c=>[AV.v (.int .u8 c.toNat)]).flatten=l.map (AV.v ∘ fun c=>Value.int .u8 c.toNat):=fun l=>by
      induction l with
      |nil=>rfl
      |cons c l ih=>rw[AK,Bu,ih];rfl
     exact this _
    have PJ:∀l:List UInt8,G7 ((l.map fun c=>Value.int .u8 c.toNat).map AV.v)=true:=fun l=>by
     induction l with
     |nil=>rfl
     |cons c l ih=>exact ih
    have hr:CJ g w Fq (LU b).flatten ((bytesRow b cap).toList.take ((LU b).length*1)):=by
     rw[oY,hfl];exact CJ.vals (PJ _)
    have hl:∀cs∈LU b,cs.length=1:=fun cs hc=>by obtain⟨c,_,rfl⟩:=Ak.1 hc;rfl
    generalize bytesRow b cap=vs at CI cN hr;rw[<-Ca]at CI KO;generalize LU b=es at *
    have ER:(w.drew.alloc (.cells vs e (vs.size,vs.size+1))).heap[w.heap.size]?=some (.cells vs e (vs.size,vs.size+1)):=Ho w.drew _ rfl
    have rO:=hI.upd d1 (.tok 1 es.length) (.slice (some ⟨w.heap.size,0,none⟩) es.length cap) es.length true (some w.heap.size) (g.more w.heap.size (es.length*1)) (w.drew.alloc (.cells vs e (vs.size,vs.size+1))) none
     ⟨rfl,rfl,rfl,by rw[World.size_alloc];exact Nat.le_succ _⟩ (fun k hk' _=>by rw[heap_alloc_old _ _ (by exact hk')];rfl) (fun b e=>by cases e) (fun _ _ h=>.inl h)
     (fun b o hb=>by
      rcases hb with hb | ⟨rfl,_⟩
      .exact .inl hb
      .exact .inr ⟨by rw[World.size_alloc];exact Gf _,.inl (Ai _)⟩) (fun b o e=>by cases e)
     (fun b _ e=>by cases e;rw[World.size_alloc];exact⟨Gf _,.inr (Ai _)⟩) B0 (fun hu=>absurd hd hu) (fun hg Io=>by
      obtain⟨u1,u2,u3,u4⟩:=Bq g d1 (.slice (some ⟨w.heap.size,0,none⟩) es.length cap) es.length true (some w.heap.size) (g.more w.heap.size (es.length*1));exact⟨u3,u2,_,cap,u1,.inr ⟨KO,w.heap.size,e,vs,0,rfl,u4,⟨_,ER,.inr (Ai _)⟩,by rw[cN,A7,IX],fun o ho=>by
       rcases ho with ho | ⟨_,ho⟩
       .have:=hI.slt _ _ ho;omega
       .omega⟩⟩)
    obtain⟨k1,k2⟩:=rO;refine⟨_,_,_,_,_,CI,hk,k1,k2,.tok _ d1 1 es _ (Br.slice_row ER hl KO (hr.mono k2.keeps (fun _ h=>h) (fun _ h=>h.elim)) (fun o ho=>.inr ⟨rfl,ho⟩)) hl (by unfold AN;rw[A3];simp) ?_ ?_ ?_⟩<;>simp[Gh.upd]
   .exact hk.elim
  .exact hk.elim
 .exact BF.does hI (Zs hT hx hk)
end
end Go.Eng
