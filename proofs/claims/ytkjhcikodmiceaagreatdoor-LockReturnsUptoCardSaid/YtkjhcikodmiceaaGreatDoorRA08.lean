/- Lemmas 8. -/
import Derived.Test.YtkjhcikodmiceaaGreatDoorRA07
import Derived.Laws.IdiomStrings
namespace Go.Eng
variable {ρ:Operand->Value}{es:List (List AV)}{vx:Value}{hi:Option Operand}{K:HK}{cx:Cx}{E:TypeId}{x:AV}{a:Option Addr}{olds:List Value}{T:Gf}
theorem Cg.app{g:Gh}{w:World}{U:Nat->Prop}{Ug bs:List AV}{xs ys:List Value}(h:Cg g w U Ug xs)(k:Cg g w U bs ys):Cg g w U (Ug++bs) (xs++ys):=by
 refine⟨by simp[h.1,k.1],fun x hx=>(Bk.1 hx).elim (h.2.1 x) (k.2.1 x),fun i av x h1 h2=>?_⟩
 by_cases hi:i<Ug.length
 .rw[B8 hi]at h1;rw[B8 (by rw[h.1];exact hi)]at h2;exact h.2.2 i av x h1 h2
 .rw[Bf B0]at h1;rw[Bf (by rw[h.1];omega),h.1]at h2;exact k.2.2 _ av x h1 h2
theorem gn(P:Program)(g o:Nat)(t:TypeId)(fz:Nat×Nat)(vs:List Value):∀(i:Nat) (Dn:Array Value) (w:World),w.heap[g]?=some (.cells Dn t fz)->(fz=(0,0)\/Dn.size<=fz.1)->o+i+vs.length<=Dn.size->(∀v∈vs,v.oneCell'=true) ->
  (storeCells ⟨g,o,none⟩ vs i).run P w=.ok () (w.setRow g (Dn.toList.take (o+i)++vs++Dn.toList.drop (o+i+vs.length)).toArray):=by
 induction vs with
 |nil=>
  intro i Dn w hg _ _ _;have e:(Dn.toList.take (o+i)++[]++Dn.toList.drop (o+i+([]:List Value).length)).toArray=Dn:=aa0
  rw[e,setRow_self w g Dn t fz hg];rfl
 |cons v rest ih=>
  intro i Dn w hg hf hl h1;simp only[AF]at hl;have hi:o+i<Dn.size:=B0
  have ha:(⟨g,o,none⟩:Addr).add i=⟨g,o+i,none⟩:=Addr.add_lit ..;have hc:w.cell? ⟨g,o+i,none⟩=some Dn[o+i]:=by grind [World.cell?]
  have hz:w.frozen? ⟨g,o+i,none⟩=false:=by
   grind [World.frozen?]
  have h2:(store ((⟨g,o,none⟩:Addr).add i) v).run P w=.ok () (w.setRow g (Dn.setIfInBounds (o+i) v)):=by
   grind [run_store,setCell_eq_setRow]
  have h3:=ih (i+1) (Dn.setIfInBounds (o+i) v) (w.setRow g (Dn.setIfInBounds (o+i) v)) (setRow_heap w g Dn _ t _ hg) Wk aa1 fun x hx=>h1 x (Ah _ hx);have e:(Dn.setIfInBounds (o+i) v).toList.take (o+(i+1))++rest++(Dn.setIfInBounds (o+i) v).toList.drop (o+(i+1)+rest.length)=Dn.toList.take (o+i)++v::rest++Dn.toList.drop (o+i+(v::rest).length):=by
   simpa[Array.toList_setIfInBounds,Nat.add_assoc]using list_seg_step Dn.toList (o+i) v rest B0
  rw[storeCells,Sem.run_bind,h2,Result.andThen_ok,h3,setRow_setRow,e]
section
variable {P:Program}{w0:World}{g0:Gh}{h0 h:Nat->HO}{g:Gh}{w:World}(hI:CA w0 g0 h0 h g w)
include hI
omit hI in
theorem Qe(t ty e:TypeId)(i:TypeInfo)(ht:P.underlying t=some (.slice e))(hi:P.info? e=some i)(g NR aV:Nat)(Dn:Array Value)(hg:w.heap[g]?=some (.cells Dn E (0,0)))(a:Addr)(m c:Nat)(news:List Value)(hl:news.length=m*i.size)(HE:∀j u,news[j]?=some u->w.cell? (a.add j)=some u)(h1:∀u∈news,u.oneCell'=true)(KZ:NR+m<=aV)(mz:NR*i.size+news.length<=Dn.size) :
  (Builtin.append_ #[t,t] ty #[.slice (some ⟨g,0,none⟩) NR aV,.slice (some a) m c]).run P w =
   .ok (.slice (some ⟨g,0,none⟩) (NR+m) aV) (w.setRow g (Dn.toList.take (NR*i.size)++news++Dn.toList.drop (NR*i.size+news.length)).toArray):=by
 have hf:=run_firstCells_some (P:=P) w i.size m a m c news hl HE;have IM:=run_storeCells_at P g (NR*i.size) E news 0 Dn w hg B0 h1;simp only[Dp]at IM;simp[Builtin.append_,run_underlying ht,sizeOf,typeInfo,hi,Builtin.lenOf,KZ,hf,Addr.add_lit,IM]
omit hI in
theorem TO(t ty e:TypeId)(i:TypeInfo)(ht:P.underlying t=some (.slice e))(hi:P.info? e=some i)(g off NR aV:Nat)(Dn:Array Value){fz:Nat×Nat}(hg:w.heap[g]?=some (.cells Dn E fz))(hfz:fz=(0,0)\/Dn.size<=fz.1)(a:Addr)(m c:Nat)(news:List Value)(hl:news.length=m*i.size)(HE:∀j u,news[j]?=some u->w.cell? (a.add j)=some u)(h1:∀u∈news,u.oneCell'=true)(KZ:NR+m<=aV)(mz:off+NR*i.size+news.length<=Dn.size) :
  (Builtin.append_ #[t,t] ty #[.slice (some ⟨g,off,none⟩) NR aV,.slice (some a) m c]).run P w =
   .ok (.slice (some ⟨g,off,none⟩) (NR+m) aV) (w.setRow g (Dn.toList.take (off+NR*i.size)++news++Dn.toList.drop (off+NR*i.size+news.length)).toArray):=by
 have hf:=run_firstCells_some (P:=P) w i.size m a m c news hl HE;have IM:=gn P g (off+NR*i.size) E fz news 0 Dn w hg hfz B0 h1;simp only[Dp]at IM;simp[Builtin.append_,run_underlying ht,sizeOf,typeInfo,hi,Builtin.lenOf,KZ,hf,Addr.add_lit,IM]
omit hI in
theorem nM{b off n m sz cap:Nat}{Dn:Array Value}{fz:Nat×Nat}{news:List Value}(hb:w.heap[b]?=some (.cells Dn E fz))(mw:Dn.size=off+cap*sz)(hn:n<=cap)(hm:n+m<=cap)(hnl:news.length=m*sz)(hol:olds.length=n*sz)(GZ:∀j u,olds[j]?=some u->w.cell? ⟨b,off+j,none⟩=some u) :
  (Dn.toList.take (off+n*sz)++news++Dn.toList.drop (off+n*sz+news.length)).length=off+cap*sz /\
  ((Dn.toList.take (off+n*sz)++news++Dn.toList.drop (off+n*sz+news.length)).drop off).take ((n+m)*sz)=olds++news /\
  ∀o,o<off+n*sz->(Dn.toList.take (off+n*sz)++news++Dn.toList.drop (off+n*sz+news.length)).toArray[o]?=Dn[o]?:=by
 have hcl:Dn.toList.length=off+cap*sz:=B0
 have Wf:(n+m)*sz<=cap*sz:=AZ _ hm;have oN:n*sz<=cap*sz:=AZ _ hn;rw[H2]at Wf;have K2:(Dn.toList.take (off+n*sz)).drop off=olds:=by
  apply Cr;intro j
  by_cases hj:j<n*sz
  .rw[ER,Gg B0]
   grind [FG]
  simp_all
 have wz:(Dn.toList.take (off+n*sz)).length=off+n*sz:=Wk
 refine⟨?_,?_,fun o ho=>?_⟩
 .grind
 .rw[AK,List.drop_append_of_le_length B0,K2,<-AK,MN aa1]
 grind
omit hI in
theorem kn{b n m sz cap:Nat}{Dn:Array Value}{news:List Value}(hb:w.heap[b]?=some (.cells Dn E (0,0)))(mw:Dn.size=cap*sz)(hn:n<=cap)(hm:n+m<=cap)(hnl:news.length=m*sz)(hol:olds.length=n*sz)(GZ:∀j u,olds[j]?=some u->w.cell? ⟨b,j,none⟩=some u) :
  (Dn.toList.take (n*sz)++news++Dn.toList.drop (n*sz+news.length)).length=cap*sz /\
  (Dn.toList.take (n*sz)++news++Dn.toList.drop (n*sz+news.length)).take ((n+m)*sz)=olds++news /\
  ∀o,o<n*sz->(Dn.toList.take (n*sz)++news++Dn.toList.drop (n*sz+news.length)).toArray[o]?=Dn[o]?:=by
 have hcl:Dn.toList.length=cap*sz:=B0
 have Wf:(n+m)*sz<=cap*sz:=AZ _ hm;have oN:n*sz<=cap*sz:=AZ _ hn;rw[H2]at Wf;have K2:Dn.toList.take (n*sz)=olds:=by
  apply Cr
  grind [FG]
 have wz:(Dn.toList.take (n*sz)).length=n*sz:=Wk
 refine⟨?_,?_,fun o ho=>?_⟩
 all_goals grind [Nat.add_mul]
theorem UA{r n sz:Nat}{x:Value}(he:h r=.arr sz es)(hx:A3 g w (AI h) (.msl r n) x)(hn:n=es.length) :
  x=g.ρ r/\∃news,N1 w x es.length sz news/\Cg g w DR es.flatten news:=by
 have ho:=hI.objs r;rw[he]at ho;obtain⟨t1,l1,al,a1⟩:=ho;cases hx with
 |msl _ _ _ a cap hu ht bS ha PG=>
  have e:=PG (hn.trans l1.symm);refine⟨e,?_⟩;rw[e];rcases a1 with ⟨rfl,e2,e3⟩ | ⟨b,Ko,E,vs,e1,e2,e3,e4,e5,e6,e7⟩
  .exact⟨[],⟨by simp,by simp,none,0,e2,.inl rfl⟩,by simp,by simp,fun i av x h1 h2=>by simp_all⟩
  .have mw:vs.toList.length=Ko*sz:=B0
   have Ig:es.length*sz<=vs.toList.length:=by rw[mw];exact AZ _ e3
   refine⟨vs.toList.take (es.length*sz),⟨by simp_all,e6.2.1,_,_,e1,.inr ⟨_,rfl,fun j u hj=>?_⟩⟩,e6⟩
   grind [Addr.add_lit,FG]
theorem dH{sz:Nat}{K:List (List AV)->Prop}(hx:A3 g w (AI h) x vx)(hk:Kt h x K) :
  ∃es,K es/\((∀c∈es,c.length=sz)->∃news,N1 w vx es.length sz news/\Cg g w DR es.flatten news):=by
 unfold Kt at hk;split at hk
 .exact⟨_,hk,fun hl=>N1.of_rep hx.slice_none hl⟩
 .obtain rfl:=hx.v_eq;exact⟨[],hk,fun _=>⟨[],⟨by simp,by simp,none,0,rfl,.inl rfl⟩,by simp,by simp,fun i av x h1 h2=>by simp_all⟩⟩
 .rename_i r n;split at hk
  .rename_i GS es e;obtain⟨hn,hk⟩:=hk;refine⟨es,hk,fun hl=>?_⟩;obtain⟨_,news,n1,n2⟩:=UA hI e hx hn;refine⟨news,?_,n2⟩
   have:news.length=es.length*sz:=by rw[n2.1,CZ hl]
   exact⟨this,n1.2.1,n1.2.2⟩
  simp_all
 simp_all
theorem ft{d:Option Nat}{sz:Nat}(hk:EG cx d h sz [] K) :
  ∃g' av h',K av h'/\CA w0 g0 h0 h' g' w/\Le h g w h' g' w/\A3 g' w (AI h') av (.slice none 0 0):=by
 have base:∀(d:Nat) (o' : HO),h d=.free->o'≠.free->(∀g' : Gh,g'.ρ d=.slice none 0 0->g'.ln d=0->g'.tk d=true->g'.own d=none->DD g' w (AI (AP h d o')) d o') ->
   CA w0 g0 h0 (AP h d o') (g.upd d (.slice none 0 0) 0 true none g.S) w/\Le h g w (AP h d o') (g.upd d (.slice none 0 0) 0 true none g.S) w:=by
  intro d o' hd CU Li;refine hI.upd d o' _ _ _ _ _ w none ⟨rfl,rfl,rfl,Ai _⟩ (fun _ _ _=>rfl) (fun b e=>by cases e) (fun _ _ h=>h) (fun _ _ h=>.inl h) (fun b o e=>by cases e) (fun b _ e=>by cases e) CU (fun hu=>absurd hd hu) (fun _ _=>?_)
  grind [Bl]
 unfold EG at hk;split at hk
 .simp_all
 .rename_i d;generalize JD cx d=d1 at hk;split at hk
  .rename_i hd;split at hk
   .obtain⟨k1,k2⟩:=base d1 (.arr sz []) hd aa0 (fun g' u1 u2 u3 u4=>⟨u3,u2,by simp,.inl ⟨rfl,u1,u4⟩⟩);exact⟨_,_,_,hk,k1,k2,.msl _ d1 0 none 0 (by grind [AI,A2]) (by simp[Gh.upd]) (Ao _) (.inl rfl) (fun _=>by simp[Gh.upd])⟩
   .obtain⟨k1,k2⟩:=base d1 (.tok sz 0) hd aa0 (fun g' u1 u2 u3 u4=>⟨u3,u2,none,0,u1,.inl ⟨rfl,u4⟩⟩);exact⟨_,_,_,hk,k1,k2,.tok _ d1 sz [] _ (.snil _ _ _) aa0 (by grind [AI,A2]) (by simp[Gh.upd]) (Ao _) (fun _=>by simp[Gh.upd])⟩
  simp_all
theorem ZC(hT:Cb P cx.T){d:Option Nat}{t ty:Nat}{s:AV}{vs:Value}(hs:A3 g w (AI h) s vs)(hx:A3 g w (AI h) x vx)(hk:HS cx d h t s x K) :
  Ni P w0 g0 h0 h g w (Builtin.append_ #[t,t] ty #[vs,vx]) K:=by
 unfold HS at hk;split at hk
 .rename_i e ht;split at hk
  .simp_all
  .rename_i hz;have hz:=AT hz;split at hk
   .simp_all
   .rename_i k EQ;have h5:=dH hI (sz:=(cx.T e).size) hx hk
    clear hk
    obtain⟨es2,hk,h6⟩:=h5;split at hk
    .obtain⟨⟨q1,q2,q3⟩,hk⟩:=hk;obtain rfl:=hs.v_eq;obtain⟨news,n1,n2⟩:=h6 (Fw q1);obtain⟨m1,m2,a,c,rfl,m4⟩:=n1
     by_cases hm:es2.length=0
     .obtain rfl:=AU hm;obtain⟨g',av,h',k1,k2,k3,k4⟩:=ft hI hk;exact⟨_,w,g',av,h',Ip hT w ht EQ none a 0 0 c (Ai _),k1,k2,k3,k4⟩
     .obtain⟨nc,rest,r1,r2,r3⟩:=Hw hT w (ty:=ty) ht EQ hz (olds:=[]) (a:=none) (n:=0) (cap:=0) ⟨by simp,by simp,none,0,rfl,.inl rfl⟩ rfl (fun _=>rfl) ⟨m1,m2,a,c,rfl,m4⟩ rfl B0 B0 Wk B0;obtain⟨g',av,h',k1,k2,k3,k4⟩:=Ju hI hk (vs:=([]++news++rest).toArray) (cap:=nc) e (Fw q1) B0 B0 (by
       simp_all) w.drew ⟨rfl,rfl,rfl,rfl⟩
      rw[Bz]at r1;exact⟨_,_,g',av,h',r1,k1,k2,k3,k4⟩
    .rename_i GS es;split at hk
     .rename_i T5;obtain T5:=AT T5;obtain⟨⟨q1,q2,q3,q4⟩,hk⟩:=hk;obtain⟨news,n1,n2⟩:=h6 (Fw q1);obtain⟨m1,m2,a2,c2,rfl,m4⟩:=n1;cases hs with
      |full _ _ _ _ hr mB PG=>
       obtain⟨a,rfl⟩:=PG;have GP:∀c∈es++es2,c.length=(cx.T e).size:=fun c hc=>(Bk.1 hc).elim (fun h=>(mB c h).trans T5) (Fw q1 c);obtain⟨olds,o1,o2⟩:=N1.of_rep hr (sz:=(cx.T e).size) (fun c hc=>(mB c hc).trans T5);have hrl:=o2.app n2;rw[<-CM]at hrl;have ha:a=none->es.length=0:=by
        rintro rfl
        obtain⟨p1,p2,a',c',p3,p4⟩:=o1<;>grind
       obtain⟨nc,rest,r1,r2,r3⟩:=Hw hT w (ty:=ty) ht EQ hz o1 rfl ha ⟨m1,m2,a2,c2,rfl,m4⟩ rfl q2 B0 q3 q4;obtain⟨g',av,h',k1,k2,k3,k4⟩:=Ju hI hk (vs:=(olds++news++rest).toArray) (cap:=nc) e GP Wk B0 (by
        rw[show(olds++news++rest).toArray.toList=olds++news++rest from rfl,MN (by rw[Aa,Aa,o1.1,m1,H2])];exact hrl) w.drew ⟨rfl,rfl,rfl,rfl⟩
       rw[Aa]at k4;exact⟨_,_,g',av,h',r1,k1,k2,k3,k4⟩
     simp_all
    .rename_i r GS es;have ho:=hI.objs r;split at hk
     .rename_i sz n e0;rw[e0]at ho;split at hk
      .rename_i T5 zx;obtain rfl:=AT zx;obtain T5:=AT T5;obtain⟨⟨q1,q2,q3,q4⟩,hk⟩:=hk;rw[T5]at q1;obtain⟨news,n1,n2⟩:=h6 (Fw q1);obtain⟨m1,m2,a2,c2,rfl,m4⟩:=n1;obtain⟨t1,l1,a,cap,a1,a3⟩:=ho;have hl:(h r).live:=by rw[e0];trivial
       have GP:∀c∈es++es2,es.length=n->True:=fun _ _ _=>trivial;cases hs with
       |tok _ _ _ _ _ hr mB hu ht' hn PG=>
        have hv:=PG (q2.trans l1.symm);rw[a1]at hv;subst hv;subst q2;have GP:∀c∈es++es2,c.length=GS:=fun c hc=>(Bk.1 hc).elim (mB c) (fun h=>(Fw q1 c h).trans T5.symm);obtain⟨olds,o1,o2⟩:=N1.of_rep hr mB;have hrl:=o2.app n2;rw[<-CM]at hrl;have bL:es.length<=cap:=B0
        by_cases hm:es2.length=0
        .obtain rfl:=AU hm;have Li:=hI.objs r;rw[e0]at Li
         obtain⟨k1,k2⟩:=hI.upd r (.tok GS (es.length+([]:List (List AV)).length)) (g.ρ r) (g.ln r) (g.tk r) (g.own r) g.S w none ⟨rfl,rfl,rfl,Ai _⟩ (fun _ _ _=>rfl) (fun b e=>by cases e) (fun _ _ h=>h) (fun _ _ h=>.inl h) (fun b o e=>by cases e)
          (fun b _ e=>⟨(hI.loc r b hl e).1,.inl ⟨hl,e⟩⟩) aa0 (fun _=>⟨rfl,Ai _,fun _=>rfl,fun _=>rfl⟩) (fun hg If=>by
           obtain⟨u1,u2,u3,u4⟩:=Bl g r (g.ρ r) (g.ln r) (g.tk r) (g.own r) g.S;rw[A0,Dp];exact Li.same If (fun i hi=>Do aa0 i hi) hg u1 u2 u3 u4 (fun b _ _=>⟨rfl,fun _ h=>h⟩))
         refine⟨_,w,_,_,_,Ip hT w ht EQ a a2 es.length cap c2 bL,hk,k1,k2,?_⟩
         grind [A3.tok,A3.le]
        .by_cases KZ:es.length+es2.length<=cap
         .rcases a3 with ⟨e1,_⟩ | ⟨e1,b,E,Dn,off,rfl,e3,⟨fz,e4,efz⟩,e5,e6⟩
          .omega
          .rcases m4 with h | ⟨ba,rfl,HE⟩
           .omega
           .obtain⟨i,z,i1,i2,i3,i4,i5⟩:=Hb hT EQ;have Wf:(es.length+es2.length)*GS<=cap*GS:=AZ _ KZ;have yY:news.length=es2.length*GS:=Wk
            have qt:i.size=GS:=i3.trans T5.symm;have Cu:=TO (P:=P) t ty e i (hT.slice ht) i1 b off es.length cap Dn e4 efz ba es2.length c2 news Wk HE m2 KZ aa1;rw[qt]at Cu;have GZ:∀j u,olds[j]?=some u->w.cell? ⟨b,off+j,none⟩=some u:=by
             obtain⟨p1,p2,a',c',p3,p4⟩:=o1;cases p3;intro j u hj;rcases p4 with h | ⟨b',h,h'⟩
             .simp_all
             .cases h
              have:=h' j u hj
              rwa [Addr.add_lit]at this
            obtain⟨p1,p2,p3⟩:=nM e4 e5 e1 KZ yY o1.1 GZ;generalize hnewd:Dn.toList.take (off+es.length*GS)++news++Dn.toList.drop (off+es.length*GS+news.length)=new at Cu p1 p2 p3;have Db:=setRow_heap w b Dn new.toArray E fz e4;have LI:=(hI.loc r b hl e3).1
            obtain⟨k1,k2⟩:=hI.upd r (.tok GS (es.length+es2.length)) (.slice (some ⟨b,off,none⟩) (es.length+es2.length) cap) (es.length+es2.length) (g.tk r) (g.own r) (g.more b (off+(es.length+es2.length)*GS)) (w.setRow b new.toArray) (some b)
             ⟨rfl,rfl,rfl,by simp_all⟩ (fun k _ CU=>setRow_other w b k _ (fun e=>CU (by rw[e]))) (fun b' e=>by simp_all) (fun _ _ h=>.inl h)
             (fun b' o hs=>hs.elim .inl (fun hs=>.inr ⟨by simp_all,.inr ⟨hl,by simp_all⟩⟩))
             (fun b' o e hs=>by
              cases e
              refine⟨?_,fun es ck he=>by simp_all⟩;rw[FG Db,FG e4];simp_all) (fun b' _ e=>by
              simp_all) aa0 (fun _=>⟨rfl,by omega,fun e=>Wk,fun e=>by omega⟩) (fun hg If=>by
              obtain⟨u1,u2,u3,u4⟩:=Bl g r (.slice (some ⟨b,off,none⟩) (es.length+es2.length) cap) (es.length+es2.length) (g.tk r) (g.own r) (g.more b (off+(es.length+es2.length)*GS));exact⟨u3.trans t1,u2,_,cap,u1,  .inr ⟨KZ,b,E,_,off,rfl,u4.trans e3,⟨fz,Db,efz.imp id fun h=>by simp_all⟩,by omega,fun o ho=>by
               rcases ho with ho | ⟨_,ho⟩
               all_goals grind⟩⟩)
            have DH:=A3.slice_off (g:=g.upd r (.slice (some ⟨b,off,none⟩) (es.length+es2.length) cap) (es.length+es2.length) (g.tk r) (g.own r) (g.more b (off+(es.length+es2.length)*GS))) (U:=AI (AP h r (.tok GS (es.length+es2.length)))) (cap:=cap) (es:=es++es2) Db GP Wk (by
             rw[Aa,show new.toArray.toList=new from rfl,p2];exact hrl.mono k2.keeps (fun _ h=>h) (fun _ h=>h.elim)) (fun o ho=>.inr ⟨rfl,by simp_all⟩)
            rw[Aa]at DH;exact⟨_,_,_,_,_,Cu,hk,k1,k2,.tok _ r GS _ _ DH GP (by unfold AI;rw[A2];simp) (by simp[Gh.upd,t1]) (by simp[Gh.upd]) (fun _=>by simp[Gh.upd])⟩
         .have Es:cap<es.length+es2.length:=B0
          have ha:a=none->cap=0:=by
           rintro rfl
           rcases a3 with ⟨e1,_⟩ | ⟨_,b,_,_,_,e2,_⟩
           .obtain⟨p1,p2,a',c',p3,p4⟩:=o1<;>grind
           simp_all
          obtain⟨nc,rest,r1,r2,r3⟩:=Hw hT w (ty:=ty) ht EQ hz (by rw[<-T5];exact o1) rfl ha ⟨m1,m2,a2,c2,rfl,m4⟩ rfl B0 Es q3 q4;have Db:=GE w.drew (.cells (olds++news++rest).toArray e (0,0)) (b:=w.heap.size) rfl
          obtain⟨k1,k2⟩:=hI.upd r (.tok GS (es.length+es2.length)) (.slice (some ⟨w.heap.size,0,none⟩) (es.length+es2.length) nc) (es.length+es2.length) (g.tk r) (some w.heap.size) (g.more w.heap.size ((es.length+es2.length)*GS))
           (w.drew.alloc (.cells (olds++news++rest).toArray e (0,0))) none
           ⟨rfl,rfl,rfl,by simp_all⟩ (fun k hk' _=>by rw[heap_alloc_old _ _ (by exact hk')];rfl) (fun b' e=>by cases e) (fun _ _ h=>.inl h)
           (fun b' o hs=>hs.elim .inl (fun hs=>.inr ⟨by simp_all,.inl B0⟩))
           (fun b' o e=>by cases e) (fun b' _ e=>by simp_all) aa0 (fun _=>⟨rfl,by omega,fun e=>Wk,fun e=>by omega⟩) (fun hg If=>by
            obtain⟨u1,u2,u3,u4⟩:=Bl g r (.slice (some ⟨w.heap.size,0,none⟩) (es.length+es2.length) nc) (es.length+es2.length) (g.tk r) (some w.heap.size) (g.more w.heap.size ((es.length+es2.length)*GS));exact⟨u3.trans t1,u2,_,nc,u1,.inr ⟨r2,w.heap.size,e,_,0,rfl,u4,.of Db,by simp_all,fun o ho=>by
             rcases ho with ho | ⟨_,ho⟩
             .have:=hI.slt _ _ ho;omega
             .omega⟩⟩)
          have DH:=A3.slice_row (g:=g.upd r (.slice (some ⟨w.heap.size,0,none⟩) (es.length+es2.length) nc) (es.length+es2.length) (g.tk r) (some w.heap.size) (g.more w.heap.size ((es.length+es2.length)*GS))) (U:=AI (AP h r (.tok GS (es.length+es2.length)))) (cap:=nc) (es:=es++es2) Db GP Wk (by
           rw[Aa,show(olds++news++rest).toArray.toList=olds++news++rest from rfl,MN (by rw[Aa,o1.1,m1,T5,H2])];exact hrl.mono k2.keeps (fun _ h=>h) (fun _ h=>h.elim)) (fun o ho=>.inr ⟨rfl,by simp_all⟩)
          rw[Aa]at DH;exact⟨_,_,_,_,_,r1,hk,k1,k2,.tok _ r GS _ _ DH GP (by grind [AI,A2]) (by grind [Gh.upd]) (by simp[Gh.upd]) (fun _=>by simp[Gh.upd])⟩
      simp_all
     simp_all
    .rename_i r n;have ho:=hI.objs r;split at hk
     .rename_i sz es e0;split at hk
      .rename_i T5;obtain T5:=AT T5;obtain⟨⟨q1,q2,q3,q4⟩,hk⟩:=hk;rw[T5]at q1;obtain⟨news,n1,n2⟩:=h6 (Fw q1);obtain⟨m1,m2,a2,c2,rfl,m4⟩:=n1;obtain⟨hv,olds,o1,o2⟩:=UA hI e0 hs q2.symm;have Li:=ho;rw[e0]at ho;obtain⟨t1,l1,al,a3⟩:=ho;have hl:(h r).live:=by rw[e0];trivial
       subst hv;have GP:∀c∈es++es2,c.length=sz:=fun c hc=>(Bk.1 hc).elim (al c) (fun h=>(Fw q1 c h).trans T5.symm);have hrl:=o2.app n2;rw[<-CM]at hrl;obtain⟨a,cap,hρ,bL,ha⟩:∃a cap,g.ρ r=.slice a es.length cap/\es.length<=cap/\(a=none->cap=0):=by
        grind
       by_cases hm:es2.length=0
       .obtain rfl:=AU hm;rw[e0]at Li
        obtain⟨k1,k2⟩:=hI.upd r (.arr sz (es++[])) (g.ρ r) (g.ln r) (g.tk r) (g.own r) g.S w none ⟨rfl,rfl,rfl,Ai _⟩ (fun _ _ _=>rfl) (fun b e=>by cases e) (fun _ _ h=>h) (fun _ _ h=>.inl h) (fun b o e=>by cases e)
         (fun b _ e=>⟨(hI.loc r b hl e).1,.inl ⟨hl,e⟩⟩) aa0 (fun _=>⟨rfl,Ai _,fun _=>rfl,fun _=>rfl⟩) (fun hg If=>by
          obtain⟨u1,u2,u3,u4⟩:=Bl g r (g.ρ r) (g.ln r) (g.tk r) (g.own r) g.S;rw[B5];exact Li.same If (fun i hi=>Do aa0 i hi) hg u1 u2 u3 u4 (fun b _ _=>⟨rfl,fun _ h=>h⟩))
        refine⟨g.ρ r,w,_,_,_,?_,hk,k1,k2,?_⟩
        .rw[hρ];exact Ip hT w ht EQ a a2 es.length cap c2 bL
        grind [A3.le]
       .by_cases KZ:es.length+es2.length<=cap
        .rcases a3 with ⟨rfl,e2,e3⟩ | ⟨b,Ko,E,Dn,e1,e2,e3,e4,e5,e6,e7⟩
         .grind
         .rw[e1]at hρ;simp only[Value.slice.injEq,true_and]at hρ;obtain⟨rfl,rfl⟩:=hρ;rcases m4 with h | ⟨ba,rfl,HE⟩
          .omega
          .obtain⟨i,z,i1,i2,i3,i4,i5⟩:=Hb hT EQ;have Wf:(es.length+es2.length)*sz<=Ko*sz:=AZ _ KZ;have yY:news.length=es2.length*sz:=Wk
           have qt:i.size=sz:=i3.trans T5.symm;have Cu:=Qe (P:=P) t ty e i (hT.slice ht) i1 b es.length Ko Dn e4 ba es2.length c2 news Wk HE m2 KZ aa1;rw[qt]at Cu;have GZ:∀j u,olds[j]?=some u->w.cell? ⟨b,j,none⟩=some u:=by
            obtain⟨p1,p2,a',c',p3,p4⟩:=o1<;>grind [Addr.add_lit]
           obtain⟨p1,p2,p3⟩:=kn e4 e5 e3 KZ yY o1.1 GZ;generalize hnewd:Dn.toList.take (es.length*sz)++news++Dn.toList.drop (es.length*sz+news.length)=new at Cu p1 p2 p3;have Db:=setRow_heap w b Dn new.toArray E (0,0) e4;have LI:=(hI.loc r b hl e2).1
           obtain⟨k1,k2⟩:=hI.upd r (.arr sz (es++es2)) (.slice (some ⟨b,0,none⟩) (es.length+es2.length) Ko) (es.length+es2.length) (g.tk r) (g.own r) g.S (w.setRow b new.toArray) (some b)
            ⟨rfl,rfl,rfl,by simp_all⟩ (fun k _ CU=>setRow_other w b k _ (fun e=>CU (by rw[e]))) (fun b' e=>by simp_all) (fun _ _ h=>h) (fun _ _ h=>.inl h)
            (fun b' o e hs=>by simp_all) (fun b' _ e=>by
             simp_all) aa0 (fun _=>⟨rfl,by omega,fun e=>Wk,fun e=>by omega⟩) (fun hg If=>by
             obtain⟨u1,u2,u3,u4⟩:=Bl g r (.slice (some ⟨b,0,none⟩) (es.length+es2.length) Ko) (es.length+es2.length) (g.tk r) (g.own r) g.S;refine⟨u3.trans t1,by simp_all,GP,.inr ⟨b,Ko,E,_,by simp_all,u4.trans e2,by simp_all,Db,by omega,?_,e7⟩⟩;rw[Aa,show new.toArray.toList=new from rfl,p2];exact hrl.mono If (fun _ h=>h) (fun _ h=>h.elim))
           rw[e1];exact⟨_,_,_,_,_,Cu,hk,k1,k2,.msl _ r _ _ _ (by unfold AI;rw[A2];simp) (by simp[Gh.upd,t1]) (by simp[Gh.upd]) (.inr ⟨_,rfl⟩) (fun _=>by simp[Gh.upd])⟩
        .have Es:cap<es.length+es2.length:=B0
         obtain⟨nc,rest,r1,r2,r3⟩:=Hw hT w (ty:=ty) ht EQ hz (by rw[<-T5];exact o1) hρ ha ⟨m1,m2,a2,c2,rfl,m4⟩ rfl B0 Es q3 q4;have Db:=GE w.drew (.cells (olds++news++rest).toArray e (0,0)) (b:=w.heap.size) rfl
         obtain⟨k1,k2⟩:=hI.upd r (.arr sz (es++es2)) (.slice (some ⟨w.heap.size,0,none⟩) (es.length+es2.length) nc) (es.length+es2.length) (g.tk r) (some w.heap.size) g.S
          (w.drew.alloc (.cells (olds++news++rest).toArray e (0,0))) none
          ⟨rfl,rfl,rfl,by simp_all⟩ (fun k hk' _=>by rw[heap_alloc_old _ _ (by exact hk')];rfl) (fun b' e=>by cases e) (fun _ _ h=>h) (fun _ _ h=>.inl h)
          (fun b' o e=>by cases e) (fun b' _ e=>by simp_all) aa0 (fun _=>⟨rfl,by omega,fun e=>Wk,fun e=>by omega⟩) (fun hg If=>by
           obtain⟨u1,u2,u3,u4⟩:=Bl g r (.slice (some ⟨w.heap.size,0,none⟩) (es.length+es2.length) nc) (es.length+es2.length) (g.tk r) (some w.heap.size) g.S;refine⟨u3.trans t1,by simp_all,GP,.inr ⟨w.heap.size,nc,e,_,by simp_all,u4,by simp_all,Db,by simp_all,?_,fun o ho=>by have:=hI.slt _ _ ho;omega⟩⟩;rw[Aa,show(olds++news++rest).toArray.toList=olds++news++rest from rfl,MN (by rw[Aa,o1.1,m1,T5,H2])];exact hrl.mono If (fun _ h=>h) (fun _ h=>h.elim))
         exact⟨_,_,_,_,_,r1,hk,k1,k2,.msl _ r _ _ _ (by grind [AI,A2]) (by grind [Gh.upd]) (by simp[Gh.upd]) (.inr ⟨_,rfl⟩) (fun _=>by simp[Gh.upd])⟩
      simp_all
     simp_all
    simp_all
 simp_all
theorem dE(hT:Cb P cx.T){d:Option Nat}{s t:Nat}(hx:A3 g w (AI h) x vx)(hk:ZR cx d h s t x K):Ni P w0 g0 h0 h g w (convert s t vx) K:=by
 unfold ZR at hk;split at hk
 .rename_i e b hs ht;split at hk
  .rename_i d he;generalize JD cx d=d1 at hk;split at hk
   .rename_i hd;obtain rfl:=hx.v_eq;have Cu:=run_bytes_of_string (P:=P) w s t e b (hT.string hs) (hT.slice ht) (hT.int he);have OE:b.size<=grownCap w b.size 0 e:=grownCap_ge w b.size 0 e;generalize grownCap w b.size 0 e=cap at Cu OE;have CF:(Kk b).length=b.size:=by
     simp_all
    have hbl:b.data.toList.length=b.size:=Wk
    have bV:(bytesRow b cap).size=cap:=by
     show(b.data.map _++Array.replicate _ _).size=cap;simp_all
    have wy:(bytesRow b cap).toList.take ((Kk b).length*1)=b.data.toList.map fun c=>Value.int .u8 c.toNat:=by
     show(b.data.map _++Array.replicate _ _).toList.take _=_;simp_all
    have hfl:(Kk b).flatten=(b.data.toList.map fun c=>Value.int .u8 c.toNat).map AV.v:=by
     rw[BI]
     have:∀l:List UInt8,(l.map fun c=>[AV.v (.int .u8 c.toNat)]).flatten=l.map (AV.v ∘ fun c=>Value.int .u8 c.toNat):=fun l=>by
      induction l<;>simp_all
     simp_all
    have Ho:∀l:List UInt8,Gu ((l.map fun c=>Value.int .u8 c.toNat).map AV.v)=true:=fun l=>by
     induction l with
     |nil=>rfl
     |cons c l ih=>exact ih
    have hr:Cg g w DR (Kk b).flatten ((bytesRow b cap).toList.take ((Kk b).length*1)):=by
     grind [Cg.vals]
    have hl:∀cs∈Kk b,cs.length=1:=fun cs hc=>by grind
    generalize bytesRow b cap=vs at Cu bV hr;rw[<-CF]at Cu OE;generalize Kk b=es at *
    have Db:(w.drew.alloc (.cells vs e (vs.size,vs.size+1))).heap[w.heap.size]?=some (.cells vs e (vs.size,vs.size+1)):=GE w.drew _ rfl
    have rK:=hI.upd d1 (.tok 1 es.length) (.slice (some ⟨w.heap.size,0,none⟩) es.length cap) es.length true (some w.heap.size) (g.more w.heap.size (es.length*1)) (w.drew.alloc (.cells vs e (vs.size,vs.size+1))) none
     ⟨rfl,rfl,rfl,by simp_all⟩ (fun k hk' _=>by rw[heap_alloc_old _ _ (by exact hk')];rfl) (fun b e=>by cases e) (fun _ _ h=>.inl h)
     (fun b o hb=>by
      rcases hb with hb | ⟨rfl,_⟩<;>simp_all) (fun b o e=>by cases e)
     (fun b _ e=>by simp_all) aa0 (fun hu=>absurd hd hu) (fun hg If=>by
      obtain⟨u1,u2,u3,u4⟩:=Bl g d1 (.slice (some ⟨w.heap.size,0,none⟩) es.length cap) es.length true (some w.heap.size) (g.more w.heap.size (es.length*1));exact⟨u3,u2,_,cap,u1,.inr ⟨OE,w.heap.size,e,vs,0,rfl,u4,⟨_,Db,.inr (Ai _)⟩,by omega,fun o ho=>by
       rcases ho with ho | ⟨_,ho⟩
       .have:=hI.slt _ _ ho;omega
       .omega⟩⟩)
    obtain⟨k1,k2⟩:=rK;refine⟨_,_,_,_,_,Cu,hk,k1,k2,.tok _ d1 1 es _ (A3.slice_row Db hl OE (hr.mono k2.keeps (fun _ h=>h) (fun _ h=>h.elim)) (fun o ho=>.inr ⟨rfl,ho⟩)) hl (by grind [AI,A2]) ?_ ?_ ?_⟩<;>simp[Gh.upd]
   simp_all
  simp_all
 grind [Bs.does,Xg]
end
section
variable {P:Program}{w0:World}{g0:Gh}{h0 h:Nat->HO}{g:Gh}{w:World}(hI:CA w0 g0 h0 h g w)
include hI
theorem NN{d sz n:Nat}(hd:h d=.free)(hl:∀c∈es,c.length=sz)(hn:es.length=n)(hr:A3 g w DR (.slice .none es) (.slice a n n)) :
  ∃g',CA w0 g0 h0 (AP h d (.tok sz n)) g' w/\Le h g w (AP h d (.tok sz n)) g' w/\A3 g' w (AI (AP h d (.tok sz n))) (.slice (.id d sz) es) (.slice a n n):=by
 obtain⟨k1,k2⟩:=hI.upd d (.tok sz n) (.slice a n n) n true none g.S w none ⟨rfl,rfl,rfl,Ai _⟩ (fun _ _ _=>rfl) (fun b e=>by cases e) (fun _ _ h=>h) (fun _ _ h=>.inl h) (fun b o e=>by cases e) (fun b _ e=>by cases e) aa0
  (fun hu=>absurd hd hu) (fun _ _=>by
   obtain⟨u1,u2,u3,u4⟩:=Bl g d (.slice a n n) n true none g.S;exact⟨u3,u2,a,n,u1,.inl ⟨rfl,u4⟩⟩)
 exact⟨_,k1,k2,.tok _ d sz es _ (((hr.up (AI h)).le k2)) hl (by unfold AI;rw[A2];simp) (by simp[Gh.upd]) (by simp[Gh.upd,hn]) (fun _=>by simp[Gh.upd])⟩
theorem ZE{d:Option Nat}(hx:A3 g w (AI h) x vx)(hk:N9 cx d h x K):∃g' av h',K av h'/\CA w0 g0 h0 h' g' w/\Le h g w h' g' w/\A3 g' w (AI h') av vx:=by
 have plain:K x h->∃g' av h',K av h'/\CA w0 g0 h0 h' g' w/\Le h g w h' g' w/\A3 g' w (AI h') av vx:=fun hk=>⟨g,x,h,hk,hI,.refl _ _ _,hx⟩;unfold N9 at hk;split at hk
 .simp_all
 .rename_i d;split at hk
  .rename_i sz _;split at hk
   .refine⟨g,unT x,h,hk,hI,.refl _ _ _,?_⟩;cases x with
    |slice tk es=>exact(A3.slice_none hx).up _
    |_=>exact hx
   .split at hk
    .split at hk
     .rename_i hd;obtain rfl:=hx.v_eq;obtain⟨g',k1,k2,k3⟩:=NN hI (sz:=sz) (es:=[]) (a:=none) hd aa0 rfl (.snil _ _ _)<;>grind
     simp_all
    simp_all
  .split at hk
   .rename_i sz _;split at hk
    .split at hk
     .rename_i hd;obtain rfl:=hx.v_eq
      obtain⟨k1,k2⟩:=hI.upd d (.arr sz []) (.slice none 0 0) 0 true none g.S w none ⟨rfl,rfl,rfl,Ai _⟩ (fun _ _ _=>rfl) (fun b e=>by cases e) (fun _ _ h=>h) (fun _ _ h=>.inl h) (fun b o e=>by cases e) (fun b _ e=>by cases e) aa0
       (fun hu=>absurd hd hu) (fun _ _=>by
        obtain⟨u1,u2,u3,u4⟩:=Bl g d (.slice none 0 0) 0 true none g.S;exact⟨u3,u2,by simp,.inl ⟨rfl,u1,u4⟩⟩)
      exact⟨_,_,_,hk,k1,k2,.msl _ d 0 none 0 (by unfold AI;rw[A2];simp) (by simp[Gh.upd]) (Ao _) (.inl rfl) (fun _=>by simp[Gh.upd])⟩
     simp_all
    simp_all
   simp_all
theorem X9{mku:List Nat}{d:Option Nat}{ty:Nat}(hk:J5 T mku d h ty K):Ni P w0 g0 h0 h g w (Instr.makeMap ty none) K:=by
 unfold J5 at hk;split at hk
 .simp_all
 .rename_i d;split at hk
  .rename_i hd;split at hk
   .split at hk
    .rename_i sh _;split at hk
     .obtain⟨k1,k2⟩:=hI.newOwn hd (.mapU sh []) (.map #[] 0) (.map (some w.heap.size)) 0 false w ⟨rfl,rfl,rfl,rfl⟩ aa0 (fun hg If=>by
       obtain⟨u1,u2,u3,u4⟩:=Bl g d (.map (some w.heap.size)) 0 false (some w.heap.size) g.S;exact⟨u3,w.heap.size,#[],0,u4,u1,GE w _ rfl,⟨rfl,by simp,by simp,by simp,by simp,by simp⟩,by simp,fun o ho=>by have:=hI.slt _ _ ho;omega⟩)
      refine⟨_,_,_,_,_,?_,hk,k1,k2,.mref _ d w.heap.size (by grind [AI,A2]) ?_ ?_⟩
      .simp[Instr.makeMap]
      all_goals grind [Gh.upd]
     .obtain⟨k1,k2⟩:=hI.newOwn hd (.map sh []) (.map #[] 0) (.map (some w.heap.size)) 0 false w ⟨rfl,rfl,rfl,rfl⟩ aa0 (fun hg If=>by
       obtain⟨u1,u2,u3,u4⟩:=Bl g d (.map (some w.heap.size)) 0 false (some w.heap.size) g.S;exact⟨u3,w.heap.size,#[],0,u4,u1,GE w _ rfl,⟨rfl,by simp,by simp,by simp,by simp,by simp⟩,by simp,fun o ho=>by have:=hI.slt _ _ ho;omega⟩)
      refine⟨_,_,_,_,_,?_,hk,k1,k2,.mref _ d w.heap.size (by grind [AI,A2]) ?_ ?_⟩
      .simp[Instr.makeMap]
      all_goals grind [Gh.upd]
    simp_all
   simp_all
  simp_all
omit hI in
theorem A3.sub{sz l m:Nat}{x:Value}{n cap:Nat}(hr:A3 g w DR (.slice .none es) x)(hx:x=.slice a n cap)(hl:∀c∈es,c.length=sz)(h1:l<=m)(h2:m<=es.length)(c' : Nat)(hc:m-l<=c')(a' : Option Addr)(ha:a'=a.map (·.add (l*sz))\/(m=l/\a'=a)):A3 g w DR (.slice .none ((es.take m).drop l)) (.slice a' (m-l) c'):=by
 subst hx;have CF:((es.take m).drop l).length=m-l:=Wk
 by_cases h0:m-l=0
 .grind [snil]
 .cases hr with
  |snil=>simp_all
  |slice _ _ b off GS cap val yx Pk Dg DH=>
   have hz:GS=sz:=by
    have:(0:Nat)<es.length:=B0
    have h3:=Pk 0 es[0] (Aw this);simp_all
   subst hz;have ha' : a'=some ⟨b,off+l*GS,none⟩:=by
    grind [Addr.add_lit]
   subst ha';rw[<-CF];have Fi:∀(i:Nat) (cs:List AV),((es.take m).drop l)[i]?=some cs->es[l+i]?=some cs:=fun i cs h=>by
    grind
   refine .slice _ _ b (off+l*GS) GS c' (fun i j=>val (l+i) j) B0 (fun i cs h=>Pk _ _ (Fi i cs h)) (fun i cs j av h1 h2=>?_) (fun i cs j av h1 h2=>DH _ _ _ _ (Fi i cs h1) h2)
   grind
omit hI in
theorem J8{t:Nat->AV}(ht:∀x:Operand,A3 g w (AI h) (ev t x) (ρ x)){o:Option Operand}{i:Option Int}(hk:Cw t o=some i):o.map ρ=i.map fun n=>.int .i64 n:=by
 cases o<;>grind [Cw,A3.v_eq]
omit hI in
theorem TP(b:Bool)(len cap:Nat)(lo hi mx:Option Int)(oO:mx=none\/hi≠none)(h0:0<=lo.getD 0)(h1:lo.getD 0<=hi.getD len)(h2:hi.getD len<=mx.getD cap)(h3:mx.getD cap<=cap) :
  (Instr.sliceBounds b len cap (lo.map fun n=>.int .i64 n) (hi.map fun n=>.int .i64 n) (mx.map fun n=>.int .i64 n)).run P w=.ok ((lo.getD 0).toNat,(hi.getD len).toNat,(mx.getD cap).toNat) w:=by
 have e1:∀n:Int,0<=n->(n.toNat:Int)=n:=fun n hn=>Int.toNat_of_nonneg hn;cases mx with
 |none=>
  cases hi with
  |none=>
   cases lo with
   |none=>simp[Instr.sliceBounds]
   |some l=>
    simp only[Ec,Ld]at h0 h1 h2;simp[Instr.sliceBounds,run_sliceBound,h0,h1]
  |some hh=>
   simp only[Ec,Ld]at h1 h2;have tG:0<=hh:=B0
   cases lo with
   |none=>simp[Instr.sliceBounds,run_sliceBound,tG,h2]
   |some l=>
    simp only[Ec]at h0 h1;simp[Instr.sliceBounds,run_sliceBound,h0,h1,h2,tG,e1]
 |some m=>
  cases hi with
  |none=>simp_all
  |some hh=>
   simp only[Ec]at h1 h2 h3;have tG:0<=hh:=B0
   have wk:0<=m:=B0
   cases lo with
   |none=>simp[Instr.sliceBounds,run_sliceBound,h2,h3,tG,wk,e1]
   |some l=>
    simp only[Ec]at h0 h1;simp[Instr.sliceBounds,run_sliceBound,h0,h1,h2,h3,tG,wk,e1]
omit hI in
theorem Ez(hT:Cb P T){ty e k:Nat}(ht:(T ty).d=.slice e)(hk:(T e).size=k+1)(a:Option Addr)(len cap:Nat)(lo hi mx:Option Int)(oO:mx=none\/hi≠none)(h0:0<=lo.getD 0)(h1:lo.getD 0<=hi.getD len)(h2:hi.getD len<=mx.getD cap)(h3:mx.getD cap<=cap) :
  (Instr.sliceAt ty (.slice a len cap) (lo.map fun n=>.int .i64 n) (hi.map fun n=>.int .i64 n) (mx.map fun n=>.int .i64 n)).run P w =
   .ok (.slice (if(mx.getD cap).toNat=(lo.getD 0).toNat then a else a.map (·.add ((lo.getD 0).toNat*(T e).size))) ((hi.getD len).toNat-(lo.getD 0).toNat) ((mx.getD cap).toNat-(lo.getD 0).toNat)) w:=by
 have hu:=hT.slice ht;have hb:=TP (P:=P) (w:=w) true len cap lo hi mx oO h0 h1 h2 h3;simp only[Instr.sliceAt,Sem.run_bind,run_underlying hu,Result.andThen_ok,Instr.slice,hb,hT.size1 w hk,Sem.run_pure];rw[hk]
theorem CA.moveO(r r2:Nat)(CU:r2≠r)(hf:h r2=.free)(hl:(h r).live){ob:Option Nat}(ho:∀c,ob=some c->g.own r=some c)(o' : HO)(x:Value)(n:Nat)(t:Bool)(hn:o'≠.free)
  (Li:D2 g w (g.upd r2 x n t ob g.S) w->DD (g.upd r2 x n t ob g.S) w (AI (AP (AP h r .dead) r2 o')) r2 o') :
  CA w0 g0 h0 (AP (AP h r .dead) r2 o') (g.upd r2 x n t ob g.S) w/\Le h g w (AP (AP h r .dead) r2 o') (g.upd r2 x n t ob g.S) w:=by
 have iL:JA g (g.upd r2 x n t ob g.S) (AI h):=by
  intro i hi;have e:i≠r2:=fun e=>hi Wk
  grind [Gh.upd]
 have hK:D2 g w (g.upd r2 x n t ob g.S) w:=fun b o hb=>⟨hb,rfl,fun _ _ h=>h⟩;have LQ:∀i,AI h i->AI (AP (AP h r .dead) r2 o') i:=fun i hi=>Do hn i (Do aa0 i hi);have key:∀i,i≠r2->(AP (AP h r .dead) r2 o' i).live->i≠r/\(h i).live:=fun i h2 hl=>by
  rw[BQ _ _ _ _ h2]at hl
  by_cases e:i=r
  .subst e;rw[A2]at hl;exact hl.elim
  grind [BQ]
 have own:∀i,i≠r2->(g.upd r2 x n t ob g.S).own i=g.own i:=fun i e=>by simp[Gh.upd,e]
 have jO:(g.upd r2 x n t ob g.S).own r2=ob:=by simp[Gh.upd]
 refine⟨⟨hI.os,hI.tape,hI.output,hI.size,hI.frame,hI.slt,fun i=>?_,fun i j c hi hj ei ej=>?_,fun i c hi ei=>?_,hI.sg,hI.glob.keep hK⟩,iL,LQ,hK⟩
 .by_cases e:i=r2
  .grind [A2]
  .rw[BQ _ _ _ _ e]
   by_cases e1:i=r
   .subst e1;rw[A2];trivial
   .rw[BQ _ _ _ _ e1];exact(hI.objs i).same hK LQ iL (by simp[Gh.upd,e]) (by simp[Gh.upd,e]) (by simp[Gh.upd,e]) Wk (fun b hl hb=>⟨rfl,fun k hk=>hk⟩)
 .grind [CA.inj]
 .by_cases e1:i=r2
  .subst e1;rw[jO]at ei;exact hI.loc r _ hl (ho _ ei)
  .rw[own i e1]at ei;exact hI.loc i c (key i e1 hi).2 ei
theorem YC(hT:Cb P cx.T){d:Option Nat}{ty:Nat}{t:Nat->AV}(ht:∀x:Operand,A3 g w (AI h) (ev t x) (ρ x)){lo mx:Option Operand}(hx:A3 g w (AI h) x vx)(hk:TM cx d h ty x (Cw t lo) hi mx K):Ni P w0 g0 h0 h g w (Instr.sliceAt ty vx (lo.map ρ) (hi.map ρ) (mx.map ρ)) K:=by
 unfold TM at hk;split at hk
 .rename_i d HC e1;rw[J8 ht e1];split at hk
  .rename_i e hs;split at hk
   .simp_all
   .rename_i k EQ;split at hk
    .rename_i r sz es;split at hk
     .rename_i GS n e0;split at hk
      .rename_i hd;split at hk
       .rename_i q1 q2;obtain rfl:=AT q1;have q2:=AT q2;obtain⟨⟨rfl,h1,h2⟩,hk⟩:=hk;have hl:(h r).live:=by rw[e0];trivial
        have CU:JD cx d≠r:=fun e=>by simp_all
        have ho:=hI.objs r;rw[e0]at ho;obtain⟨t1,l1,a,cap,a1,a3⟩:=ho;have hr:=hx.slice_none;cases hx with
        |tok _ _ _ _ _ hr0 mB hu ht' hn PG=>
         have hv:=PG l1.symm;rw[a1]at hv;subst hv;have bL:es.length<=cap:=B0
         have Cu:=Ez (P:=P) (w:=w) hT hs EQ a es.length cap (some HC) none none (.inl rfl) h1 h2 Wk aa0;simp only[Ec,Ld,DQ]at Cu;have CF:(es.drop HC.toNat).length=es.length-HC.toNat:=ES;have mJ:=A3.sub (c':=cap-HC.toNat) hr rfl mB (l:=HC.toNat) (m:=es.length) B0 (Ai _) B0 (if cap=HC.toNat then a else a.map (·.add (HC.toNat*(cx.T e).size))) (by
          grind)
         rw[Dh]at mJ
         have fin:∀ob:Option Nat,(∀c,ob=some c->g.own r=some c)->(es.length-HC.toNat=cap-HC.toNat/\ob=none\/es.length-HC.toNat<=cap-HC.toNat/\∃b E vs off,(if cap=HC.toNat then a else a.map (·.add (HC.toNat*(cx.T e).size)))=some ⟨b,off,none⟩/\ob=some b/\Qy w b vs E/\vs.size=off+(cap-HC.toNat)*GS/\∀o,g.S b o->o<off+(es.length-HC.toNat)*GS) ->
           Ni P w0 g0 h0 h g w (Instr.sliceAt ty (.slice a es.length cap) ((some HC).map fun n=>.int .i64 n) ((none:Option Operand).map ρ) ((none:Option Operand).map ρ)) K:=fun ob ho Pl=>by
          obtain⟨k1,k2⟩:=hI.moveO r (JD cx d) CU hd hl ho (.tok GS (es.drop HC.toNat).length) (.slice (if cap=HC.toNat then a else a.map (·.add (HC.toNat*(cx.T e).size))) (es.length-HC.toNat) (cap-HC.toNat)) (es.length-HC.toNat) true aa0 (fun If=>by
           obtain⟨u1,u2,u3,u4⟩:=Bl g (JD cx d) (.slice (if cap=HC.toNat then a else a.map (·.add (HC.toNat*(cx.T e).size))) (es.length-HC.toNat) (cap-HC.toNat)) (es.length-HC.toNat) true ob g.S;refine⟨u3,u2.trans CF.symm,_,_,by rw[CF];exact u1,?_⟩;rw[CF,u4];exact Pl)
          exact⟨_,w,_,_,_,Cu,hk,k1,k2,.tok _ _ _ _ _ (((mJ.mono k2.keeps (fun _ h=>h) (fun _ h=>h.elim))).up _) (fun c hc=>mB c (H1 hc)) (by grind [AI,A2]) (by simp[Gh.upd]) (by simp[Gh.upd]) (fun _=>by simp[Gh.upd])⟩
         rcases a3 with ⟨e1,e2⟩ | ⟨e1,b,E,vs,off,rfl,e3,e4,e5,e6⟩
         .exact fin none (fun c h=>by cases h) (.inl ⟨by omega,rfl⟩)
         .by_cases hc:cap=HC.toNat
          .exact fin none (fun c h=>by cases h) (.inl ⟨by omega,rfl⟩)
          .refine fin (some b) (fun c h=>by simp_all) (.inr ⟨by omega,b,E,vs,off+HC.toNat*GS,?_,rfl,e4,?_,fun o ho=>?_⟩)
           .grind [Addr.add_lit]
           .rw[e5,Nat.sub_mul]
            have:=AZ GS (show HC.toNat<=cap by omega)
            omega
           grind [Nat.sub_mul]
       simp_all
      simp_all
     simp_all
    simp_all
  simp_all
 simp_all
omit hI in
theorem Nw{sz:Nat}:∀{es:List (List AV)},(∀cs∈es,cs.length=sz)->∀k,(es.take k).flatten=es.flatten.take (k*sz)
 | [],_,k=>by simp
 |c::es,hl,0=>by simp
 |c::es,hl,k+1=>by
  have h1:=hl c (Ae ..);have h2:c.length<=k*sz+sz:=B0
  rw[List.take_succ_cons,By,By,Nw (fun x hx=>hl x (Ah _ hx)) k,List.take_append,h1,G5,
   Bj h2,show k*sz+sz-sz=k*sz by omega]
omit hI in
theorem Cg.takeE{U:Nat->Prop}{sz k:Nat}{vs:List Value}(hl:∀cs∈es,cs.length=sz)(hk:k<=es.length)(h:Cg g w U es.flatten (vs.take (es.length*sz))):Cg g w U (es.take k).flatten (vs.take (k*sz)):=by
 have e:vs.take (k*sz)=(vs.take (es.length*sz)).take (k*sz):=by
  grind [Nat.mul_le_mul_right]
 rw[Nw hl,e];refine⟨by rw[Bv (l:=vs.take (es.length*sz)),h.1,Bv],fun x hx=>h.2.1 x (EZ hx),fun i av x q1 q2=>?_⟩;have hi:i<k*sz:=by
  grind
 rw[List.getElem?_take,As hi]at q1 q2;exact h.2.2 i av x q1 q2
theorem cC(hT:Cb P cx.T){d:Option Nat}{ty:Nat}{t:Nat->AV}(ht:∀x:Operand,A3 g w (AI h) (ev t x) (ρ x))(hx:A3 g w (AI h) x vx)(hk:jW cx d h ty x (Cw t hi) K):Ni P w0 g0 h0 h g w (Instr.sliceAt ty vx none (hi.map ρ) none) K:=by
 unfold jW at hk;split at hk
 .rename_i d LN e1;rw[J8 ht e1];split at hk
  .rename_i e hs;split at hk
   .simp_all
   .rename_i k EQ;split at hk
    .rename_i r n;split at hk
     .rename_i sz es e0;split at hk
      .rename_i hd;split at hk
       .rename_i q1 q3;have q1:=AT q1;obtain⟨⟨rfl,h1,h2⟩,hk⟩:=hk;have hl:(h r).live:=by rw[e0];trivial
        have CU:JD cx d≠r:=fun e=>by simp_all
        have ho:=hI.objs r;rw[e0]at ho;obtain⟨t1,l1,al,a2⟩:=ho;have CF:(es.take LN.toNat).length=LN.toNat:=Wk
        cases hx with
        |msl _ _ _ a cap hu ht' bS ha PG=>
         have hv:=PG l1.symm;have OE:es.length<=cap:=by
          grind
         have Cu:=Ez (P:=P) (w:=w) hT hs EQ a es.length cap none (some LN) none (.inl rfl) aa0 Wk aa1 aa0;have QO:(if cap-(0:Nat)=0 then a else a.map (·.add (0*(cx.T e).size)))=a:=by
          grind [Addr.add]
         simp only[Ec,Ld,DQ,Int.toNat_zero,Nat.sub_zero]at Cu QO;have key:∃a',(Instr.sliceAt ty (.slice a es.length cap) ((none:Option Int).map fun n=>.int .i64 n) ((some LN).map fun n=>.int .i64 n) ((none:Option Int).map fun n=>.int .i64 n)).run P w=.ok (.slice a' LN.toNat cap) w/\(a'=a):=⟨_,Cu,by omega⟩;obtain⟨a',Cu,rfl⟩:=key;have hval:A3 (g.upd (JD cx d) (.slice a' LN.toNat cap) LN.toNat true (g.own r) g.S) w (AI (AP (AP h r .dead) (JD cx d) (.arr sz (es.take LN.toNat)))) (.msl (JD cx d) LN.toNat) (.slice a' LN.toNat cap):=
          .msl _ _ _ _ _ (by grind [AI,A2]) (by simp[Gh.upd]) (by simp[Gh.upd]) (ha.elim (fun e=>.inl B0) .inr) (fun _=>by simp[Gh.upd])
         obtain⟨k1,k2⟩:=hI.moveO r (JD cx d) CU hd hl (ob:=g.own r) (fun c h=>h) (.arr sz (es.take LN.toNat)) (.slice a' LN.toNat cap) LN.toNat true aa0 (fun If=>by
          obtain⟨u1,u2,u3,u4⟩:=Bl g (JD cx d) (.slice a' LN.toNat cap) LN.toNat true (g.own r) g.S;refine⟨u3,u2.trans CF.symm,fun c hc=>al c (EZ hc),?_⟩;rcases a2 with ⟨b1,b2,b3⟩ | ⟨b,Ko,E,vs,b1,b2,b3,b4,b5,b6,b7⟩
          .simp_all
          .rw[b1]at hv;cases hv;refine .inr ⟨b,cap,E,vs,by simp_all,u4.trans b2,by omega,b4,b5,?_,b7⟩;rw[CF];exact(Cg.takeE al B0 b6).mono If (fun _ h=>h) (fun _ h=>h.elim))
         exact⟨_,w,_,_,_,Cu,hk,k1,k2,hval⟩
       simp_all
      simp_all
     simp_all
    simp_all
  simp_all
 simp_all
theorem Vn(hT:Cb P cx.T){d:Option Nat}{ty:Nat}{t:Nat->AV}(ht:∀x:Operand,A3 g w (AI h) (ev t x) (ρ x)){lo mx:Option Operand}(hx:A3 g w (AI h) x vx)(hk:HQ cx d h ty x (Cw t lo) (Cw t hi) (Cw t mx) K):Ni P w0 g0 h0 h g w (Instr.sliceAt ty vx (lo.map ρ) (hi.map ρ) (mx.map ρ)) K:=by
 unfold HQ at hk;split at hk
 .rename_i HC LN o6 e1 e2 e3;rw[J8 ht e1,J8 ht e2,J8 ht e3];split at hk
  .rename_i hs;split at hk
   .rename_i s;obtain⟨⟨h1,h2,h3⟩,hk⟩:=hk;obtain rfl:=hx.v_eq;have hb:=TP (P:=P) (w:=w) false s.size s.size HC LN none (.inl rfl) h1 h2 Wk aa0;refine(Bs.val (x:=.string (s.extract (HC.getD 0).toNat (LN.getD s.size).toNat)) ?_ hk).does hI;simp only[Instr.sliceAt,Sem.run_bind,run_underlying (hT.string hs),Result.andThen_ok,Instr.slice];simp_all
   simp_all
  .rename_i e hs;split at hk
   .simp_all
   .rename_i k EQ;split at hk
    .rename_i tk es;have hr:=hx.slice_none;obtain⟨a,cap,hv,OE⟩:∃a cap,vx=.slice a es.length cap/\es.length<=cap:=by
      grind [cases A3]
     subst hv;split at hk
     .obtain⟨⟨h1,h2,h3⟩,hl,hk⟩:=hk;have Cu:=Ez (P:=P) (w:=w) hT hs EQ a es.length cap HC LN none (.inl rfl) h1 h2 aa1 aa0;refine Bs.does hI ⟨_,_,Cu,hk,(A3.sub (c':=cap-(HC.getD 0).toNat) hr rfl hl (l:=(HC.getD 0).toNat) (m:=(LN.getD es.length).toNat) B0 B0 B0 _ ?_).up _⟩
      grind
     .rename_i m;split at hk
      .rename_i d hh;split at hk
       .obtain⟨⟨h1,h2,rfl,h3⟩,hl,hk⟩:=hk;have Cu:=Ez (P:=P) (w:=w) hT hs EQ a es.length cap HC (some m) (some m) (.inr aa0) h1 h2 aa0 aa1;simp only[Ec]at Cu;have CF:((es.take m.toNat).drop (HC.getD 0).toNat).length=m.toNat-(HC.getD 0).toNat:=Wk
        refine Bs.does hI ⟨_,_,Cu,hk,.full _ _ _ _ ((A3.sub (c':=m.toNat-(HC.getD 0).toNat) hr rfl hl (l:=(HC.getD 0).toNat) (m:=m.toNat) B0 B0 B0 _ ?_).up _) (fun c hc=>hl c (EZ (H1 hc))) ⟨_,by rw[CF]⟩⟩
        grind
       split at hk
       .rename_i hd;obtain⟨⟨h1,h2,rfl,h3⟩,hl,hk⟩:=hk;have Cu:=Ez (P:=P) (w:=w) hT hs EQ a es.length cap HC (some m) (some m) (.inr aa0) h1 h2 aa0 aa1;simp only[Ec]at Cu
        obtain⟨g',k1,k2,k3⟩:=NN hI (sz:=(cx.T e).size) (n:=m.toNat-(HC.getD 0).toNat) hd (es:=(es.take m.toNat).drop (HC.getD 0).toNat) (fun c hc=>hl c (EZ (H1 hc))) Wk
         (A3.sub (c':=m.toNat-(HC.getD 0).toNat) hr rfl hl (l:=(HC.getD 0).toNat) (m:=m.toNat) B0 B0 B0 (if m.toNat=(HC.getD 0).toNat then a else a.map (·.add ((HC.getD 0).toNat*(cx.T e).size))) (by
          grind))
        exact⟨_,w,g',_,_,Cu,hk,k1,k2,k3⟩
       simp_all
      simp_all
    .obtain⟨⟨h1,h2,h3⟩,h4,hk⟩:=hk;obtain rfl:=hx.v_eq;have Cu:=Ez (P:=P) (w:=w) hT hs EQ none 0 0 HC LN o6 h4 B0 Wk Wk Wk
     grind [Bs.does,Bs.val]
    .rename_i r n;split at hk
     .rename_i sz es e0;split at hk
      .rename_i T5;obtain rfl:=AT T5;obtain⟨⟨h1,h2,h3,h4,h5⟩,hk⟩:=hk;have ho:=hI.objs r;rw[e0]at ho;obtain⟨t1,l1,al,a3⟩:=ho;have hl:(h r).live:=by rw[e0];trivial
       have tU:o6=none\/LN≠none:=h5.imp id (fun q=>q.2);cases hx with
       |msl _ _ _ a cap hu ht' hn ha PG=>
        have hv:=PG (h1.trans l1.symm);subst h1;have oO:∀c:Nat,es.length<=c->LN.getD es.length<=o6.getD c/\o6.getD c<=c:=fun c hc=>by
         rcases h5 with h5 | ⟨h5,CU⟩
         .grind
         .obtain⟨m,hm⟩:=Option.ne_none_iff_exists'.1 CU<;>grind
        rcases a3 with ⟨rfl,q2,q3⟩ | ⟨b,Ko,E,vs,q1,q2,q3,q4,q5,q6,q7⟩
        .rw[q2]at hv;cases hv;have Cu:=Ez (P:=P) (w:=w) hT hs EQ none 0 0 HC LN o6 tU h2 h3 (oO 0 aa0).1 (oO 0 aa0).2
         obtain⟨k1,k2⟩:=hI.upd r .dead (g.ρ r) (g.ln r) (g.tk r) (g.own r) g.S w none ⟨rfl,rfl,rfl,Ai _⟩ (fun _ _ _=>rfl) (fun b e=>by cases e) (fun _ _ h=>h) (fun _ _ h=>.inl h) (fun b o e=>by cases e) (fun b hh _=>by cases hh) aa0
          (fun _=>⟨rfl,Ai _,fun _=>rfl,fun _=>rfl⟩) (fun _ _=>trivial)
         refine⟨_,w,_,_,_,Cu,hk,k1,k2,?_⟩
         grind [A3.snil]
        .rw[q1]at hv;cases hv;have Cu:=Ez (P:=P) (w:=w) hT hs EQ (some ⟨b,0,none⟩) es.length cap HC LN o6 tU h2 h3 (oO _ q3).1 (oO _ q3).2;have LI:=(hI.loc r b hl q2).1
         obtain⟨k1,k2⟩:=hI.upd r .dead (g.ρ r) (g.ln r) (g.tk r) (g.own r) (g.more b (es.length*(cx.T e).size)) w none ⟨rfl,rfl,rfl,Ai _⟩ (fun _ _ _=>rfl) (fun b e=>by cases e) (fun _ _ h=>.inl h)
          (fun b' o hs=>hs.elim .inl (fun hs=>.inr ⟨by omega,.inr ⟨hl,by simp_all⟩⟩)) (fun b o e=>by cases e) (fun b hh _=>by cases hh) aa0
          (fun _=>⟨rfl,Ai _,fun _=>rfl,fun _=>rfl⟩) (fun _ _=>trivial)
         have DH:=A3.slice_row (g:=g.upd r (g.ρ r) (g.ln r) (g.tk r) (g.own r) (g.more b (es.length*(cx.T e).size))) (U:=DR) q4 al q3 (q6.mono k2.keeps (fun _ h=>h) (fun _ h=>h.elim)) (fun o ho=>.inr ⟨rfl,ho⟩);have AdV:=oO _ q3;refine⟨_,w,_,_,_,Cu,hk,k1,k2,(A3.sub (c':=(o6.getD cap).toNat-(HC.getD 0).toNat) DH rfl al (l:=(HC.getD 0).toNat) (m:=(LN.getD es.length).toNat) B0 B0 B0 _ ?_).up _⟩
         grind
      simp_all
     simp_all
    simp_all
  simp_all
 simp_all
theorem Un(hT:Cb P cx.T){d:Option Nat}{ty:Nat}{n c:AV}{vn vc:Value}(hn:A3 g w (AI h) n vn)(hc:A3 g w (AI h) c vc)(hk:I5 cx d h ty n c K) :
  Ni P w0 g0 h0 h g w (Instr.makeSlice ty vn vc) K:=by
 unfold I5 at hk;split at hk
 .rename_i e n c hs;obtain rfl:=hn.v_eq;obtain rfl:=hc.v_eq;split at hk
  .rename_i Ho;split at hk
   .rename_i WU;have WU:=AT WU;split at hk
    .simp_all
    .rename_i k EQ;obtain⟨⟨h1,h2,h3,h4⟩,hk⟩:=hk;obtain⟨i,z,i1,i2,i3,i4,i5⟩:=Hb hT EQ;have T6:(cx.T e).zc≠[]:=fun e0=>by simp_all
     have wn:IntKind.i64.wrap n=n:=MM ⟨by omega,by omega⟩;have wc:IntKind.i64.wrap c=c:=MM ⟨by omega,by omega⟩;have GP:∀l:List AV,(∀a∈l,one a=true)->Gu l=true:=by
      intro l
      induction l<;>grind [Gu]
     have DC:((Array.range (c.toNat*(cx.T e).size)).map fun k=>z.cells[k % z.cells.size]!).toList=(List.replicate c.toNat (cx.T e).zc).flatten:=by
      rw[Hv c.toNat _ T6,WU,i5];have e6:z.cells.size=(cx.T e).size:=Wk
      simp[e6,Array.getElem!_eq_getD]
     have hzs:(cx.T e).zc.length=(cx.T e).size:=WU;have wj:∀c'∈List.replicate c.toNat (cx.T e).zc,c'.length=(cx.T e).size:=fun c' hc=>by simp_all
     have yX : ∀c'∈List.replicate n.toNat ((cx.T e).zc.map AV.v),c'.length=(cx.T e).size:=fun c' hc=>by simp_all
     have AdP:∀c'∈List.replicate n.toNat (cx.T e).zc,c'.length=(cx.T e).size:=fun c' hc=>by simp_all
     obtain⟨g',av,h',q1,q2,q3,q4⟩:=Ju hI hk (vs:=(Array.range (c.toNat*(cx.T e).size)).map fun k=>z.cells[k % z.cells.size]!) (cap:=c.toNat) e yX aa1 aa0 (by
      rw[DC,List.length_replicate];have e1:(List.replicate n.toNat ((cx.T e).zc.map AV.v)).flatten=(List.replicate n.toNat (cx.T e).zc).flatten.map AV.v:=by
       simp_all
      have e2:(List.replicate c.toNat (cx.T e).zc).flatten.take (n.toNat*(cx.T e).size)=(List.replicate n.toNat (cx.T e).zc).flatten:=by
       obtain⟨m,hm⟩:∃m,c.toNat=n.toNat+m:=⟨c.toNat-n.toNat,by omega⟩;rw[hm,<-List.replicate_append_replicate,CM,MN Wk]
      grind [Cg.vals,Mm]) w ⟨rfl,rfl,rfl,rfl⟩
     rw[List.length_replicate]at q4;refine⟨_,_,g',av,h',?_,q1,q2,q3,q4⟩;have IK:¬((cx.T e).bytes*c>2 ^ 48):=aa1
     have iR:((decide (c<0)||decide (((cx.T e).bytes:Int)*c>2 ^ 48))||decide (n<0)||decide (n>c))=false:=by
      grind
     simp only[Instr.makeSlice,Sem.run_bind,run_underlying (hT.slice hs),Result.andThen_ok,asInt,asIntOf,Sem.run_pure,typeInfo,run_program,i1,i4,wn,wc,iR,Bool.false_eq_true,if_false,run_askRoom,hT.size1 w EQ]
     by_cases hz:c.toNat*(k+1)=0
     .have tv:c.toNat=0:=by
       simp_all
      rw[tv];simp only[Nl,if_true];simp only[show Array.range 0=#[]from rfl,Array.map_empty];simp[newRow]
     .simp only[AB hz,Sem.run_bind,zeroValue,typeInfo,run_program,i1,i2,Result.andThen_ok,Sem.run_pure];rw[EQ];simp[newRow]
   simp_all
  simp_all
 simp_all
end
end Go.Eng
