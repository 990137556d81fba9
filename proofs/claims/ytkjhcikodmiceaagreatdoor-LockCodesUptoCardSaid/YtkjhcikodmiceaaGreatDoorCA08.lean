/- Lemmas 8. -/
import Derived.Test.YtkjhcikodmiceaaGreatDoorCA07
import Derived.Laws.IdiomStrings
namespace Go.Eng
abbrev Ap3:=List Value
variable {ρ:Operand->Value}{es:C0}{vx:Value}{hi:Option Operand}{K:HK}{cx:Cx}{E:TypeId}{x:AV}{a:Option Addr}{olds:Ap3}{T:GL}
theorem Cg.app{g:D}{w:World}{U:Nat->Prop}{Xo bs:List AV}{xs ys:Ap3}(h:Cg g w U Xo xs)(k:Cg g w U bs ys):Cg g w U (Xo++bs) (xs++ys):=by
 refine⟨by simp[h.1,k.1],fun x hx=>(Bh.1 hx).elim (h.2.1 x) (k.2.1 x),fun i av x h1 h2=>?_⟩
 by_cases hi:i<Xo.length
 .rw[Cm hi]at h1;rw[Cm (by rw[h.1];exact hi)]at h2;exact h.2.2 i av x h1 h2
 .rw[Ba I]at h1;rw[Ba (by rw[h.1];omega),h.1]at h2;exact k.2.2 _ av x h1 h2
theorem px(P:Program)(g o:Nat)(t:TypeId)(fz:Nat×Nat)(vs:Ap3):∀(i:Nat) (DU:Array Value) (w:World),w.heap[g]?=some (.cells DU t fz)->(fz=(0,0)\/DU.size<=fz.1)->o+i+vs.length<=DU.size->(∀v∈vs,v.oneCell'=true) ->
  (storeCells ⟨g,o,none⟩ vs i).run P w=.ok () (w.setRow g (DU.toList.take (o+i)++vs++DU.toList.drop (o+i+vs.length)).toArray):=by
 induction vs with
 |nil=>
  intro i DU w hg _ _ _;have e:(DU.toList.take (o+i)++[]++DU.toList.drop (o+i+([]:Ap3).length)).toArray=DU:=aa1
  rw[e,setRow_self w g DU t fz hg];rfl
 |cons v rest ih=>
  intro i DU w hg hf hl h1;simp only[AK]at hl;have hi:o+i<DU.size:=I
  have ha:(⟨g,o,none⟩:Addr).add i=⟨g,o+i,none⟩:=Addr.add_lit ..;have hc:w.cell? ⟨g,o+i,none⟩=some DU[o+i]:=by grind [World.cell?]
  have hz:w.frozen? ⟨g,o+i,none⟩=false:=by
   grind [World.frozen?]
  have h2:(store ((⟨g,o,none⟩:Addr).add i) v).run P w=.ok () (w.setRow g (DU.setIfInBounds (o+i) v)):=by
   grind [run_store,setCell_eq_setRow]
  have h3:=ih (i+1) (DU.setIfInBounds (o+i) v) (w.setRow g (DU.setIfInBounds (o+i) v)) (setRow_heap w g DU _ t _ hg) aa0 aa2 fun x hx=>h1 x (Aj _ hx);have e:(DU.setIfInBounds (o+i) v).toList.take (o+(i+1))++rest++(DU.setIfInBounds (o+i) v).toList.drop (o+(i+1)+rest.length)=DU.toList.take (o+i)++v::rest++DU.toList.drop (o+i+(v::rest).length):=by
   simpa[Array.toList_setIfInBounds,Nat.add_assoc]using list_seg_step DU.toList (o+i) v rest I
  rw[storeCells,Sem.run_bind,h2,Result.andThen_ok,h3,setRow_setRow,e]
section
variable {P:Program}{w0:World}{g0:D}{h0 h:Nat->HO}{g:D}{w:World}(hI:CH w0 g0 h0 h g w)
include hI
omit hI in
theorem SD(t ty e:TypeId)(i:TypeInfo)(ht:P.underlying t=some (.slice e))(hi:P.info? e=some i)(g Pz ji:Nat)(DU:Array Value)(hg:w.heap[g]?=some (.cells DU E (0,0)))(a:Addr)(m c:Nat)(news:Ap3)(hl:news.length=m*i.size)(Hr:∀j u,news[j]?=some u->w.cell? (a.add j)=some u)(h1:∀u∈news,u.oneCell'=true)(Kl:Pz+m<=ji)(wV:Pz*i.size+news.length<=DU.size) :
  (Builtin.append_ #[t,t] ty #[.slice (some ⟨g,0,none⟩) Pz ji,.slice (some a) m c]).run P w =
   .ok (.slice (some ⟨g,0,none⟩) (Pz+m) ji) (w.setRow g (DU.toList.take (Pz*i.size)++news++DU.toList.drop (Pz*i.size+news.length)).toArray):=by
 have hf:=run_firstCells_some (P:=P) w i.size m a m c news hl Hr;have Jp:=run_storeCells_at P g (Pz*i.size) E news 0 DU w hg I h1;simp only[FF]at Jp;simp[Builtin.append_,run_underlying ht,sizeOf,typeInfo,hi,Builtin.lenOf,Kl,hf,Addr.add_lit,Jp]
omit hI in
theorem WG(t ty e:TypeId)(i:TypeInfo)(ht:P.underlying t=some (.slice e))(hi:P.info? e=some i)(g off Pz ji:Nat)(DU:Array Value){fz:Nat×Nat}(hg:w.heap[g]?=some (.cells DU E fz))(hfz:fz=(0,0)\/DU.size<=fz.1)(a:Addr)(m c:Nat)(news:Ap3)(hl:news.length=m*i.size)(Hr:∀j u,news[j]?=some u->w.cell? (a.add j)=some u)(h1:∀u∈news,u.oneCell'=true)(Kl:Pz+m<=ji)(wV:off+Pz*i.size+news.length<=DU.size) :
  (Builtin.append_ #[t,t] ty #[.slice (some ⟨g,off,none⟩) Pz ji,.slice (some a) m c]).run P w =
   .ok (.slice (some ⟨g,off,none⟩) (Pz+m) ji) (w.setRow g (DU.toList.take (off+Pz*i.size)++news++DU.toList.drop (off+Pz*i.size+news.length)).toArray):=by
 have hf:=run_firstCells_some (P:=P) w i.size m a m c news hl Hr;have Jp:=px P g (off+Pz*i.size) E fz news 0 DU w hg hfz I h1;simp only[FF]at Jp;simp[Builtin.append_,run_underlying ht,sizeOf,typeInfo,hi,Builtin.lenOf,Kl,hf,Addr.add_lit,Jp]
omit hI in
theorem ye{b off n m sz cap:Nat}{DU:Array Value}{fz:Nat×Nat}{news:Ap3}(hb:w.heap[b]?=some (.cells DU E fz))(wR:DU.size=off+cap*sz)(hn:n<=cap)(hm:n+m<=cap)(hnl:news.length=m*sz)(hol:olds.length=n*sz)(Hs:∀j u,olds[j]?=some u->w.cell? ⟨b,off+j,none⟩=some u) :
  (DU.toList.take (off+n*sz)++news++DU.toList.drop (off+n*sz+news.length)).length=off+cap*sz /\
  ((DU.toList.take (off+n*sz)++news++DU.toList.drop (off+n*sz+news.length)).drop off).take ((n+m)*sz)=olds++news /\
  ∀o,o<off+n*sz->(DU.toList.take (off+n*sz)++news++DU.toList.drop (off+n*sz+news.length)).toArray[o]?=DU[o]?:=by
 have hcl:DU.toList.length=off+cap*sz:=I
 have dw:(n+m)*sz<=cap*sz:=A6 _ hm;have zH:n*sz<=cap*sz:=A6 _ hn;rw[Kd]at dw;have Mp:(DU.toList.take (off+n*sz)).drop off=olds:=by
  apply Cu;intro j
  by_cases hj:j<n*sz
  .rw[FR,List.getElem?_take_of_lt I]
   grind [Gt]
  simp_all
 have htl:(DU.toList.take (off+n*sz)).length=off+n*sz:=aa0
 refine⟨?_,?_,fun o ho=>?_⟩
 .grind
 .rw[Ct,List.drop_append_of_le_length I,Mp,<-Ct,JZ aa2]
 grind
omit hI in
theorem tV{b n m sz cap:Nat}{DU:Array Value}{news:Ap3}(hb:w.heap[b]?=some (.cells DU E (0,0)))(wR:DU.size=cap*sz)(hn:n<=cap)(hm:n+m<=cap)(hnl:news.length=m*sz)(hol:olds.length=n*sz)(Hs:∀j u,olds[j]?=some u->w.cell? ⟨b,j,none⟩=some u) :
  (DU.toList.take (n*sz)++news++DU.toList.drop (n*sz+news.length)).length=cap*sz /\
  (DU.toList.take (n*sz)++news++DU.toList.drop (n*sz+news.length)).take ((n+m)*sz)=olds++news /\
  ∀o,o<n*sz->(DU.toList.take (n*sz)++news++DU.toList.drop (n*sz+news.length)).toArray[o]?=DU[o]?:=by
 have hcl:DU.toList.length=cap*sz:=I
 have dw:(n+m)*sz<=cap*sz:=A6 _ hm;have zH:n*sz<=cap*sz:=A6 _ hn;rw[Kd]at dw;have Mp:DU.toList.take (n*sz)=olds:=by
  apply Cu
  grind [Gt]
 have htl:(DU.toList.take (n*sz)).length=n*sz:=aa0
 refine⟨?_,?_,fun o ho=>?_⟩
 all_goals grind [Nat.add_mul]
theorem XU{r n sz:Nat}{x:Value}(he:h r=.arr sz es)(hx:O g w (L h) (.msl r n) x)(hn:n=es.length) :
  x=g.ρ r/\∃news,PQ w x es.length sz news/\Cg g w DS es.flatten news:=by
 have ho:=hI.objs r;rw[he]at ho;obtain⟨t1,l1,al,a1⟩:=ho;cases hx with
 |msl _ _ _ a cap hu ht nI ha Uh=>
  have e:=Uh (hn.trans l1.symm);refine⟨e,?_⟩;rw[e];rcases a1 with ⟨rfl,e2,e3⟩ | ⟨b,P0,E,vs,e1,e2,e3,e4,e5,e6,e7⟩
  .exact⟨[],⟨by simp,by simp,none,0,e2,.inl rfl⟩,by simp,by simp,fun i av x h1 h2=>by simp_all⟩
  .have wR:vs.toList.length=P0*sz:=I
   have Jo:es.length*sz<=vs.toList.length:=by rw[wR];exact A6 _ e3
   refine⟨vs.toList.take (es.length*sz),⟨by simp_all,e6.2.1,_,_,e1,.inr ⟨_,rfl,fun j u hj=>?_⟩⟩,e6⟩
   grind [Addr.add_lit,Gt]
theorem m9{sz:Nat}{K:C0->Prop}(hx:O g w (L h) x vx)(hk:LK h x K) :
  ∃es,K es/\((∀c∈es,c.length=sz)->∃news,PQ w vx es.length sz news/\Cg g w DS es.flatten news):=by
 unfold LK at hk;split at hk
 .exact⟨_,hk,fun hl=>PQ.of_rep hx.slice_none hl⟩
 .obtain rfl:=hx.v_eq;exact⟨[],hk,fun _=>⟨[],⟨by simp,by simp,none,0,rfl,.inl rfl⟩,by simp,by simp,fun i av x h1 h2=>by simp_all⟩⟩
 .rename_i r n;split at hk
  .rename_i HG es e;obtain⟨hn,hk⟩:=hk;refine⟨es,hk,fun hl=>?_⟩;obtain⟨_,news,n1,n2⟩:=XU hI e hx hn;refine⟨news,?_,n2⟩
   have:news.length=es.length*sz:=by rw[n2.1,EK hl]
   exact⟨this,n1.2.1,n1.2.2⟩
  simp_all
 simp_all
theorem ov{d:Option Nat}{sz:Nat}(hk:EO cx d h sz [] K) :
  ∃g' av h',K av h'/\CH w0 g0 h0 h' g' w/\Le h g w h' g' w/\O g' w (L h') av (.slice none 0 0):=by
 have base:∀(d:Nat) (o' : HO),h d=.free->o'≠.free->(∀g' : D,g'.ρ d=.slice none 0 0->g'.ln d=0->g'.tk d=true->g'.own d=none->DE g' w (L (AS h d o')) d o') ->
   CH w0 g0 h0 (AS h d o') (g.upd d (.slice none 0 0) 0 true none g.S) w/\Le h g w (AS h d o') (g.upd d (.slice none 0 0) 0 true none g.S) w:=by
  intro d o' hd Ec MC;refine hI.upd d o' _ _ _ _ _ w none ⟨rfl,rfl,rfl,Af _⟩ (fun _ _ _=>rfl) (fun b e=>by cases e) (fun _ _ h=>h) (fun _ _ h=>.inl h) (fun b o e=>by cases e) (fun b _ e=>by cases e) Ec (fun hu=>absurd hd hu) (fun _ _=>?_)
  grind [Bn]
 unfold EO at hk;split at hk
 .simp_all
 .rename_i d;generalize KA cx d=d1 at hk;split at hk
  .rename_i hd;split at hk
   .obtain⟨k1,k2⟩:=base d1 (.arr sz []) hd aa1 (fun g' u1 u2 u3 u4=>⟨u3,u2,by simp,.inl ⟨rfl,u1,u4⟩⟩);exact⟨_,_,_,hk,k1,k2,.msl _ d1 0 none 0 (by grind [L,A0]) (by simp[D.upd]) (Ai _) (.inl rfl) (fun _=>by simp[D.upd])⟩
   .obtain⟨k1,k2⟩:=base d1 (.tok sz 0) hd aa1 (fun g' u1 u2 u3 u4=>⟨u3,u2,none,0,u1,.inl ⟨rfl,u4⟩⟩);exact⟨_,_,_,hk,k1,k2,.tok _ d1 sz [] _ (.snil _ _ _) aa1 (by grind [L,A0]) (by simp[D.upd]) (Ai _) (fun _=>by simp[D.upd])⟩
  simp_all
theorem gF(hT:B8 P cx.T){d:Option Nat}{t ty:Nat}{s:AV}{vs:Value}(hs:O g w (L h) s vs)(hx:O g w (L h) x vx)(hk:Iy cx d h t s x K) :
  OS P w0 g0 h0 h g w (Builtin.append_ #[t,t] ty #[vs,vx]) K:=by
 unfold Iy at hk;split at hk
 .rename_i e ht;split at hk
  .simp_all
  .rename_i hz;have hz:=A5 hz;split at hk
   .simp_all
   .rename_i k EC;have h5:=m9 hI (sz:=(cx.T e).size) hx hk
    clear hk
    obtain⟨es2,hk,h6⟩:=h5;split at hk
    .obtain⟨⟨q1,q2,q3⟩,hk⟩:=hk;obtain rfl:=hs.v_eq;obtain⟨news,n1,n2⟩:=h6 (FM q1);obtain⟨m1,m2,a,c,rfl,m4⟩:=n1
     by_cases hm:es2.length=0
     .obtain rfl:=AI hm;obtain⟨g',av,h',k1,k2,k3,k4⟩:=ov hI hk;exact⟨_,w,g',av,h',I4 hT w ht EC none a 0 0 c (Af _),k1,k2,k3,k4⟩
     .obtain⟨nc,rest,r1,r2,r3⟩:=Ie hT w (ty:=ty) ht EC hz (olds:=[]) (a:=none) (n:=0) (cap:=0) ⟨by simp,by simp,none,0,rfl,.inl rfl⟩ rfl (fun _=>rfl) ⟨m1,m2,a,c,rfl,m4⟩ rfl I I aa0 I;obtain⟨g',av,h',k1,k2,k3,k4⟩:=Kq hI hk (vs:=([]++news++rest).toArray) (cap:=nc) e (FM q1) I I (by
       simp_all) w.drew ⟨rfl,rfl,rfl,rfl⟩
      rw[Dp]at r1;exact⟨_,_,g',av,h',r1,k1,k2,k3,k4⟩
    .rename_i HG es;split at hk
     .rename_i Xe;obtain Xe:=A5 Xe;obtain⟨⟨q1,q2,q3,q4⟩,hk⟩:=hk;obtain⟨news,n1,n2⟩:=h6 (FM q1);obtain⟨m1,m2,a2,c2,rfl,m4⟩:=n1;cases hs with
      |full _ _ _ _ hr wY Uh=>
       obtain⟨a,rfl⟩:=Uh;have HE:∀c∈es++es2,c.length=(cx.T e).size:=fun c hc=>(Bh.1 hc).elim (fun h=>(wY c h).trans Xe) (FM q1 c);obtain⟨olds,o1,o2⟩:=PQ.of_rep hr (sz:=(cx.T e).size) (fun c hc=>(wY c hc).trans Xe);have hrl:=o2.app n2;rw[<-DQ]at hrl;have ha:a=none->es.length=0:=by
        rintro rfl
        obtain⟨p1,p2,a',c',p3,p4⟩:=o1<;>grind
       obtain⟨nc,rest,r1,r2,r3⟩:=Ie hT w (ty:=ty) ht EC hz o1 rfl ha ⟨m1,m2,a2,c2,rfl,m4⟩ rfl q2 I q3 q4;obtain⟨g',av,h',k1,k2,k3,k4⟩:=Kq hI hk (vs:=(olds++news++rest).toArray) (cap:=nc) e HE aa0 I (by
        rw[show(olds++news++rest).toArray.toList=olds++news++rest from rfl,JZ (by rw[Ac,Ac,o1.1,m1,Kd])];exact hrl) w.drew ⟨rfl,rfl,rfl,rfl⟩
       rw[Ac]at k4;exact⟨_,_,g',av,h',r1,k1,k2,k3,k4⟩
     simp_all
    .rename_i r HG es;have ho:=hI.objs r;split at hk
     .rename_i sz n e0;rw[e0]at ho;split at hk
      .rename_i Xe AkH;obtain rfl:=A5 AkH;obtain Xe:=A5 Xe;obtain⟨⟨q1,q2,q3,q4⟩,hk⟩:=hk;rw[Xe]at q1;obtain⟨news,n1,n2⟩:=h6 (FM q1);obtain⟨m1,m2,a2,c2,rfl,m4⟩:=n1;obtain⟨t1,l1,a,cap,a1,a3⟩:=ho;have hl:(h r).live:=by rw[e0];trivial
       have HE:∀c∈es++es2,es.length=n->True:=fun _ _ _=>trivial;cases hs with
       |tok _ _ _ _ _ hr wY hu ht' hn Uh=>
        have hv:=Uh (q2.trans l1.symm);rw[a1]at hv;subst hv;subst q2;have HE:∀c∈es++es2,c.length=HG:=fun c hc=>(Bh.1 hc).elim (wY c) (fun h=>(FM q1 c h).trans Xe.symm);obtain⟨olds,o1,o2⟩:=PQ.of_rep hr wY;have hrl:=o2.app n2;rw[<-DQ]at hrl;have kD:es.length<=cap:=I
        by_cases hm:es2.length=0
        .obtain rfl:=AI hm;have MC:=hI.objs r;rw[e0]at MC
         obtain⟨k1,k2⟩:=hI.upd r (.tok HG (es.length+([]:C0).length)) (g.ρ r) (g.ln r) (g.tk r) (g.own r) g.S w none ⟨rfl,rfl,rfl,Af _⟩ (fun _ _ _=>rfl) (fun b e=>by cases e) (fun _ _ h=>h) (fun _ _ h=>.inl h) (fun b o e=>by cases e)
          (fun b _ e=>⟨(hI.loc r b hl e).1,.inl ⟨hl,e⟩⟩) aa1 (fun _=>⟨rfl,Af _,fun _=>rfl,fun _=>rfl⟩) (fun hg Hq=>by
           obtain⟨u1,u2,u3,u4⟩:=Bn g r (g.ρ r) (g.ln r) (g.tk r) (g.own r) g.S;rw[A4,FF];exact MC.same Hq (fun i hi=>DC aa1 i hi) hg u1 u2 u3 u4 (fun b _ _=>⟨rfl,fun _ h=>h⟩))
         refine⟨_,w,_,_,_,I4 hT w ht EC a a2 es.length cap c2 kD,hk,k1,k2,?_⟩
         grind [O.tok,O.le]
        .by_cases Kl:es.length+es2.length<=cap
         .rcases a3 with ⟨e1,_⟩ | ⟨e1,b,E,DU,off,rfl,e3,⟨fz,e4,efz⟩,e5,e6⟩
          .omega
          .rcases m4 with h | ⟨ba,rfl,Hr⟩
           .omega
           .obtain⟨i,z,i1,i2,i3,i4,i5⟩:=HQ hT EC;have dw:(es.length+es2.length)*HG<=cap*HG:=A6 _ Kl;have hm1:news.length=es2.length*HG:=aa0
            have AbD:i.size=HG:=i3.trans Xe.symm;have CV:=WG (P:=P) t ty e i (hT.slice ht) i1 b off es.length cap DU e4 efz ba es2.length c2 news aa0 Hr m2 Kl aa2;rw[AbD]at CV;have Hs:∀j u,olds[j]?=some u->w.cell? ⟨b,off+j,none⟩=some u:=by
             obtain⟨p1,p2,a',c',p3,p4⟩:=o1;cases p3;intro j u hj;rcases p4 with h | ⟨b',h,h'⟩
             .simp_all
             .cases h
              have:=h' j u hj
              rwa [Addr.add_lit]at this
            obtain⟨p1,p2,p3⟩:=ye e4 e5 e1 Kl hm1 o1.1 Hs;generalize hnewd:DU.toList.take (off+es.length*HG)++news++DU.toList.drop (off+es.length*HG+news.length)=new at CV p1 p2 p3;have EY:=setRow_heap w b DU new.toArray E fz e4;have wJ:=(hI.loc r b hl e3).1
            obtain⟨k1,k2⟩:=hI.upd r (.tok HG (es.length+es2.length)) (.slice (some ⟨b,off,none⟩) (es.length+es2.length) cap) (es.length+es2.length) (g.tk r) (g.own r) (g.more b (off+(es.length+es2.length)*HG)) (w.setRow b new.toArray) (some b)
             ⟨rfl,rfl,rfl,by simp_all⟩ (fun k _ Ec=>setRow_other w b k _ (fun e=>Ec (by rw[e]))) (fun b' e=>by simp_all) (fun _ _ h=>.inl h)
             (fun b' o hs=>hs.elim .inl (fun hs=>.inr ⟨by simp_all,.inr ⟨hl,by simp_all⟩⟩))
             (fun b' o e hs=>by
              cases e
              refine⟨?_,fun es ck he=>by simp_all⟩;rw[Gt EY,Gt e4];simp_all) (fun b' _ e=>by
              simp_all) aa1 (fun _=>⟨rfl,by omega,fun e=>aa0,fun e=>by omega⟩) (fun hg Hq=>by
              obtain⟨u1,u2,u3,u4⟩:=Bn g r (.slice (some ⟨b,off,none⟩) (es.length+es2.length) cap) (es.length+es2.length) (g.tk r) (g.own r) (g.more b (off+(es.length+es2.length)*HG));exact⟨u3.trans t1,u2,_,cap,u1,  .inr ⟨Kl,b,E,_,off,rfl,u4.trans e3,⟨fz,EY,efz.imp id fun h=>by simp_all⟩,by omega,fun o ho=>by
               rcases ho with ho | ⟨_,ho⟩
               all_goals grind⟩⟩)
            have DN:=O.slice_off (g:=g.upd r (.slice (some ⟨b,off,none⟩) (es.length+es2.length) cap) (es.length+es2.length) (g.tk r) (g.own r) (g.more b (off+(es.length+es2.length)*HG))) (U:=L (AS h r (.tok HG (es.length+es2.length)))) (cap:=cap) (es:=es++es2) EY HE aa0 (by
             rw[Ac,show new.toArray.toList=new from rfl,p2];exact hrl.mono k2.keeps (fun _ h=>h) (fun _ h=>h.elim)) (fun o ho=>.inr ⟨rfl,by simp_all⟩)
            rw[Ac]at DN;exact⟨_,_,_,_,_,CV,hk,k1,k2,.tok _ r HG _ _ DN HE (by unfold L;rw[A0];simp) (by simp[D.upd,t1]) (by simp[D.upd]) (fun _=>by simp[D.upd])⟩
         .have Yh:cap<es.length+es2.length:=I
          have ha:a=none->cap=0:=by
           rintro rfl
           rcases a3 with ⟨e1,_⟩ | ⟨_,b,_,_,_,e2,_⟩
           .obtain⟨p1,p2,a',c',p3,p4⟩:=o1<;>grind
           simp_all
          obtain⟨nc,rest,r1,r2,r3⟩:=Ie hT w (ty:=ty) ht EC hz (by rw[<-Xe];exact o1) rfl ha ⟨m1,m2,a2,c2,rfl,m4⟩ rfl I Yh q3 q4;have EY:=G3 w.drew (.cells (olds++news++rest).toArray e (0,0)) (b:=w.heap.size) rfl
          obtain⟨k1,k2⟩:=hI.upd r (.tok HG (es.length+es2.length)) (.slice (some ⟨w.heap.size,0,none⟩) (es.length+es2.length) nc) (es.length+es2.length) (g.tk r) (some w.heap.size) (g.more w.heap.size ((es.length+es2.length)*HG))
           (w.drew.alloc (.cells (olds++news++rest).toArray e (0,0))) none
           ⟨rfl,rfl,rfl,by simp_all⟩ (fun k hk' _=>by rw[heap_alloc_old _ _ (by exact hk')];rfl) (fun b' e=>by cases e) (fun _ _ h=>.inl h)
           (fun b' o hs=>hs.elim .inl (fun hs=>.inr ⟨by simp_all,.inl I⟩))
           (fun b' o e=>by cases e) (fun b' _ e=>by simp_all) aa1 (fun _=>⟨rfl,by omega,fun e=>aa0,fun e=>by omega⟩) (fun hg Hq=>by
            obtain⟨u1,u2,u3,u4⟩:=Bn g r (.slice (some ⟨w.heap.size,0,none⟩) (es.length+es2.length) nc) (es.length+es2.length) (g.tk r) (some w.heap.size) (g.more w.heap.size ((es.length+es2.length)*HG));exact⟨u3.trans t1,u2,_,nc,u1,.inr ⟨r2,w.heap.size,e,_,0,rfl,u4,.of EY,by simp_all,fun o ho=>by
             rcases ho with ho | ⟨_,ho⟩
             .have:=hI.slt _ _ ho;omega
             .omega⟩⟩)
          have DN:=O.slice_row (g:=g.upd r (.slice (some ⟨w.heap.size,0,none⟩) (es.length+es2.length) nc) (es.length+es2.length) (g.tk r) (some w.heap.size) (g.more w.heap.size ((es.length+es2.length)*HG))) (U:=L (AS h r (.tok HG (es.length+es2.length)))) (cap:=nc) (es:=es++es2) EY HE aa0 (by
           rw[Ac,show(olds++news++rest).toArray.toList=olds++news++rest from rfl,JZ (by rw[Ac,o1.1,m1,Xe,Kd])];exact hrl.mono k2.keeps (fun _ h=>h) (fun _ h=>h.elim)) (fun o ho=>.inr ⟨rfl,by simp_all⟩)
          rw[Ac]at DN;exact⟨_,_,_,_,_,r1,hk,k1,k2,.tok _ r HG _ _ DN HE (by grind [L,A0]) (by grind [D.upd]) (by simp[D.upd]) (fun _=>by simp[D.upd])⟩
      simp_all
     simp_all
    .rename_i r n;have ho:=hI.objs r;split at hk
     .rename_i sz es e0;split at hk
      .rename_i Xe;obtain Xe:=A5 Xe;obtain⟨⟨q1,q2,q3,q4⟩,hk⟩:=hk;rw[Xe]at q1;obtain⟨news,n1,n2⟩:=h6 (FM q1);obtain⟨m1,m2,a2,c2,rfl,m4⟩:=n1;obtain⟨hv,olds,o1,o2⟩:=XU hI e0 hs q2.symm;have MC:=ho;rw[e0]at ho;obtain⟨t1,l1,al,a3⟩:=ho;have hl:(h r).live:=by rw[e0];trivial
       subst hv;have HE:∀c∈es++es2,c.length=sz:=fun c hc=>(Bh.1 hc).elim (al c) (fun h=>(FM q1 c h).trans Xe.symm);have hrl:=o2.app n2;rw[<-DQ]at hrl;obtain⟨a,cap,hρ,kD,ha⟩:∃a cap,g.ρ r=.slice a es.length cap/\es.length<=cap/\(a=none->cap=0):=by
        grind
       by_cases hm:es2.length=0
       .obtain rfl:=AI hm;rw[e0]at MC
        obtain⟨k1,k2⟩:=hI.upd r (.arr sz (es++[])) (g.ρ r) (g.ln r) (g.tk r) (g.own r) g.S w none ⟨rfl,rfl,rfl,Af _⟩ (fun _ _ _=>rfl) (fun b e=>by cases e) (fun _ _ h=>h) (fun _ _ h=>.inl h) (fun b o e=>by cases e)
         (fun b _ e=>⟨(hI.loc r b hl e).1,.inl ⟨hl,e⟩⟩) aa1 (fun _=>⟨rfl,Af _,fun _=>rfl,fun _=>rfl⟩) (fun hg Hq=>by
          obtain⟨u1,u2,u3,u4⟩:=Bn g r (g.ρ r) (g.ln r) (g.tk r) (g.own r) g.S;rw[B9];exact MC.same Hq (fun i hi=>DC aa1 i hi) hg u1 u2 u3 u4 (fun b _ _=>⟨rfl,fun _ h=>h⟩))
        refine⟨g.ρ r,w,_,_,_,?_,hk,k1,k2,?_⟩
        .rw[hρ];exact I4 hT w ht EC a a2 es.length cap c2 kD
        grind [O.le]
       .by_cases Kl:es.length+es2.length<=cap
        .rcases a3 with ⟨rfl,e2,e3⟩ | ⟨b,P0,E,DU,e1,e2,e3,e4,e5,e6,e7⟩
         .grind
         .rw[e1]at hρ;simp only[Value.slice.injEq,true_and]at hρ;obtain⟨rfl,rfl⟩:=hρ;rcases m4 with h | ⟨ba,rfl,Hr⟩
          .omega
          .obtain⟨i,z,i1,i2,i3,i4,i5⟩:=HQ hT EC;have dw:(es.length+es2.length)*sz<=P0*sz:=A6 _ Kl;have hm1:news.length=es2.length*sz:=aa0
           have AbD:i.size=sz:=i3.trans Xe.symm;have CV:=SD (P:=P) t ty e i (hT.slice ht) i1 b es.length P0 DU e4 ba es2.length c2 news aa0 Hr m2 Kl aa2;rw[AbD]at CV;have Hs:∀j u,olds[j]?=some u->w.cell? ⟨b,j,none⟩=some u:=by
            obtain⟨p1,p2,a',c',p3,p4⟩:=o1<;>grind [Addr.add_lit]
           obtain⟨p1,p2,p3⟩:=tV e4 e5 e3 Kl hm1 o1.1 Hs;generalize hnewd:DU.toList.take (es.length*sz)++news++DU.toList.drop (es.length*sz+news.length)=new at CV p1 p2 p3;have EY:=setRow_heap w b DU new.toArray E (0,0) e4;have wJ:=(hI.loc r b hl e2).1
           obtain⟨k1,k2⟩:=hI.upd r (.arr sz (es++es2)) (.slice (some ⟨b,0,none⟩) (es.length+es2.length) P0) (es.length+es2.length) (g.tk r) (g.own r) g.S (w.setRow b new.toArray) (some b)
            ⟨rfl,rfl,rfl,by simp_all⟩ (fun k _ Ec=>setRow_other w b k _ (fun e=>Ec (by rw[e]))) (fun b' e=>by simp_all) (fun _ _ h=>h) (fun _ _ h=>.inl h)
            (fun b' o e hs=>by simp_all) (fun b' _ e=>by
             simp_all) aa1 (fun _=>⟨rfl,by omega,fun e=>aa0,fun e=>by omega⟩) (fun hg Hq=>by
             obtain⟨u1,u2,u3,u4⟩:=Bn g r (.slice (some ⟨b,0,none⟩) (es.length+es2.length) P0) (es.length+es2.length) (g.tk r) (g.own r) g.S;refine⟨u3.trans t1,by simp_all,HE,.inr ⟨b,P0,E,_,by simp_all,u4.trans e2,by simp_all,EY,by omega,?_,e7⟩⟩;rw[Ac,show new.toArray.toList=new from rfl,p2];exact hrl.mono Hq (fun _ h=>h) (fun _ h=>h.elim))
           rw[e1];exact⟨_,_,_,_,_,CV,hk,k1,k2,.msl _ r _ _ _ (by unfold L;rw[A0];simp) (by simp[D.upd,t1]) (by simp[D.upd]) (.inr ⟨_,rfl⟩) (fun _=>by simp[D.upd])⟩
        .have Yh:cap<es.length+es2.length:=I
         obtain⟨nc,rest,r1,r2,r3⟩:=Ie hT w (ty:=ty) ht EC hz (by rw[<-Xe];exact o1) hρ ha ⟨m1,m2,a2,c2,rfl,m4⟩ rfl I Yh q3 q4;have EY:=G3 w.drew (.cells (olds++news++rest).toArray e (0,0)) (b:=w.heap.size) rfl
         obtain⟨k1,k2⟩:=hI.upd r (.arr sz (es++es2)) (.slice (some ⟨w.heap.size,0,none⟩) (es.length+es2.length) nc) (es.length+es2.length) (g.tk r) (some w.heap.size) g.S
          (w.drew.alloc (.cells (olds++news++rest).toArray e (0,0))) none
          ⟨rfl,rfl,rfl,by simp_all⟩ (fun k hk' _=>by rw[heap_alloc_old _ _ (by exact hk')];rfl) (fun b' e=>by cases e) (fun _ _ h=>h) (fun _ _ h=>.inl h)
          (fun b' o e=>by cases e) (fun b' _ e=>by simp_all) aa1 (fun _=>⟨rfl,by omega,fun e=>aa0,fun e=>by omega⟩) (fun hg Hq=>by
           obtain⟨u1,u2,u3,u4⟩:=Bn g r (.slice (some ⟨w.heap.size,0,none⟩) (es.length+es2.length) nc) (es.length+es2.length) (g.tk r) (some w.heap.size) g.S;refine⟨u3.trans t1,by simp_all,HE,.inr ⟨w.heap.size,nc,e,_,by simp_all,u4,by simp_all,EY,by simp_all,?_,fun o ho=>by have:=hI.slt _ _ ho;omega⟩⟩;rw[Ac,show(olds++news++rest).toArray.toList=olds++news++rest from rfl,JZ (by rw[Ac,o1.1,m1,Xe,Kd])];exact hrl.mono Hq (fun _ h=>h) (fun _ h=>h.elim))
         exact⟨_,_,_,_,_,r1,hk,k1,k2,.msl _ r _ _ _ (by grind [L,A0]) (by grind [D.upd]) (by simp[D.upd]) (.inr ⟨_,rfl⟩) (fun _=>by simp[D.upd])⟩
      simp_all
     simp_all
    simp_all
 simp_all
theorem m6(hT:B8 P cx.T){d:Option Nat}{s t:Nat}(hx:O g w (L h) x vx)(hk:gV cx d h s t x K):OS P w0 g0 h0 h g w (convert s t vx) K:=by
 unfold gV at hk;split at hk
 .rename_i e b hs ht;split at hk
  .rename_i d he;generalize KA cx d=d1 at hk;split at hk
   .rename_i hd;obtain rfl:=hx.v_eq;have CV:=run_bytes_of_string (P:=P) w s t e b (hT.string hs) (hT.slice ht) (hT.int he);have Pf:b.size<=grownCap w b.size 0 e:=grownCap_ge w b.size 0 e;generalize grownCap w b.size 0 e=cap at CV Pf;have CN:(Lz b).length=b.size:=by
     simp_all
    have hbl:b.data.toList.length=b.size:=aa0
    have pU:(bytesRow b cap).size=cap:=by
     show(b.data.map _++Array.replicate _ _).size=cap;simp_all
    have htk:(bytesRow b cap).toList.take ((Lz b).length*1)=b.data.toList.map fun c=>Value.int .u8 c.toNat:=by
     show(b.data.map _++Array.replicate _ _).toList.take _=_;simp_all
    have hfl:(Lz b).flatten=(b.data.toList.map fun c=>Value.int .u8 c.toNat).map AV.v:=by
     rw[Bo]
     have:∀l:List UInt8,(l.map fun c=>[AV.v (.int .u8 c.toNat)]).flatten=l.map (AV.v ∘ fun c=>Value.int .u8 c.toNat):=fun l=>by
      induction l<;>simp_all
     simp_all
    have IZ:∀l:List UInt8,HP ((l.map fun c=>Value.int .u8 c.toNat).map AV.v)=true:=fun l=>by
     induction l with
     |nil=>rfl
     |cons c l ih=>exact ih
    have hr:Cg g w DS (Lz b).flatten ((bytesRow b cap).toList.take ((Lz b).length*1)):=by
     grind [Cg.vals]
    have hl:∀cs∈Lz b,cs.length=1:=fun cs hc=>by grind
    generalize bytesRow b cap=vs at CV pU hr;rw[<-CN]at CV Pf;generalize Lz b=es at *
    have EY:(w.drew.alloc (.cells vs e (vs.size,vs.size+1))).heap[w.heap.size]?=some (.cells vs e (vs.size,vs.size+1)):=G3 w.drew _ rfl
    have wP:=hI.upd d1 (.tok 1 es.length) (.slice (some ⟨w.heap.size,0,none⟩) es.length cap) es.length true (some w.heap.size) (g.more w.heap.size (es.length*1)) (w.drew.alloc (.cells vs e (vs.size,vs.size+1))) none
     ⟨rfl,rfl,rfl,by simp_all⟩ (fun k hk' _=>by rw[heap_alloc_old _ _ (by exact hk')];rfl) (fun b e=>by cases e) (fun _ _ h=>.inl h)
     (fun b o hb=>by
      rcases hb with hb | ⟨rfl,_⟩<;>simp_all) (fun b o e=>by cases e)
     (fun b _ e=>by simp_all) aa1 (fun hu=>absurd hd hu) (fun hg Hq=>by
      obtain⟨u1,u2,u3,u4⟩:=Bn g d1 (.slice (some ⟨w.heap.size,0,none⟩) es.length cap) es.length true (some w.heap.size) (g.more w.heap.size (es.length*1));exact⟨u3,u2,_,cap,u1,.inr ⟨Pf,w.heap.size,e,vs,0,rfl,u4,⟨_,EY,.inr (Af _)⟩,by omega,fun o ho=>by
       rcases ho with ho | ⟨_,ho⟩
       .have:=hI.slt _ _ ho;omega
       .omega⟩⟩)
    obtain⟨k1,k2⟩:=wP;refine⟨_,_,_,_,_,CV,hk,k1,k2,.tok _ d1 1 es _ (O.slice_row EY hl Pf (hr.mono k2.keeps (fun _ h=>h) (fun _ h=>h.elim)) (fun o ho=>.inr ⟨rfl,ho⟩)) hl (by grind [L,A0]) ?_ ?_ ?_⟩<;>simp[D.upd]
   simp_all
  simp_all
 grind [Bm.does,cD]
end
section
variable {P:Program}{w0:World}{g0:D}{h0 h:Nat->HO}{g:D}{w:World}(hI:CH w0 g0 h0 h g w)
include hI
theorem Pt{d sz n:Nat}(hd:h d=.free)(hl:∀c∈es,c.length=sz)(hn:es.length=n)(hr:O g w DS (.slice .none es) (.slice a n n)) :
  ∃g',CH w0 g0 h0 (AS h d (.tok sz n)) g' w/\Le h g w (AS h d (.tok sz n)) g' w/\O g' w (L (AS h d (.tok sz n))) (.slice (.id d sz) es) (.slice a n n):=by
 obtain⟨k1,k2⟩:=hI.upd d (.tok sz n) (.slice a n n) n true none g.S w none ⟨rfl,rfl,rfl,Af _⟩ (fun _ _ _=>rfl) (fun b e=>by cases e) (fun _ _ h=>h) (fun _ _ h=>.inl h) (fun b o e=>by cases e) (fun b _ e=>by cases e) aa1
  (fun hu=>absurd hd hu) (fun _ _=>by
   obtain⟨u1,u2,u3,u4⟩:=Bn g d (.slice a n n) n true none g.S;exact⟨u3,u2,a,n,u1,.inl ⟨rfl,u4⟩⟩)
 exact⟨_,k1,k2,.tok _ d sz es _ (((hr.up (L h)).le k2)) hl (by unfold L;rw[A0];simp) (by simp[D.upd]) (by simp[D.upd,hn]) (fun _=>by simp[D.upd])⟩
theorem gH{d:Option Nat}(hx:O g w (L h) x vx)(hk:PX cx d h x K):∃g' av h',K av h'/\CH w0 g0 h0 h' g' w/\Le h g w h' g' w/\O g' w (L h') av vx:=by
 have plain:K x h->∃g' av h',K av h'/\CH w0 g0 h0 h' g' w/\Le h g w h' g' w/\O g' w (L h') av vx:=fun hk=>⟨g,x,h,hk,hI,.refl _ _ _,hx⟩;unfold PX at hk;split at hk
 .simp_all
 .rename_i d;split at hk
  .rename_i sz _;split at hk
   .refine⟨g,unT x,h,hk,hI,.refl _ _ _,?_⟩;cases x with
    |slice tk es=>exact(O.slice_none hx).up _
    |_=>exact hx
   .split at hk
    .split at hk
     .rename_i hd;obtain rfl:=hx.v_eq;obtain⟨g',k1,k2,k3⟩:=Pt hI (sz:=sz) (es:=[]) (a:=none) hd aa1 rfl (.snil _ _ _)<;>grind
     simp_all
    simp_all
  .split at hk
   .rename_i sz _;split at hk
    .split at hk
     .rename_i hd;obtain rfl:=hx.v_eq
      obtain⟨k1,k2⟩:=hI.upd d (.arr sz []) (.slice none 0 0) 0 true none g.S w none ⟨rfl,rfl,rfl,Af _⟩ (fun _ _ _=>rfl) (fun b e=>by cases e) (fun _ _ h=>h) (fun _ _ h=>.inl h) (fun b o e=>by cases e) (fun b _ e=>by cases e) aa1
       (fun hu=>absurd hd hu) (fun _ _=>by
        obtain⟨u1,u2,u3,u4⟩:=Bn g d (.slice none 0 0) 0 true none g.S;exact⟨u3,u2,by simp,.inl ⟨rfl,u1,u4⟩⟩)
      exact⟨_,_,_,hk,k1,k2,.msl _ d 0 none 0 (by unfold L;rw[A0];simp) (by simp[D.upd]) (Ai _) (.inl rfl) (fun _=>by simp[D.upd])⟩
     simp_all
    simp_all
   simp_all
theorem dS{mku:List Nat}{d:Option Nat}{ty:Nat}(hk:La T mku d h ty K):OS P w0 g0 h0 h g w (Instr.makeMap ty none) K:=by
 unfold La at hk;split at hk
 .simp_all
 .rename_i d;split at hk
  .rename_i hd;split at hk
   .split at hk
    .rename_i sh _;split at hk
     .obtain⟨k1,k2⟩:=hI.newOwn hd (.mapU sh []) (.map #[] 0) (.map (some w.heap.size)) 0 false w ⟨rfl,rfl,rfl,rfl⟩ aa1 (fun hg Hq=>by
       obtain⟨u1,u2,u3,u4⟩:=Bn g d (.map (some w.heap.size)) 0 false (some w.heap.size) g.S;exact⟨u3,w.heap.size,#[],0,u4,u1,G3 w _ rfl,⟨rfl,by simp,by simp,by simp,by simp,by simp⟩,by simp,fun o ho=>by have:=hI.slt _ _ ho;omega⟩)
      refine⟨_,_,_,_,_,?_,hk,k1,k2,.mref _ d w.heap.size (by grind [L,A0]) ?_ ?_⟩
      .simp[Instr.makeMap]
      all_goals grind [D.upd]
     .obtain⟨k1,k2⟩:=hI.newOwn hd (.map sh []) (.map #[] 0) (.map (some w.heap.size)) 0 false w ⟨rfl,rfl,rfl,rfl⟩ aa1 (fun hg Hq=>by
       obtain⟨u1,u2,u3,u4⟩:=Bn g d (.map (some w.heap.size)) 0 false (some w.heap.size) g.S;exact⟨u3,w.heap.size,#[],0,u4,u1,G3 w _ rfl,⟨rfl,by simp,by simp,by simp,by simp,by simp⟩,by simp,fun o ho=>by have:=hI.slt _ _ ho;omega⟩)
      refine⟨_,_,_,_,_,?_,hk,k1,k2,.mref _ d w.heap.size (by grind [L,A0]) ?_ ?_⟩
      .simp[Instr.makeMap]
      all_goals grind [D.upd]
    simp_all
   simp_all
  simp_all
omit hI in
theorem O.sub{sz l m:Nat}{x:Value}{n cap:Nat}(hr:O g w DS (.slice .none es) x)(hx:x=.slice a n cap)(hl:∀c∈es,c.length=sz)(h1:l<=m)(h2:m<=es.length)(c' : Nat)(hc:m-l<=c')(a' : Option Addr)(ha:a'=a.map (·.add (l*sz))\/(m=l/\a'=a)):O g w DS (.slice .none ((es.take m).drop l)) (.slice a' (m-l) c'):=by
 subst hx;have CN:((es.take m).drop l).length=m-l:=aa0
 by_cases h0:m-l=0
 .grind [snil]
 .cases hr with
  |snil=>simp_all
  |slice _ _ b off HG cap val hc' RV Dj DN=>
   have hz:HG=sz:=by
    have:(0:Nat)<es.length:=I
    have h3:=RV 0 es[0] (AC this);simp_all
   subst hz;have ha' : a'=some ⟨b,off+l*HG,none⟩:=by
    grind [Addr.add_lit]
   subst ha';rw[<-CN];have FA:∀(i:Nat) (cs:List AV),((es.take m).drop l)[i]?=some cs->es[l+i]?=some cs:=fun i cs h=>by
    grind
   refine .slice _ _ b (off+l*HG) HG c' (fun i j=>val (l+i) j) I (fun i cs h=>RV _ _ (FA i cs h)) (fun i cs j av h1 h2=>?_) (fun i cs j av h1 h2=>DN _ _ _ _ (FA i cs h1) h2)
   grind
omit hI in
theorem Li{t:Nat->AV}(ht:∀x:Operand,O g w (L h) (ev t x) (ρ x)){o:Option Operand}{i:Option Int}(hk:CE t o=some i):o.map ρ=i.map fun n=>.int .i64 n:=by
 cases o<;>grind [CE,O.v_eq]
omit hI in
theorem WH(b:Bool)(len cap:Nat)(lo hi mx:Option Int)(zJ:mx=none\/hi≠none)(h0:0<=lo.getD 0)(h1:lo.getD 0<=hi.getD len)(h2:hi.getD len<=mx.getD cap)(h3:mx.getD cap<=cap) :
  (Instr.sliceBounds b len cap (lo.map fun n=>.int .i64 n) (hi.map fun n=>.int .i64 n) (mx.map fun n=>.int .i64 n)).run P w=.ok ((lo.getD 0).toNat,(hi.getD len).toNat,(mx.getD cap).toNat) w:=by
 have e1:∀n:Int,0<=n->(n.toNat:Int)=n:=fun n hn=>Int.toNat_of_nonneg hn;cases mx with
 |none=>
  cases hi with
  |none=>
   cases lo with
   |none=>simp[Instr.sliceBounds]
   |some l=>
    simp only[EX,UU]at h0 h1 h2;simp[Instr.sliceBounds,run_sliceBound,h0,h1]
  |some hh=>
   simp only[EX,UU]at h1 h2;have hh0:0<=hh:=I
   cases lo with
   |none=>simp[Instr.sliceBounds,run_sliceBound,hh0,h2]
   |some l=>
    simp only[EX]at h0 h1;simp[Instr.sliceBounds,run_sliceBound,h0,h1,h2,hh0,e1]
 |some m=>
  cases hi with
  |none=>simp_all
  |some hh=>
   simp only[EX]at h1 h2 h3;have hh0:0<=hh:=I
   have hm0:0<=m:=I
   cases lo with
   |none=>simp[Instr.sliceBounds,run_sliceBound,h2,h3,hh0,hm0,e1]
   |some l=>
    simp only[EX]at h0 h1;simp[Instr.sliceBounds,run_sliceBound,h0,h1,h2,h3,hh0,hm0,e1]
omit hI in
theorem Fj(hT:B8 P T){ty e k:Nat}(ht:(T ty).d=.slice e)(hk:(T e).size=k+1)(a:Option Addr)(len cap:Nat)(lo hi mx:Option Int)(zJ:mx=none\/hi≠none)(h0:0<=lo.getD 0)(h1:lo.getD 0<=hi.getD len)(h2:hi.getD len<=mx.getD cap)(h3:mx.getD cap<=cap) :
  (Instr.sliceAt ty (.slice a len cap) (lo.map fun n=>.int .i64 n) (hi.map fun n=>.int .i64 n) (mx.map fun n=>.int .i64 n)).run P w =
   .ok (.slice (if(mx.getD cap).toNat=(lo.getD 0).toNat then a else a.map (·.add ((lo.getD 0).toNat*(T e).size))) ((hi.getD len).toNat-(lo.getD 0).toNat) ((mx.getD cap).toNat-(lo.getD 0).toNat)) w:=by
 have hu:=hT.slice ht;have hb:=WH (P:=P) (w:=w) true len cap lo hi mx zJ h0 h1 h2 h3;simp only[Instr.sliceAt,Sem.run_bind,run_underlying hu,Result.andThen_ok,Instr.slice,hb,hT.size1 w hk,Sem.run_pure];rw[hk]
theorem CH.moveO(r r2:Nat)(Ec:r2≠r)(hf:h r2=.free)(hl:(h r).live){ob:Option Nat}(ho:∀c,ob=some c->g.own r=some c)(o' : HO)(x:Value)(n:Nat)(t:Bool)(hn:o'≠.free)
  (MC:D8 g w (g.upd r2 x n t ob g.S) w->DE (g.upd r2 x n t ob g.S) w (L (AS (AS h r .dead) r2 o')) r2 o') :
  CH w0 g0 h0 (AS (AS h r .dead) r2 o') (g.upd r2 x n t ob g.S) w/\Le h g w (AS (AS h r .dead) r2 o') (g.upd r2 x n t ob g.S) w:=by
 have rk:JA g (g.upd r2 x n t ob g.S) (L h):=by
  intro i hi;have e:i≠r2:=fun e=>hi aa0
  grind [D.upd]
 have hK:D8 g w (g.upd r2 x n t ob g.S) w:=fun b o hb=>⟨hb,rfl,fun _ _ h=>h⟩;have Na:∀i,L h i->L (AS (AS h r .dead) r2 o') i:=fun i hi=>DC hn i (DC aa1 i hi);have key:∀i,i≠r2->(AS (AS h r .dead) r2 o' i).live->i≠r/\(h i).live:=fun i h2 hl=>by
  rw[BS _ _ _ _ h2]at hl
  by_cases e:i=r
  .subst e;rw[A0]at hl;exact hl.elim
  grind [BS]
 have own:∀i,i≠r2->(g.upd r2 x n t ob g.S).own i=g.own i:=fun i e=>by simp[D.upd,e]
 have tg:(g.upd r2 x n t ob g.S).own r2=ob:=by simp[D.upd]
 refine⟨⟨hI.os,hI.tape,hI.output,hI.size,hI.frame,hI.slt,fun i=>?_,fun i j c hi hj ei ej=>?_,fun i c hi ei=>?_,hI.sg,hI.glob.keep hK⟩,rk,Na,hK⟩
 .by_cases e:i=r2
  .grind [A0]
  .rw[BS _ _ _ _ e]
   by_cases e1:i=r
   .subst e1;rw[A0];trivial
   .rw[BS _ _ _ _ e1];exact(hI.objs i).same hK Na rk (by simp[D.upd,e]) (by simp[D.upd,e]) (by simp[D.upd,e]) aa0 (fun b hl hb=>⟨rfl,fun k hk=>hk⟩)
 .grind [CH.inj]
 .by_cases e1:i=r2
  .subst e1;rw[tg]at ei;exact hI.loc r _ hl (ho _ ei)
  .rw[own i e1]at ei;exact hI.loc i c (key i e1 hi).2 ei
theorem fA(hT:B8 P cx.T){d:Option Nat}{ty:Nat}{t:Nat->AV}(ht:∀x:Operand,O g w (L h) (ev t x) (ρ x)){lo mx:Option Operand}(hx:O g w (L h) x vx)(hk:WB cx d h ty x (CE t lo) hi mx K):OS P w0 g0 h0 h g w (Instr.sliceAt ty vx (lo.map ρ) (hi.map ρ) (mx.map ρ)) K:=by
 unfold WB at hk;split at hk
 .rename_i d Ik e1;rw[Li ht e1];split at hk
  .rename_i e hs;split at hk
   .simp_all
   .rename_i k EC;split at hk
    .rename_i r sz es;split at hk
     .rename_i HG n e0;split at hk
      .rename_i hd;split at hk
       .rename_i q1 q2;obtain rfl:=A5 q1;have q2:=A5 q2;obtain⟨⟨rfl,h1,h2⟩,hk⟩:=hk;have hl:(h r).live:=by rw[e0];trivial
        have Ec:KA cx d≠r:=fun e=>by simp_all
        have ho:=hI.objs r;rw[e0]at ho;obtain⟨t1,l1,a,cap,a1,a3⟩:=ho;have hr:=hx.slice_none;cases hx with
        |tok _ _ _ _ _ hr0 wY hu ht' hn Uh=>
         have hv:=Uh l1.symm;rw[a1]at hv;subst hv;have kD:es.length<=cap:=I
         have CV:=Fj (P:=P) (w:=w) hT hs EC a es.length cap (some Ik) none none (.inl rfl) h1 h2 aa0 aa1;simp only[EX,UU,Gp]at CV;have CN:(es.drop Ik.toNat).length=es.length-Ik.toNat:=GV;have xi:=O.sub (c':=cap-Ik.toNat) hr rfl wY (l:=Ik.toNat) (m:=es.length) I (Af _) I (if cap=Ik.toNat then a else a.map (·.add (Ik.toNat*(cx.T e).size))) (by
          grind)
         rw[IV]at xi
         have fin:∀ob:Option Nat,(∀c,ob=some c->g.own r=some c)->(es.length-Ik.toNat=cap-Ik.toNat/\ob=none\/es.length-Ik.toNat<=cap-Ik.toNat/\∃b E vs off,(if cap=Ik.toNat then a else a.map (·.add (Ik.toNat*(cx.T e).size)))=some ⟨b,off,none⟩/\ob=some b/\Tg w b vs E/\vs.size=off+(cap-Ik.toNat)*HG/\∀o,g.S b o->o<off+(es.length-Ik.toNat)*HG) ->
           OS P w0 g0 h0 h g w (Instr.sliceAt ty (.slice a es.length cap) ((some Ik).map fun n=>.int .i64 n) ((none:Option Operand).map ρ) ((none:Option Operand).map ρ)) K:=fun ob ho vo=>by
          obtain⟨k1,k2⟩:=hI.moveO r (KA cx d) Ec hd hl ho (.tok HG (es.drop Ik.toNat).length) (.slice (if cap=Ik.toNat then a else a.map (·.add (Ik.toNat*(cx.T e).size))) (es.length-Ik.toNat) (cap-Ik.toNat)) (es.length-Ik.toNat) true aa1 (fun Hq=>by
           obtain⟨u1,u2,u3,u4⟩:=Bn g (KA cx d) (.slice (if cap=Ik.toNat then a else a.map (·.add (Ik.toNat*(cx.T e).size))) (es.length-Ik.toNat) (cap-Ik.toNat)) (es.length-Ik.toNat) true ob g.S;refine⟨u3,u2.trans CN.symm,_,_,by rw[CN];exact u1,?_⟩;rw[CN,u4];exact vo)
          exact⟨_,w,_,_,_,CV,hk,k1,k2,.tok _ _ _ _ _ (((xi.mono k2.keeps (fun _ h=>h) (fun _ h=>h.elim))).up _) (fun c hc=>wY c (IF hc)) (by grind [L,A0]) (by simp[D.upd]) (by simp[D.upd]) (fun _=>by simp[D.upd])⟩
         rcases a3 with ⟨e1,e2⟩ | ⟨e1,b,E,vs,off,rfl,e3,e4,e5,e6⟩
         .exact fin none (fun c h=>by cases h) (.inl ⟨by omega,rfl⟩)
         .by_cases hc:cap=Ik.toNat
          .exact fin none (fun c h=>by cases h) (.inl ⟨by omega,rfl⟩)
          .refine fin (some b) (fun c h=>by simp_all) (.inr ⟨by omega,b,E,vs,off+Ik.toNat*HG,?_,rfl,e4,?_,fun o ho=>?_⟩)
           .grind [Addr.add_lit]
           .rw[e5,Nat.sub_mul]
            have:=A6 HG (show Ik.toNat<=cap by omega)
            omega
           grind [Nat.sub_mul]
       simp_all
      simp_all
     simp_all
    simp_all
  simp_all
 simp_all
omit hI in
theorem Vv{sz:Nat}:∀{es:C0},(∀cs∈es,cs.length=sz)->∀k,(es.take k).flatten=es.flatten.take (k*sz)
 | [],_,k=>by simp
 |c::es,hl,0=>by simp
 |c::es,hl,k+1=>by
  have h1:=hl c (Ad ..);have h2:c.length<=k*sz+sz:=I
  rw[List.take_succ_cons,BQ,BQ,Vv (fun x hx=>hl x (Aj _ hx)) k,List.take_append,h1,Nat.succ_mul,
   AD h2,show k*sz+sz-sz=k*sz by omega]
omit hI in
theorem Cg.takeE{U:Nat->Prop}{sz k:Nat}{vs:Ap3}(hl:∀cs∈es,cs.length=sz)(hk:k<=es.length)(h:Cg g w U es.flatten (vs.take (es.length*sz))):Cg g w U (es.take k).flatten (vs.take (k*sz)):=by
 have e:vs.take (k*sz)=(vs.take (es.length*sz)).take (k*sz):=by
  grind [Nat.mul_le_mul_right]
 rw[Vv hl,e];refine⟨by rw[Bf (l:=vs.take (es.length*sz)),h.1,Bf],fun x hx=>h.2.1 x (Fe hx),fun i av x q1 q2=>?_⟩;have hi:i<k*sz:=by
  grind
 rw[List.getElem?_take,AO hi]at q1 q2;exact h.2.2 i av x q1 q2
theorem lG(hT:B8 P cx.T){d:Option Nat}{ty:Nat}{t:Nat->AV}(ht:∀x:Operand,O g w (L h) (ev t x) (ρ x))(hx:O g w (L h) x vx)(hk:tA cx d h ty x (CE t hi) K):OS P w0 g0 h0 h g w (Instr.sliceAt ty vx none (hi.map ρ) none) K:=by
 unfold tA at hk;split at hk
 .rename_i d Oi e1;rw[Li ht e1];split at hk
  .rename_i e hs;split at hk
   .simp_all
   .rename_i k EC;split at hk
    .rename_i r n;split at hk
     .rename_i sz es e0;split at hk
      .rename_i hd;split at hk
       .rename_i q1 q3;have q1:=A5 q1;obtain⟨⟨rfl,h1,h2⟩,hk⟩:=hk;have hl:(h r).live:=by rw[e0];trivial
        have Ec:KA cx d≠r:=fun e=>by simp_all
        have ho:=hI.objs r;rw[e0]at ho;obtain⟨t1,l1,al,a2⟩:=ho;have CN:(es.take Oi.toNat).length=Oi.toNat:=aa0
        cases hx with
        |msl _ _ _ a cap hu ht' nI ha Uh=>
         have hv:=Uh l1.symm;have Pf:es.length<=cap:=by
          grind
         have CV:=Fj (P:=P) (w:=w) hT hs EC a es.length cap none (some Oi) none (.inl rfl) aa1 aa0 aa2 aa1;have TL:(if cap-(0:Nat)=0 then a else a.map (·.add (0*(cx.T e).size)))=a:=by
          grind [Addr.add]
         simp only[EX,UU,Gp,Int.toNat_zero,Nat.sub_zero]at CV TL;have key:∃a',(Instr.sliceAt ty (.slice a es.length cap) ((none:Option Int).map fun n=>.int .i64 n) ((some Oi).map fun n=>.int .i64 n) ((none:Option Int).map fun n=>.int .i64 n)).run P w=.ok (.slice a' Oi.toNat cap) w/\(a'=a):=⟨_,CV,by omega⟩;obtain⟨a',CV,rfl⟩:=key;have hval:O (g.upd (KA cx d) (.slice a' Oi.toNat cap) Oi.toNat true (g.own r) g.S) w (L (AS (AS h r .dead) (KA cx d) (.arr sz (es.take Oi.toNat)))) (.msl (KA cx d) Oi.toNat) (.slice a' Oi.toNat cap):=
          .msl _ _ _ _ _ (by grind [L,A0]) (by simp[D.upd]) (by simp[D.upd]) (ha.elim (fun e=>.inl I) .inr) (fun _=>by simp[D.upd])
         obtain⟨k1,k2⟩:=hI.moveO r (KA cx d) Ec hd hl (ob:=g.own r) (fun c h=>h) (.arr sz (es.take Oi.toNat)) (.slice a' Oi.toNat cap) Oi.toNat true aa1 (fun Hq=>by
          obtain⟨u1,u2,u3,u4⟩:=Bn g (KA cx d) (.slice a' Oi.toNat cap) Oi.toNat true (g.own r) g.S;refine⟨u3,u2.trans CN.symm,fun c hc=>al c (Fe hc),?_⟩;rcases a2 with ⟨b1,b2,b3⟩ | ⟨b,P0,E,vs,b1,b2,b3,b4,b5,b6,b7⟩
          .simp_all
          .rw[b1]at hv;cases hv;refine .inr ⟨b,cap,E,vs,by simp_all,u4.trans b2,by omega,b4,b5,?_,b7⟩;rw[CN];exact(Cg.takeE al I b6).mono Hq (fun _ h=>h) (fun _ h=>h.elim))
         exact⟨_,w,_,_,_,CV,hk,k1,k2,hval⟩
       simp_all
      simp_all
     simp_all
    simp_all
  simp_all
 simp_all
theorem Zo(hT:B8 P cx.T){d:Option Nat}{ty:Nat}{t:Nat->AV}(ht:∀x:Operand,O g w (L h) (ev t x) (ρ x)){lo mx:Option Operand}(hx:O g w (L h) x vx)(hk:Ix cx d h ty x (CE t lo) (CE t hi) (CE t mx) K):OS P w0 g0 h0 h g w (Instr.sliceAt ty vx (lo.map ρ) (hi.map ρ) (mx.map ρ)) K:=by
 unfold Ix at hk;split at hk
 .rename_i Ik Oi z7 e1 e2 e3;rw[Li ht e1,Li ht e2,Li ht e3];split at hk
  .rename_i hs;split at hk
   .rename_i s;obtain⟨⟨h1,h2,h3⟩,hk⟩:=hk;obtain rfl:=hx.v_eq;have hb:=WH (P:=P) (w:=w) false s.size s.size Ik Oi none (.inl rfl) h1 h2 aa0 aa1;refine(Bm.val (x:=.string (s.extract (Ik.getD 0).toNat (Oi.getD s.size).toNat)) ?_ hk).does hI;simp only[Instr.sliceAt,Sem.run_bind,run_underlying (hT.string hs),Result.andThen_ok,Instr.slice];simp_all
   simp_all
  .rename_i e hs;split at hk
   .simp_all
   .rename_i k EC;split at hk
    .rename_i tk es;have hr:=hx.slice_none;obtain⟨a,cap,hv,Pf⟩:∃a cap,vx=.slice a es.length cap/\es.length<=cap:=by
      grind [cases O]
     subst hv;split at hk
     .obtain⟨⟨h1,h2,h3⟩,hl,hk⟩:=hk;have CV:=Fj (P:=P) (w:=w) hT hs EC a es.length cap Ik Oi none (.inl rfl) h1 h2 aa2 aa1;refine Bm.does hI ⟨_,_,CV,hk,(O.sub (c':=cap-(Ik.getD 0).toNat) hr rfl hl (l:=(Ik.getD 0).toNat) (m:=(Oi.getD es.length).toNat) I I I _ ?_).up _⟩
      grind
     .rename_i m;split at hk
      .rename_i d hh;split at hk
       .obtain⟨⟨h1,h2,rfl,h3⟩,hl,hk⟩:=hk;have CV:=Fj (P:=P) (w:=w) hT hs EC a es.length cap Ik (some m) (some m) (.inr aa1) h1 h2 aa1 aa2;simp only[EX]at CV;have CN:((es.take m.toNat).drop (Ik.getD 0).toNat).length=m.toNat-(Ik.getD 0).toNat:=aa0
        refine Bm.does hI ⟨_,_,CV,hk,.full _ _ _ _ ((O.sub (c':=m.toNat-(Ik.getD 0).toNat) hr rfl hl (l:=(Ik.getD 0).toNat) (m:=m.toNat) I I I _ ?_).up _) (fun c hc=>hl c (Fe (IF hc))) ⟨_,by rw[CN]⟩⟩
        grind
       split at hk
       .rename_i hd;obtain⟨⟨h1,h2,rfl,h3⟩,hl,hk⟩:=hk;have CV:=Fj (P:=P) (w:=w) hT hs EC a es.length cap Ik (some m) (some m) (.inr aa1) h1 h2 aa1 aa2;simp only[EX]at CV
        obtain⟨g',k1,k2,k3⟩:=Pt hI (sz:=(cx.T e).size) (n:=m.toNat-(Ik.getD 0).toNat) hd (es:=(es.take m.toNat).drop (Ik.getD 0).toNat) (fun c hc=>hl c (Fe (IF hc))) aa0
         (O.sub (c':=m.toNat-(Ik.getD 0).toNat) hr rfl hl (l:=(Ik.getD 0).toNat) (m:=m.toNat) I I I (if m.toNat=(Ik.getD 0).toNat then a else a.map (·.add ((Ik.getD 0).toNat*(cx.T e).size))) (by
          grind))
        exact⟨_,w,g',_,_,CV,hk,k1,k2,k3⟩
       simp_all
      simp_all
    .obtain⟨⟨h1,h2,h3⟩,h4,hk⟩:=hk;obtain rfl:=hx.v_eq;have CV:=Fj (P:=P) (w:=w) hT hs EC none 0 0 Ik Oi z7 h4 I aa0 aa0 aa0
     grind [Bm.does,Bm.val]
    .rename_i r n;split at hk
     .rename_i sz es e0;split at hk
      .rename_i Xe;obtain rfl:=A5 Xe;obtain⟨⟨h1,h2,h3,h4,h5⟩,hk⟩:=hk;have ho:=hI.objs r;rw[e0]at ho;obtain⟨t1,l1,al,a3⟩:=ho;have hl:(h r).live:=by rw[e0];trivial
       have Afk:z7=none\/Oi≠none:=h5.imp id (fun q=>q.2);cases hx with
       |msl _ _ _ a cap hu ht' hn ha Uh=>
        have hv:=Uh (h1.trans l1.symm);subst h1;have zJ:∀c:Nat,es.length<=c->Oi.getD es.length<=z7.getD c/\z7.getD c<=c:=fun c hc=>by
         rcases h5 with h5 | ⟨h5,Ec⟩
         .grind
         .obtain⟨m,hm⟩:=Option.ne_none_iff_exists'.1 Ec<;>grind
        rcases a3 with ⟨rfl,q2,q3⟩ | ⟨b,P0,E,vs,q1,q2,q3,q4,q5,q6,q7⟩
        .rw[q2]at hv;cases hv;have CV:=Fj (P:=P) (w:=w) hT hs EC none 0 0 Ik Oi z7 Afk h2 h3 (zJ 0 aa1).1 (zJ 0 aa1).2
         obtain⟨k1,k2⟩:=hI.upd r .dead (g.ρ r) (g.ln r) (g.tk r) (g.own r) g.S w none ⟨rfl,rfl,rfl,Af _⟩ (fun _ _ _=>rfl) (fun b e=>by cases e) (fun _ _ h=>h) (fun _ _ h=>.inl h) (fun b o e=>by cases e) (fun b hh _=>by cases hh) aa1
          (fun _=>⟨rfl,Af _,fun _=>rfl,fun _=>rfl⟩) (fun _ _=>trivial)
         refine⟨_,w,_,_,_,CV,hk,k1,k2,?_⟩
         grind [O.snil]
        .rw[q1]at hv;cases hv;have CV:=Fj (P:=P) (w:=w) hT hs EC (some ⟨b,0,none⟩) es.length cap Ik Oi z7 Afk h2 h3 (zJ _ q3).1 (zJ _ q3).2;have wJ:=(hI.loc r b hl q2).1
         obtain⟨k1,k2⟩:=hI.upd r .dead (g.ρ r) (g.ln r) (g.tk r) (g.own r) (g.more b (es.length*(cx.T e).size)) w none ⟨rfl,rfl,rfl,Af _⟩ (fun _ _ _=>rfl) (fun b e=>by cases e) (fun _ _ h=>.inl h)
          (fun b' o hs=>hs.elim .inl (fun hs=>.inr ⟨by omega,.inr ⟨hl,by simp_all⟩⟩)) (fun b o e=>by cases e) (fun b hh _=>by cases hh) aa1
          (fun _=>⟨rfl,Af _,fun _=>rfl,fun _=>rfl⟩) (fun _ _=>trivial)
         have DN:=O.slice_row (g:=g.upd r (g.ρ r) (g.ln r) (g.tk r) (g.own r) (g.more b (es.length*(cx.T e).size))) (U:=DS) q4 al q3 (q6.mono k2.keeps (fun _ h=>h) (fun _ h=>h.elim)) (fun o ho=>.inr ⟨rfl,ho⟩);have ApE:=zJ _ q3;refine⟨_,w,_,_,_,CV,hk,k1,k2,(O.sub (c':=(z7.getD cap).toNat-(Ik.getD 0).toNat) DN rfl al (l:=(Ik.getD 0).toNat) (m:=(Oi.getD es.length).toNat) I I I _ ?_).up _⟩
         grind
      simp_all
     simp_all
    simp_all
  simp_all
 simp_all
theorem XA(hT:B8 P cx.T){d:Option Nat}{ty:Nat}{n c:AV}{vn vc:Value}(hn:O g w (L h) n vn)(hc:O g w (L h) c vc)(hk:JO cx d h ty n c K) :
  OS P w0 g0 h0 h g w (Instr.makeSlice ty vn vc) K:=by
 unfold JO at hk;split at hk
 .rename_i e n c hs;obtain rfl:=hn.v_eq;obtain rfl:=hc.v_eq;split at hk
  .rename_i IZ;split at hk
   .rename_i kO;have kO:=A5 kO;split at hk
    .simp_all
    .rename_i k EC;obtain⟨⟨h1,h2,h3,h4⟩,hk⟩:=hk;obtain⟨i,z,i1,i2,i3,i4,i5⟩:=HQ hT EC;have hz0:(cx.T e).zc≠[]:=fun e0=>by simp_all
     have wn:IntKind.i64.wrap n=n:=Od ⟨by omega,by omega⟩;have wc:IntKind.i64.wrap c=c:=Od ⟨by omega,by omega⟩;have HE:∀l:List AV,(∀a∈l,one a=true)->HP l=true:=by
      intro l
      induction l<;>grind [HP]
     have Hh:((Array.range (c.toNat*(cx.T e).size)).map fun k=>z.cells[k % z.cells.size]!).toList=(List.replicate c.toNat (cx.T e).zc).flatten:=by
      rw[Ks c.toNat _ hz0,kO,i5];have e6:z.cells.size=(cx.T e).size:=aa0
      simp[e6,Array.getElem!_eq_getD]
     have hzs:(cx.T e).zc.length=(cx.T e).size:=kO;have hlr:∀c'∈List.replicate c.toNat (cx.T e).zc,c'.length=(cx.T e).size:=fun c' hc=>by simp_all
     have Akf : ∀c'∈List.replicate n.toNat ((cx.T e).zc.map AV.v),c'.length=(cx.T e).size:=fun c' hc=>by simp_all
     have Apy:∀c'∈List.replicate n.toNat (cx.T e).zc,c'.length=(cx.T e).size:=fun c' hc=>by simp_all
     obtain⟨g',av,h',q1,q2,q3,q4⟩:=Kq hI hk (vs:=(Array.range (c.toNat*(cx.T e).size)).map fun k=>z.cells[k % z.cells.size]!) (cap:=c.toNat) e Akf aa2 aa1 (by
      rw[Hh,CA];have e1:(List.replicate n.toNat ((cx.T e).zc.map AV.v)).flatten=(List.replicate n.toNat (cx.T e).zc).flatten.map AV.v:=by
       simp_all
      have e2:(List.replicate c.toNat (cx.T e).zc).flatten.take (n.toNat*(cx.T e).size)=(List.replicate n.toNat (cx.T e).zc).flatten:=by
       obtain⟨m,hm⟩:∃m,c.toNat=n.toNat+m:=⟨c.toNat-n.toNat,by omega⟩;rw[hm,<-List.replicate_append_replicate,DQ,JZ aa0]
      grind [Cg.vals,NH]) w ⟨rfl,rfl,rfl,rfl⟩
     rw[CA]at q4;refine⟨_,_,g',av,h',?_,q1,q2,q3,q4⟩;have OA:¬((cx.T e).bytes*c>2 ^ 48):=aa2
     have rx:((decide (c<0)||decide (((cx.T e).bytes:Int)*c>2 ^ 48))||decide (n<0)||decide (n>c))=false:=by
      grind
     simp only[Instr.makeSlice,Sem.run_bind,run_underlying (hT.slice hs),Result.andThen_ok,asInt,asIntOf,Sem.run_pure,typeInfo,run_program,i1,i4,wn,wc,rx,Bool.false_eq_true,if_false,run_askRoom,hT.size1 w EC]
     by_cases hz:c.toNat*(k+1)=0
     .have zA:c.toNat=0:=by
       simp_all
      rw[zA];simp only[Xm,if_true];simp only[show Array.range 0=#[]from rfl,Array.map_empty];simp[newRow]
     .simp only[AB hz,Sem.run_bind,zeroValue,typeInfo,run_program,i1,i2,Result.andThen_ok,Sem.run_pure];rw[EC];simp[newRow]
   simp_all
  simp_all
 simp_all
end
end Go.Eng
