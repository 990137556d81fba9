/- Lemmas for the claims of this seat, without a condition: part 9 (EngR). -/
import Derived.Test.YteaiieomnhbmgaaGreatDoorA08
import Derived.Laws.IdiomStrings
namespace Go.Eng
variable {E:TypeId}{olds:List Value}{vx:Value}{x:AV}{cx:Cx}{K:HK}
theorem CO.app{g:Gh}{w:World}{U:Nat->Prop}{VG bs:List AV}{xs ys:List Value}(h:CO g w U VG xs)(k:CO g w U bs ys):CO g w U (VG++bs) (xs++ys):=by
 refine⟨by simp[h.1,k.1],fun x hx=>(AO.1 hx).elim (h.2.1 x) (k.2.1 x),fun i av x h1 h2=>?_⟩
 by_cases hi:i<VG.length
 .rw[AY hi]at h1;rw[AY (by rw[h.1];exact hi)]at h2;exact h.2.2 i av x h1 h2
 .rw[AZ ch]at h1;rw[AZ (by rw[h.1];omega),h.1]at h2;exact k.2.2 _ av x h1 h2
theorem jw(P:Program)(g o:Nat)(t:TypeId)(fz:Nat×Nat)(vs:List Value):∀(i:Nat) (EC:Array Value) (w:World),w.heap[g]?=some (.cells EC t fz)->(fz=(0,0)\/EC.size<=fz.1)->o+i+vs.length<=EC.size->(∀v∈vs,v.oneCell'=true) ->
  (storeCells ⟨g,o,none⟩ vs i).run P w=.ok () (w.setRow g (EC.toList.take (o+i)++vs++EC.toList.drop (o+i+vs.length)).toArray):=by
 induction vs with
 |nil =>
  intro i EC w hg _ _ _;have e:(EC.toList.take (o+i)++[]++EC.toList.drop (o+i+([]:List Value).length)).toArray=EC:=by simp
  rw[e,setRow_self w g EC t fz hg];rfl
 |cons v rest ih =>
  intro i EC w hg hf hl h1;simp only[Ak]at hl;have hi:o+i<EC.size:=by omega
  have ha:(⟨g,o,none⟩:Addr).add i=⟨g,o+i,none⟩:=Addr.add_lit ..;have hc:w.cell? ⟨g,o+i,none⟩=some EC[o+i]:=by simp[World.cell?,hg,hi]
  have hz:w.frozen? ⟨g,o+i,none⟩=false:=by
   rcases hf with rfl | hf
   .simp[World.frozen?,hg]
   .simp only[World.frozen?,hg,Md,Hq];exact .inl ch
  have h2:(store ((⟨g,o,none⟩:Addr).add i) v).run P w=.ok () (w.setRow g (EC.setIfInBounds (o+i) v)):=by
   rw[ha,run_store P w _ v _ (h1 v (Ab ..)),hc];simp[hz,setCell_eq_setRow w g (o+i) EC t fz v hg]
  have h3:=ih (i+1) (EC.setIfInBounds (o+i) v) (w.setRow g (EC.setIfInBounds (o+i) v)) (setRow_heap w g EC _ t _ hg) (by rw[Array.size_setIfInBounds];exact hf) (by rw[Array.size_setIfInBounds];omega) fun x hx=>h1 x (Ah _ hx);have e:(EC.setIfInBounds (o+i) v).toList.take (o+(i+1))++rest++(EC.setIfInBounds (o+i) v).toList.drop (o+(i+1)+rest.length)=EC.toList.take (o+i)++v::rest++EC.toList.drop (o+i+(v::rest).length):=by
   simpa[Array.toList_setIfInBounds,Nat.add_assoc]using list_seg_step EC.toList (o+i) v rest (by rw[BS];show o+i+(rest.length+1)<=_;omega)
  rw[storeCells,Sem.run_bind,h2,Result.andThen_ok,h3,setRow_setRow,e]
section
variable {P:Program}{w0:World}{g0:Gh}{h0 h:Nat->HO}{g:Gh}{w:World}(hI:DX w0 g0 h0 h g w)
include hI
omit hI in
theorem Rr(t ty e:TypeId)(i:TypeInfo)(ht:P.underlying t=some (.slice e))(hi:P.info? e=some i)(g OM dv:Nat)(EC:Array Value)(hg:w.heap[g]?=some (.cells EC E (0,0)))(a:Addr)(m c:Nat)(news:List Value)(hl:news.length=m*i.size)(Jt:∀j u,news[j]?=some u->w.cell? (a.add j)=some u)(h1:∀u∈news,u.oneCell'=true)(KF:OM+m<=dv)(cA:OM*i.size+news.length<=EC.size) :
  (Builtin.append_ #[t,t] ty #[.slice (some ⟨g,0,none⟩) OM dv,.slice (some a) m c]).run P w =
   .ok (.slice (some ⟨g,0,none⟩) (OM+m) dv) (w.setRow g (EC.toList.take (OM*i.size)++news++EC.toList.drop (OM*i.size+news.length)).toArray):=by
 have hf:=run_firstCells_some (P:=P) w i.size m a m c news hl Jt;have Ku:=run_storeCells_at P g (OM*i.size) E news 0 EC w hg (by simpa using cA) h1;simp only[H1]at Ku;simp[Builtin.append_,run_underlying ht,sizeOf,typeInfo,hi,Builtin.lenOf,KF,hf,Addr.add_lit,Ku]
omit hI in
theorem Vd(t ty e:TypeId)(i:TypeInfo)(ht:P.underlying t=some (.slice e))(hi:P.info? e=some i)(g off OM dv:Nat)(EC:Array Value){fz:Nat×Nat}(hg:w.heap[g]?=some (.cells EC E fz))(hfz:fz=(0,0)\/EC.size<=fz.1)(a:Addr)(m c:Nat)(news:List Value)(hl:news.length=m*i.size)(Jt:∀j u,news[j]?=some u->w.cell? (a.add j)=some u)(h1:∀u∈news,u.oneCell'=true)(KF:OM+m<=dv)(cA:off+OM*i.size+news.length<=EC.size) :
  (Builtin.append_ #[t,t] ty #[.slice (some ⟨g,off,none⟩) OM dv,.slice (some a) m c]).run P w =
   .ok (.slice (some ⟨g,off,none⟩) (OM+m) dv) (w.setRow g (EC.toList.take (off+OM*i.size)++news++EC.toList.drop (off+OM*i.size+news.length)).toArray):=by
 have hf:=run_firstCells_some (P:=P) w i.size m a m c news hl Jt;have Ku:=jw P g (off+OM*i.size) E fz news 0 EC w hg hfz (by simpa using cA) h1;simp only[H1]at Ku;simp[Builtin.append_,run_underlying ht,sizeOf,typeInfo,hi,Builtin.lenOf,KF,hf,Addr.add_lit,Ku]
omit hI in
theorem qw{b off n m sz cap:Nat}{EC:Array Value}{fz:Nat×Nat}{news:List Value}(hb:w.heap[b]?=some (.cells EC E fz))(ZT:EC.size=off+cap*sz)(hn:n<=cap)(hm:n+m<=cap)(hnl:news.length=m*sz)(hol:olds.length=n*sz)(G7:∀j u,olds[j]?=some u->w.cell? ⟨b,off+j,none⟩=some u) :
  (EC.toList.take (off+n*sz)++news++EC.toList.drop (off+n*sz+news.length)).length=off+cap*sz /\
  ((EC.toList.take (off+n*sz)++news++EC.toList.drop (off+n*sz+news.length)).drop off).take ((n+m)*sz)=olds++news /\
  ∀o,o<off+n*sz->(EC.toList.take (off+n*sz)++news++EC.toList.drop (off+n*sz+news.length)).toArray[o]?=EC[o]?:=by
 have hcl:EC.toList.length=off+cap*sz:=by rw[BS];exact ZT
 have Uu:(n+m)*sz<=cap*sz:=Bg _ hm;have lA:n*sz<=cap*sz:=Bg _ hn;rw[Fv]at Uu;have Lq:(EC.toList.take (off+n*sz)).drop off=olds:=by
  apply Do;intro j
  by_cases hj:j<n*sz
  .rw[DP,BR ch];have hx:olds[j]?=some olds[j]:=Ay ch
   have:=G7 j _ hx
   rw[FR hb]at this;rw[A3,this,hx]
  .rw[A6 (by rw[Dc,Av];omega),A6 ch]
 have tK:(EC.toList.take (off+n*sz)).length=off+n*sz:=by rw[Av];omega
 refine⟨?_,?_,fun o ho=>?_⟩
 .rw[Ac,Ac,tK,Dc,hcl,hnl];omega
 .rw[BA,List.drop_append_of_le_length (by rw[tK];omega),Lq,<-BA,FM (by rw[Ac,hol,hnl,Fv])]
 .rw[Gn,BA,AY (by rw[tK];exact ho),BR ho,A3]
omit hI in
theorem m6{b n m sz cap:Nat}{EC:Array Value}{news:List Value}(hb:w.heap[b]?=some (.cells EC E (0,0)))(ZT:EC.size=cap*sz)(hn:n<=cap)(hm:n+m<=cap)(hnl:news.length=m*sz)(hol:olds.length=n*sz)(G7:∀j u,olds[j]?=some u->w.cell? ⟨b,j,none⟩=some u) :
  (EC.toList.take (n*sz)++news++EC.toList.drop (n*sz+news.length)).length=cap*sz /\
  (EC.toList.take (n*sz)++news++EC.toList.drop (n*sz+news.length)).take ((n+m)*sz)=olds++news /\
  ∀o,o<n*sz->(EC.toList.take (n*sz)++news++EC.toList.drop (n*sz+news.length)).toArray[o]?=EC[o]?:=by
 have hcl:EC.toList.length=cap*sz:=by rw[BS];exact ZT
 have Uu:(n+m)*sz<=cap*sz:=Bg _ hm;have lA:n*sz<=cap*sz:=Bg _ hn;rw[Fv]at Uu;have Lq:EC.toList.take (n*sz)=olds:=by
  apply Do;intro j
  by_cases hj:j<n*sz
  .rw[BR hj];have hx:olds[j]?=some olds[j]:=Ay ch
   have:=G7 j _ hx
   rw[FR hb]at this;rw[A3,this,hx]
  .rw[A6 (by rw[Av];omega),A6 ch]
 have tK:(EC.toList.take (n*sz)).length=n*sz:=by rw[Av];omega
 refine⟨?_,?_,fun o ho=>?_⟩
 .rw[Ac,Ac,tK,Dc,hcl,hnl];omega
 .rw[Lq,FM (by rw[Ac,hol,hnl,Fv])]
 .rw[Gn,BA,AY (by rw[tK];exact ho),BR ho,A3]
theorem Wn{r n sz:Nat}{es:List (List AV)}{x:Value}(he:h r=.arr sz es)(hx:BM g w (AQ h) (.msl r n) x)(hn:n=es.length) :
  x=g.ρ r/\∃news,O0 w x es.length sz news/\CO g w Fw es.flatten news:=by
 have ho:=hI.objs r;rw[he]at ho;obtain⟨t1,l1,al,a1⟩:=ho;cases hx with
 |msl _ _ _ a cap hu ht ZZ ha Mw =>
  have e:=Mw (hn.trans l1.symm);refine⟨e,?_⟩;rw[e];rcases a1 with ⟨rfl,e2,e3⟩ | ⟨b,LO,E,vs,e1,e2,e3,e4,e5,e6,e7⟩
  .exact⟨[],⟨by simp,by simp,none,0,e2,.inl rfl⟩,by simp,by simp,fun i av x h1 h2=>by simp at h2⟩
  .have ZT:vs.toList.length=LO*sz:=by rw[BS];exact e5
   have H2:es.length*sz<=vs.toList.length:=by rw[ZT];exact Bg _ e3
   refine⟨vs.toList.take (es.length*sz),⟨by rw[Av,Wc H2],e6.2.1,_,_,e1,.inr ⟨_,rfl,fun j u hj=>?_⟩⟩,e6⟩;rw[Addr.add_lit,Bf,FR e4];have Dz:=(Au.1 hj).1;rw[Av]at Dz;rw[BR ch,A3]at hj;exact hj
theorem gQ{sz:Nat}{K:List (List AV)->Prop}(hx:BM g w (AQ h) x vx)(hk:LX h x K) :
  ∃es,K es/\((∀c∈es,c.length=sz)->∃news,O0 w vx es.length sz news/\CO g w Fw es.flatten news):=by
 unfold LX at hk;split at hk
 .exact⟨_,hk,fun hl=>O0.of_rep hx.slice_none hl⟩
 .obtain rfl:=hx.v_eq;exact⟨[],hk,fun _=>⟨[],⟨by simp,by simp,none,0,rfl,.inl rfl⟩,by simp,by simp,fun i av x h1 h2=>by simp at h2⟩⟩
 .rename_i r n;split at hk
  .rename_i GV es e;obtain⟨hn,hk⟩:=hk;refine⟨es,hk,fun hl=>?_⟩;obtain⟨_,news,n1,n2⟩:=Wn hI e hx hn;refine⟨news,?_,n2⟩
   have:news.length=es.length*sz:=by rw[n2.1,Dr hl]
   exact⟨this,n1.2.1,n1.2.2⟩
  .exact hk.elim
 .exact hk.elim
theorem iI{d:Option Nat}{sz:Nat}(hk:ET cx d h sz [] K) :
  ∃g' av h',K av h'/\DX w0 g0 h0 h' g' w/\Le h g w h' g' w/\BM g' w (AQ h') av (.slice none 0 0):=by
 have base:∀(d:Nat) (o' : HO),h d=.free->o'≠.free->(∀g' : Gh,g'.ρ d=.slice none 0 0->g'.ln d=0->g'.tk d=true->g'.own d=none->Ep g' w (AQ (A0 h d o')) d o') ->
   DX w0 g0 h0 (A0 h d o') (g.upd d (.slice none 0 0) 0 true none g.S) w/\Le h g w (A0 h d o') (g.upd d (.slice none 0 0) 0 true none g.S) w:=by
  intro d o' hd Dy J6;refine hI.upd d o' _ _ _ _ _ w none ⟨rfl,rfl,rfl,Aj _⟩ (fun _ _ _=>rfl) (fun b e=>by cases e) (fun _ _ h=>h) (fun _ _ h=>.inl h) (fun b o e=>by cases e) (fun b _ e=>by cases e) Dy (fun hu=>absurd hd hu) (fun _ _=>?_);obtain⟨u1,u2,u3,u4⟩:=BG g d (.slice none 0 0) 0 true none g.S;exact J6 _ u1 u2 u3 u4
 unfold ET at hk;split at hk
 .exact hk.elim
 .rename_i d;generalize Ks cx d=d1 at hk;split at hk
  .rename_i hd;split at hk
   .obtain⟨k1,k2⟩:=base d1 (.arr sz []) hd B0 (fun g' u1 u2 u3 u4=>⟨u3,u2,by simp,.inl ⟨rfl,u1,u4⟩⟩);exact⟨_,_,_,hk,k1,k2,.msl _ d1 0 none 0 (by unfold AQ;rw[Bj];simp) (by simp[Gh.upd]) (AE _) (.inl rfl) (fun _=>by simp[Gh.upd])⟩
   .obtain⟨k1,k2⟩:=base d1 (.tok sz 0) hd B0 (fun g' u1 u2 u3 u4=>⟨u3,u2,none,0,u1,.inl ⟨rfl,u4⟩⟩);exact⟨_,_,_,hk,k1,k2,.tok _ d1 sz [] _ (.snil _ _ _) B0 (by unfold AQ;rw[Bj];simp) (by simp[Gh.upd]) (AE _) (fun _=>by simp[Gh.upd])⟩
  .exact hk.elim
theorem bK(hT:CF P cx.T){d:Option Nat}{t ty:Nat}{s:AV}{vs:Value}(hs:BM g w (AQ h) s vs)(hx:BM g w (AQ h) x vx)(hk:IR cx d h t s x K) :
  Og P w0 g0 h0 h g w (Builtin.append_ #[t,t] ty #[vs,vx]) K:=by
 unfold IR at hk;split at hk
 .rename_i e ht;split at hk
  .exact hk.elim
  .rename_i hz;have hz:=AK hz;split at hk
   .exact hk.elim
   .rename_i k EM;have h5:=gQ hI (sz:=(cx.T e).size) hx hk
    clear hk
    obtain⟨es2,hk,h6⟩:=h5;split at hk
    .obtain⟨⟨q1,q2,q3⟩,hk⟩:=hk;obtain rfl:=hs.v_eq;obtain⟨news,n1,n2⟩:=h6 (F6 q1);obtain⟨m1,m2,a,c,rfl,m4⟩:=n1
     by_cases hm:es2.length=0
     .obtain rfl:=AP hm;obtain⟨g',av,h',k1,k2,k3,k4⟩:=iI hI hk;exact⟨_,w,g',av,h',Jm hT w ht EM none a 0 0 c (Aj _),k1,k2,k3,k4⟩
     .obtain⟨nc,rest,r1,r2,r3⟩:=Is hT w (ty:=ty) ht EM hz (olds:=[]) (a:=none) (n:=0) (cap:=0) ⟨by simp,by simp,none,0,rfl,.inl rfl⟩ rfl (fun _=>rfl) ⟨m1,m2,a,c,rfl,m4⟩ rfl ch ch (by rw[Bf];exact q2) ch;obtain⟨g',av,h',k1,k2,k3,k4⟩:=KH hI hk (vs:=([]++news++rest).toArray) (cap:=nc) e (F6 q1) ch (by simpa using r3) (by
       rw[FL,show(news++rest).toArray.toList=news++rest from rfl,FM m1];exact n2) w.drew ⟨rfl,rfl,rfl,rfl⟩
      rw[Bf]at r1;exact⟨_,_,g',av,h',r1,k1,k2,k3,k4⟩
    .rename_i GV es;split at hk
     .rename_i RZ;obtain RZ:=AK RZ;obtain⟨⟨q1,q2,q3,q4⟩,hk⟩:=hk;obtain⟨news,n1,n2⟩:=h6 (F6 q1);obtain⟨m1,m2,a2,c2,rfl,m4⟩:=n1;cases hs with
      |full _ _ _ _ hr YW Mw =>
       obtain⟨a,rfl⟩:=Mw;have Gw:∀c∈es++es2,c.length=(cx.T e).size:=fun c hc=>(AO.1 hc).elim (fun h=>(YW c h).trans RZ) (F6 q1 c);obtain⟨olds,o1,o2⟩:=O0.of_rep hr (sz:=(cx.T e).size) (fun c hc=>(YW c hc).trans RZ);have hrl:=o2.app n2;rw[<-Cc]at hrl;have ha:a=none->es.length=0:=by
        rintro rfl
        obtain⟨p1,p2,a',c',p3,p4⟩:=o1;cases p3;rcases p4 with h | ⟨b',h,_⟩
        .exact h
        .cases h
       obtain⟨nc,rest,r1,r2,r3⟩:=Is hT w (ty:=ty) ht EM hz o1 rfl ha ⟨m1,m2,a2,c2,rfl,m4⟩ rfl q2 ch q3 q4;obtain⟨g',av,h',k1,k2,k3,k4⟩:=KH hI hk (vs:=(olds++news++rest).toArray) (cap:=nc) e Gw (by rw[Ac];exact r2) (by rw[D4];exact r3) (by
        rw[show(olds++news++rest).toArray.toList=olds++news++rest from rfl,FM (by rw[Ac,Ac,o1.1,m1,Fv])];exact hrl) w.drew ⟨rfl,rfl,rfl,rfl⟩
       rw[Ac]at k4;exact⟨_,_,g',av,h',r1,k1,k2,k3,k4⟩
     .exact hk.elim
    .rename_i r GV es;have ho:=hI.objs r;split at hk
     .rename_i sz n e0;rw[e0]at ho;split at hk
      .rename_i RZ Ac3;obtain rfl:=AK Ac3;obtain RZ:=AK RZ;obtain⟨⟨q1,q2,q3,q4⟩,hk⟩:=hk;rw[RZ]at q1;obtain⟨news,n1,n2⟩:=h6 (F6 q1);obtain⟨m1,m2,a2,c2,rfl,m4⟩:=n1;obtain⟨t1,l1,a,cap,a1,a3⟩:=ho;have hl:(h r).live:=by rw[e0];trivial
       have Gw:∀c∈es++es2,es.length=n->True:=fun _ _ _=>trivial;cases hs with
       |tok _ _ _ _ _ hr YW hu ht' hn Mw =>
        have hv:=Mw (q2.trans l1.symm);rw[a1]at hv;subst hv;subst q2;have Gw:∀c∈es++es2,c.length=GV:=fun c hc=>(AO.1 hc).elim (YW c) (fun h=>(F6 q1 c h).trans RZ.symm);obtain⟨olds,o1,o2⟩:=O0.of_rep hr YW;have hrl:=o2.app n2;rw[<-Cc]at hrl;have eD:es.length<=cap:=by rcases a3 with ⟨e1,_⟩ | ⟨e1,_⟩<;>omega
        by_cases hm:es2.length=0
        .obtain rfl:=AP hm;have J6:=hI.objs r;rw[e0]at J6
         obtain⟨k1,k2⟩:=hI.upd r (.tok GV (es.length+([]:List (List AV)).length)) (g.ρ r) (g.ln r) (g.tk r) (g.own r) g.S w none ⟨rfl,rfl,rfl,Aj _⟩ (fun _ _ _=>rfl) (fun b e=>by cases e) (fun _ _ h=>h) (fun _ _ h=>.inl h) (fun b o e=>by cases e)
          (fun b _ e=>⟨(hI.loc r b hl e).1,.inl ⟨hl,e⟩⟩) B0 (fun _=>⟨rfl,Aj _,fun _=>rfl,fun _=>rfl⟩) (fun hg Ix=>by
           obtain⟨u1,u2,u3,u4⟩:=BG g r (g.ρ r) (g.ln r) (g.tk r) (g.own r) g.S;rw[At,H1];exact J6.same Ix (fun i hi=>D3 B0 i hi) hg u1 u2 u3 u4 (fun b _ _=>⟨rfl,fun _ h=>h⟩))
         refine⟨_,w,_,_,_,Jm hT w ht EM a a2 es.length cap c2 eD,hk,k1,k2,?_⟩;rw[BP];exact(BM.tok (AQ h) r GV es _ hr YW hu ht' hn Mw).le k2
        .by_cases KF:es.length+es2.length<=cap
         .rcases a3 with ⟨e1,_⟩ | ⟨e1,b,E,EC,off,rfl,e3,⟨fz,e4,efz⟩,e5,e6⟩
          .omega
          .rcases m4 with h | ⟨ba,rfl,Jt⟩
           .omega
           .obtain⟨i,z,i1,i2,i3,i4,i5⟩:=H7 hT EM;have Uu:(es.length+es2.length)*GV<=cap*GV:=Bg _ KF;have tA:news.length=es2.length*GV:=by rw[RZ];exact m1
            have cB:i.size=GV:=i3.trans RZ.symm;have CP:=Vd (P:=P) t ty e i (hT.slice ht) i1 b off es.length cap EC e4 efz ba es2.length c2 news (by rw[cB];exact tA) Jt m2 KF (by rw[cB,tA,e5];rw[Fv]at Uu;omega);rw[cB]at CP;have G7:∀j u,olds[j]?=some u->w.cell? ⟨b,off+j,none⟩=some u:=by
             obtain⟨p1,p2,a',c',p3,p4⟩:=o1;cases p3;intro j u hj;rcases p4 with h | ⟨b',h,h'⟩
             .rw[h,Lg]at p1;rw[AP p1]at hj;simp at hj
             .cases h
              have:=h' j u hj
              rwa [Addr.add_lit]at this
            obtain⟨p1,p2,p3⟩:=qw e4 e5 e1 KF tA o1.1 G7;generalize hnewd:EC.toList.take (off+es.length*GV)++news++EC.toList.drop (off+es.length*GV+news.length)=new at CP p1 p2 p3;have EL:=setRow_heap w b EC new.toArray E fz e4;have g9:=(hI.loc r b hl e3).1
            obtain⟨k1,k2⟩:=hI.upd r (.tok GV (es.length+es2.length)) (.slice (some ⟨b,off,none⟩) (es.length+es2.length) cap) (es.length+es2.length) (g.tk r) (g.own r) (g.more b (off+(es.length+es2.length)*GV)) (w.setRow b new.toArray) (some b)
             ⟨rfl,rfl,rfl,by rw[size_setRow];exact Aj _⟩ (fun k _ Dy=>setRow_other w b k _ (fun e=>Dy (by rw[e]))) (fun b' e=>by cases e;exact⟨hl,e3⟩) (fun _ _ h=>.inl h)
             (fun b' o hs=>hs.elim .inl (fun hs=>.inr ⟨by rw[size_setRow,hs.1];exact g9,.inr ⟨hl,by rw[hs.1];exact e3⟩⟩))
             (fun b' o e hs=>by
              cases e
              refine⟨?_,fun es ck he=>by rw[e4]at he;cases he⟩;rw[FR EL,FR e4];exact p3 o (e6 o hs)) (fun b' _ e=>by
              rw[e3]at e;cases e;exact⟨by rw[size_setRow];exact g9,.inl ⟨hl,e3⟩⟩) B0 (fun _=>⟨rfl,by omega,fun e=>(by rw[t1]at e;cases e),fun e=>by omega⟩) (fun hg Ix=>by
              obtain⟨u1,u2,u3,u4⟩:=BG g r (.slice (some ⟨b,off,none⟩) (es.length+es2.length) cap) (es.length+es2.length) (g.tk r) (g.own r) (g.more b (off+(es.length+es2.length)*GV));exact⟨u3.trans t1,u2,_,cap,u1,  .inr ⟨KF,b,E,_,off,rfl,u4.trans e3,⟨fz,EL,efz.imp id fun h=>by rw[D4,p1,<-e5];exact h⟩,by rw[D4];exact p1,fun o ho=>by
               rcases ho with ho | ⟨_,ho⟩
               .have h1:=e6 o ho;have h2:es.length*GV<=(es.length+es2.length)*GV:=Bg _ ch;omega
               .exact ho⟩⟩)
            have Es:=BM.slice_off (g:=g.upd r (.slice (some ⟨b,off,none⟩) (es.length+es2.length) cap) (es.length+es2.length) (g.tk r) (g.own r) (g.more b (off+(es.length+es2.length)*GV))) (U:=AQ (A0 h r (.tok GV (es.length+es2.length)))) (cap:=cap) (es:=es++es2) EL Gw (by rw[Ac];exact KF) (by
             rw[Ac,show new.toArray.toList=new from rfl,p2];exact hrl.mono k2.keeps (fun _ h=>h) (fun _ h=>h.elim)) (fun o ho=>.inr ⟨rfl,by rw[Ac]at ho;exact Nat.add_lt_add_left ho off⟩)
            rw[Ac]at Es;exact⟨_,_,_,_,_,CP,hk,k1,k2,.tok _ r GV _ _ Es Gw (by unfold AQ;rw[Bj];simp) (by simp[Gh.upd,t1]) (by simp[Gh.upd]) (fun _=>by simp[Gh.upd])⟩
         .have lx:cap<es.length+es2.length:=by omega
          have ha:a=none->cap=0:=by
           rintro rfl
           rcases a3 with ⟨e1,_⟩ | ⟨_,b,_,_,_,e2,_⟩
           .obtain⟨p1,p2,a',c',p3,p4⟩:=o1;cases p3;rcases p4 with h | ⟨b',h,_⟩
            .omega
            .cases h
           .cases e2
          obtain⟨nc,rest,r1,r2,r3⟩:=Is hT w (ty:=ty) ht EM hz (by rw[<-RZ];exact o1) rfl ha ⟨m1,m2,a2,c2,rfl,m4⟩ rfl ch lx q3 q4;have EL:=GL w.drew (.cells (olds++news++rest).toArray e (0,0)) (b:=w.heap.size) rfl
          obtain⟨k1,k2⟩:=hI.upd r (.tok GV (es.length+es2.length)) (.slice (some ⟨w.heap.size,0,none⟩) (es.length+es2.length) nc) (es.length+es2.length) (g.tk r) (some w.heap.size) (g.more w.heap.size ((es.length+es2.length)*GV))
           (w.drew.alloc (.cells (olds++news++rest).toArray e (0,0))) none
           ⟨rfl,rfl,rfl,by rw[World.size_alloc];exact Nat.le_succ _⟩ (fun k hk' _=>by rw[heap_alloc_old _ _ (by exact hk')];rfl) (fun b' e=>by cases e) (fun _ _ h=>.inl h)
           (fun b' o hs=>hs.elim .inl (fun hs=>.inr ⟨by rw[World.size_alloc,hs.1];exact F8 _,.inl (by rw[hs.1];exact Aj _)⟩))
           (fun b' o e=>by cases e) (fun b' _ e=>by cases e;exact⟨by rw[World.size_alloc];exact F8 _,.inr (Aj _)⟩) B0 (fun _=>⟨rfl,by omega,fun e=>(by rw[t1]at e;cases e),fun e=>by omega⟩) (fun hg Ix=>by
            obtain⟨u1,u2,u3,u4⟩:=BG g r (.slice (some ⟨w.heap.size,0,none⟩) (es.length+es2.length) nc) (es.length+es2.length) (g.tk r) (some w.heap.size) (g.more w.heap.size ((es.length+es2.length)*GV));exact⟨u3.trans t1,u2,_,nc,u1,.inr ⟨r2,w.heap.size,e,_,0,rfl,u4,.of EL,by rw[D4,RZ,Bf];exact r3,fun o ho=>by
             rcases ho with ho | ⟨_,ho⟩
             .have:=hI.slt _ _ ho;omega
             .omega⟩⟩)
          have Es:=BM.slice_row (g:=g.upd r (.slice (some ⟨w.heap.size,0,none⟩) (es.length+es2.length) nc) (es.length+es2.length) (g.tk r) (some w.heap.size) (g.more w.heap.size ((es.length+es2.length)*GV))) (U:=AQ (A0 h r (.tok GV (es.length+es2.length)))) (cap:=nc) (es:=es++es2) EL Gw (by rw[Ac];exact r2) (by
           rw[Ac,show(olds++news++rest).toArray.toList=olds++news++rest from rfl,FM (by rw[Ac,o1.1,m1,RZ,Fv])];exact hrl.mono k2.keeps (fun _ h=>h) (fun _ h=>h.elim)) (fun o ho=>.inr ⟨rfl,by rw[Ac]at ho;exact ho⟩)
          rw[Ac]at Es;exact⟨_,_,_,_,_,r1,hk,k1,k2,.tok _ r GV _ _ Es Gw (by unfold AQ;rw[Bj];simp) (by simp[Gh.upd,t1]) (by simp[Gh.upd]) (fun _=>by simp[Gh.upd])⟩
      .exact hk.elim
     .exact hk.elim
    .rename_i r n;have ho:=hI.objs r;split at hk
     .rename_i sz es e0;split at hk
      .rename_i RZ;obtain RZ:=AK RZ;obtain⟨⟨q1,q2,q3,q4⟩,hk⟩:=hk;rw[RZ]at q1;obtain⟨news,n1,n2⟩:=h6 (F6 q1);obtain⟨m1,m2,a2,c2,rfl,m4⟩:=n1;obtain⟨hv,olds,o1,o2⟩:=Wn hI e0 hs q2.symm;have J6:=ho;rw[e0]at ho;obtain⟨t1,l1,al,a3⟩:=ho;have hl:(h r).live:=by rw[e0];trivial
       subst hv;have Gw:∀c∈es++es2,c.length=sz:=fun c hc=>(AO.1 hc).elim (al c) (fun h=>(F6 q1 c h).trans RZ.symm);have hrl:=o2.app n2;rw[<-Cc]at hrl;obtain⟨a,cap,hρ,eD,ha⟩:∃a cap,g.ρ r=.slice a es.length cap/\es.length<=cap/\(a=none->cap=0):=by
        rcases a3 with ⟨rfl,e2,e3⟩ | ⟨b,cap,E,EC,e1,e2,e3,e4,e5,e6,e7⟩
        .exact⟨none,0,e2,Aj _,fun _=>rfl⟩
        .exact⟨_,cap,e1,e3,fun e=>by cases e⟩
       by_cases hm:es2.length=0
       .obtain rfl:=AP hm;rw[e0]at J6
        obtain⟨k1,k2⟩:=hI.upd r (.arr sz (es++[])) (g.ρ r) (g.ln r) (g.tk r) (g.own r) g.S w none ⟨rfl,rfl,rfl,Aj _⟩ (fun _ _ _=>rfl) (fun b e=>by cases e) (fun _ _ h=>h) (fun _ _ h=>.inl h) (fun b o e=>by cases e)
         (fun b _ e=>⟨(hI.loc r b hl e).1,.inl ⟨hl,e⟩⟩) B0 (fun _=>⟨rfl,Aj _,fun _=>rfl,fun _=>rfl⟩) (fun hg Ix=>by
          obtain⟨u1,u2,u3,u4⟩:=BG g r (g.ρ r) (g.ln r) (g.tk r) (g.own r) g.S;rw[BP];exact J6.same Ix (fun i hi=>D3 B0 i hi) hg u1 u2 u3 u4 (fun b _ _=>⟨rfl,fun _ h=>h⟩))
        refine⟨g.ρ r,w,_,_,_,?_,hk,k1,k2,?_⟩
        .rw[hρ];exact Jm hT w ht EM a a2 es.length cap c2 eD
        .have:=hs.le k2
         rw[<-q2]at this;exact this
       .by_cases KF:es.length+es2.length<=cap
        .rcases a3 with ⟨rfl,e2,e3⟩ | ⟨b,LO,E,EC,e1,e2,e3,e4,e5,e6,e7⟩
         .rw[e2]at hρ;cases hρ;omega
         .rw[e1]at hρ;simp only[Value.slice.injEq,true_and]at hρ;obtain⟨rfl,rfl⟩:=hρ;rcases m4 with h | ⟨ba,rfl,Jt⟩
          .omega
          .obtain⟨i,z,i1,i2,i3,i4,i5⟩:=H7 hT EM;have Uu:(es.length+es2.length)*sz<=LO*sz:=Bg _ KF;have tA:news.length=es2.length*sz:=by rw[RZ];exact m1
           have cB:i.size=sz:=i3.trans RZ.symm;have CP:=Rr (P:=P) t ty e i (hT.slice ht) i1 b es.length LO EC e4 ba es2.length c2 news (by rw[cB];exact tA) Jt m2 KF (by rw[cB,tA,<-Fv,e5];exact Uu);rw[cB]at CP;have G7:∀j u,olds[j]?=some u->w.cell? ⟨b,j,none⟩=some u:=by
            obtain⟨p1,p2,a',c',p3,p4⟩:=o1;rw[e1]at p3;cases p3;intro j u hj;rcases p4 with h | ⟨b',h,h'⟩
            .rw[h,Lg]at p1;rw[AP p1]at hj;simp at hj
            .cases h
             have:=h' j u hj
             rwa [Addr.add_lit,Bf]at this
           obtain⟨p1,p2,p3⟩:=m6 e4 e5 e3 KF tA o1.1 G7;generalize hnewd:EC.toList.take (es.length*sz)++news++EC.toList.drop (es.length*sz+news.length)=new at CP p1 p2 p3;have EL:=setRow_heap w b EC new.toArray E (0,0) e4;have g9:=(hI.loc r b hl e2).1
           obtain⟨k1,k2⟩:=hI.upd r (.arr sz (es++es2)) (.slice (some ⟨b,0,none⟩) (es.length+es2.length) LO) (es.length+es2.length) (g.tk r) (g.own r) g.S (w.setRow b new.toArray) (some b)
            ⟨rfl,rfl,rfl,by rw[size_setRow];exact Aj _⟩ (fun k _ Dy=>setRow_other w b k _ (fun e=>Dy (by rw[e]))) (fun b' e=>by cases e;exact⟨hl,e2⟩) (fun _ _ h=>h) (fun _ _ h=>.inl h)
            (fun b' o e hs=>by cases e;exact absurd hs (e7 o)) (fun b' _ e=>by
             rw[e2]at e;cases e;exact⟨by rw[size_setRow];exact g9,.inl ⟨hl,e2⟩⟩) B0 (fun _=>⟨rfl,by omega,fun e=>(by rw[t1]at e;cases e),fun e=>by omega⟩) (fun hg Ix=>by
             obtain⟨u1,u2,u3,u4⟩:=BG g r (.slice (some ⟨b,0,none⟩) (es.length+es2.length) LO) (es.length+es2.length) (g.tk r) (g.own r) g.S;refine⟨u3.trans t1,by rw[u2,Ac],Gw,.inr ⟨b,LO,E,_,by rw[u1,Ac],u4.trans e2,by rw[Ac];exact KF,EL,by rw[D4];exact p1,?_,e7⟩⟩;rw[Ac,show new.toArray.toList=new from rfl,p2];exact hrl.mono Ix (fun _ h=>h) (fun _ h=>h.elim))
           rw[e1];exact⟨_,_,_,_,_,CP,hk,k1,k2,.msl _ r _ _ _ (by unfold AQ;rw[Bj];simp) (by simp[Gh.upd,t1]) (by simp[Gh.upd]) (.inr ⟨_,rfl⟩) (fun _=>by simp[Gh.upd])⟩
        .have lx:cap<es.length+es2.length:=by omega
         obtain⟨nc,rest,r1,r2,r3⟩:=Is hT w (ty:=ty) ht EM hz (by rw[<-RZ];exact o1) hρ ha ⟨m1,m2,a2,c2,rfl,m4⟩ rfl ch lx q3 q4;have EL:=GL w.drew (.cells (olds++news++rest).toArray e (0,0)) (b:=w.heap.size) rfl
         obtain⟨k1,k2⟩:=hI.upd r (.arr sz (es++es2)) (.slice (some ⟨w.heap.size,0,none⟩) (es.length+es2.length) nc) (es.length+es2.length) (g.tk r) (some w.heap.size) g.S
          (w.drew.alloc (.cells (olds++news++rest).toArray e (0,0))) none
          ⟨rfl,rfl,rfl,by rw[World.size_alloc];exact Nat.le_succ _⟩ (fun k hk' _=>by rw[heap_alloc_old _ _ (by exact hk')];rfl) (fun b' e=>by cases e) (fun _ _ h=>h) (fun _ _ h=>.inl h)
          (fun b' o e=>by cases e) (fun b' _ e=>by cases e;exact⟨by rw[World.size_alloc];exact F8 _,.inr (Aj _)⟩) B0 (fun _=>⟨rfl,by omega,fun e=>(by rw[t1]at e;cases e),fun e=>by omega⟩) (fun hg Ix=>by
           obtain⟨u1,u2,u3,u4⟩:=BG g r (.slice (some ⟨w.heap.size,0,none⟩) (es.length+es2.length) nc) (es.length+es2.length) (g.tk r) (some w.heap.size) g.S;refine⟨u3.trans t1,by rw[u2,Ac],Gw,.inr ⟨w.heap.size,nc,e,_,by rw[u1,Ac],u4,by rw[Ac];exact r2,EL,by rw[D4,RZ];exact r3,?_,fun o ho=>by have:=hI.slt _ _ ho;omega⟩⟩;rw[Ac,show(olds++news++rest).toArray.toList=olds++news++rest from rfl,FM (by rw[Ac,o1.1,m1,RZ,Fv])];exact hrl.mono Ix (fun _ h=>h) (fun _ h=>h.elim))
         exact⟨_,_,_,_,_,r1,hk,k1,k2,.msl _ r _ _ _ (by unfold AQ;rw[Bj];simp) (by simp[Gh.upd,t1]) (by simp[Gh.upd]) (.inr ⟨_,rfl⟩) (fun _=>by simp[Gh.upd])⟩
      .exact hk.elim
     .exact hk.elim
    .exact hk.elim
 .exact hk.elim
theorem gM(hT:CF P cx.T){d:Option Nat}{s t:Nat}(hx:BM g w (AQ h) x vx)(hk:bZ cx d h s t x K):Og P w0 g0 h0 h g w (convert s t vx) K:=by
 unfold bZ at hk;split at hk
 .rename_i e b hs ht;split at hk
  .rename_i d he;generalize Ks cx d=d1 at hk;split at hk
   .rename_i hd;obtain rfl:=hx.v_eq;have CP:=run_bytes_of_string (P:=P) w s t e b (hT.string hs) (hT.slice ht) (hT.int he);have L1:b.size<=grownCap w b.size 0 e:=grownCap_ge w b.size 0 e;generalize grownCap w b.size 0 e=cap at CP L1;have CL:(LK b).length=b.size:=by
     show(b.data.toList.map _).length=b.size;rw[A8,BS];rfl
    have hbl:b.data.toList.length=b.size:=by rw[BS];rfl
    have cI:(bytesRow b cap).size=cap:=by
     show(b.data.map _++Array.replicate _ _).size=cap;rw[Array.size_append,Array.size_map,Array.size_replicate];show b.size+_=cap;omega
    have xL:(bytesRow b cap).toList.take ((LK b).length*1)=b.data.toList.map fun c=>Value.int .u8 c.toNat:=by
     show(b.data.map _++Array.replicate _ _).toList.take _=_;rw[Array.toList_append,Array.toList_map,CL,Nat.mul_one,FM (by rw[A8,hbl])]
    have hfl:(LK b).flatten=(b.data.toList.map fun c=>Value.int .u8 c.toNat).map AV.v:=by
     rw[Bo]
     have:∀l:List UInt8,(l.map fun c=>[AV.v (.int .u8 c.toNat)]).flatten=l.map (AV.v ∘ fun c=>Value.int .u8 c.toNat):=fun l=>by
      induction l with
      |nil=>rfl
      |cons c l ih=>rw[AI,BB,ih];rfl
     exact this _
    have PP:∀l:List UInt8,G9 ((l.map fun c=>Value.int .u8 c.toNat).map AV.v)=true:=fun l=>by
     induction l with
     |nil=>rfl
     |cons c l ih=>exact ih
    have hr:CO g w Fw (LK b).flatten ((bytesRow b cap).toList.take ((LK b).length*1)):=by
     rw[xL,hfl];exact CO.vals (PP _)
    have hl:∀cs∈LK b,cs.length=1:=fun cs hc=>by obtain⟨c,_,rfl⟩:=Ag.1 hc;rfl
    generalize bytesRow b cap=vs at CP cI hr;rw[<-CL]at CP L1;generalize LK b=es at *
    have EL:(w.drew.alloc (.cells vs e (vs.size,vs.size+1))).heap[w.heap.size]?=some (.cells vs e (vs.size,vs.size+1)):=GL w.drew _ rfl
    have rt:=hI.upd d1 (.tok 1 es.length) (.slice (some ⟨w.heap.size,0,none⟩) es.length cap) es.length true (some w.heap.size) (g.more w.heap.size (es.length*1)) (w.drew.alloc (.cells vs e (vs.size,vs.size+1))) none
     ⟨rfl,rfl,rfl,by rw[World.size_alloc];exact Nat.le_succ _⟩ (fun k hk' _=>by rw[heap_alloc_old _ _ (by exact hk')];rfl) (fun b e=>by cases e) (fun _ _ h=>.inl h)
     (fun b o hb=>by
      rcases hb with hb | ⟨rfl,_⟩
      .exact .inl hb
      .exact .inr ⟨by rw[World.size_alloc];exact F8 _,.inl (Aj _)⟩) (fun b o e=>by cases e)
     (fun b _ e=>by cases e;rw[World.size_alloc];exact⟨F8 _,.inr (Aj _)⟩) B0 (fun hu=>absurd hd hu) (fun hg Ix=>by
      obtain⟨u1,u2,u3,u4⟩:=BG g d1 (.slice (some ⟨w.heap.size,0,none⟩) es.length cap) es.length true (some w.heap.size) (g.more w.heap.size (es.length*1));exact⟨u3,u2,_,cap,u1,.inr ⟨L1,w.heap.size,e,vs,0,rfl,u4,⟨_,EL,.inr (Aj _)⟩,by rw[cI,Bf,Nat.mul_one],fun o ho=>by
       rcases ho with ho | ⟨_,ho⟩
       .have:=hI.slt _ _ ho;omega
       .omega⟩⟩)
    obtain⟨k1,k2⟩:=rt;refine⟨_,_,_,_,_,CP,hk,k1,k2,.tok _ d1 1 es _ (BM.slice_row EL hl L1 (hr.mono k2.keeps (fun _ h=>h) (fun _ h=>h.elim)) (fun o ho=>.inr ⟨rfl,ho⟩)) hl (by unfold AQ;rw[Bj];simp) ?_ ?_ ?_⟩<;>simp[Gh.upd]
   .exact hk.elim
  .exact hk.elim
 .exact BO.does hI (Zo hT hx hk)
end
end Go.Eng
