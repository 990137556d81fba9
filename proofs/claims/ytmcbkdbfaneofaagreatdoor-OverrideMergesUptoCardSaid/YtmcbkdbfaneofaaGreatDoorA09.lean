/- Lemmas for the claims of this seat, without a condition: part 9 (EngR, EngS). -/
import Derived.Test.YtmcbkdbfaneofaaGreatDoorA08
namespace Go.Eng
theorem CP.app{g:Gh}{w:World}{U:Nat→Prop}{US bs:List AV}{xs ys:List Value}(h:CP g w U US xs)(k:CP g w U bs ys):CP g w U (US++bs) (xs++ys):=by
 refine⟨by simp[h.1,k.1],fun x hx=>(A6.1 hx).elim (h.2.1 x) (k.2.1 x),fun i av x h1 h2=>?_⟩
 by_cases hi:i<US.length
 ·rw[A4 hi]at h1;rw[A4 (by rw[h.1];exact hi)]at h2;exact h.2.2 i av x h1 h2
 ·rw[A1 (by omega)]at h1;rw[A1 (by rw[h.1];omega),h.1]at h2;exact k.2.2 _ av x h1 h2
section
variable {P:Program}{w0:World}{g0:Gh}{h0 h:Nat→HO}{g:Gh}{w:World}(hI:DQ w0 g0 h0 h g w)
include hI
omit hI in
theorem QT(t ty e:TypeId)(i:TypeInfo)(ht:P.underlying t=some (.slice e))(hi:P.info? e=some i){E:TypeId}
  (g Ow aP:Nat) (FV:Array Value) (hg:w.heap[g]?=some (.cells FV E (0,0)))
  (a:Addr) (m c:Nat) (news:List Value) (hl:news.length=m*i.size) (Jd:∀j u,news[j]?=some u→w.cell? (a.add j)=some u) (h1:∀u∈news,u.oneCell'=true)
  (Ki:Ow+m≤aP) (ac:Ow*i.size+news.length≤FV.size) :
  (Builtin.append_ #[t,t] ty #[.slice (some ⟨g,0,none⟩) Ow aP,.slice (some a) m c]).run P w =
   .ok (.slice (some ⟨g,0,none⟩) (Ow+m) aP) (w.setRow g (FV.toList.take (Ow*i.size)++news++FV.toList.drop (Ow*i.size+news.length)).toArray):=by
 have hf:=run_firstCells_some (P:=P) w i.size m a m c news hl Jd;have JM:=run_storeCells_at P g (Ow*i.size) E news 0 FV w hg (by simpa using ac) h1;simp only[DJ]at JM;simp[Builtin.append_,run_underlying ht,sizeOf,typeInfo,hi,Builtin.lenOf,Ki,hf,Addr.add_lit,JM]
omit hI in
theorem Uv(t ty e:TypeId)(i:TypeInfo)(ht:P.underlying t=some (.slice e))(hi:P.info? e=some i){E:TypeId}
  (g off Ow aP:Nat) (FV:Array Value) (hg:w.heap[g]?=some (.cells FV E (0,0)))
  (a:Addr) (m c:Nat) (news:List Value) (hl:news.length=m*i.size) (Jd:∀j u,news[j]?=some u→w.cell? (a.add j)=some u) (h1:∀u∈news,u.oneCell'=true)
  (Ki:Ow+m≤aP) (ac:off+Ow*i.size+news.length≤FV.size) :
  (Builtin.append_ #[t,t] ty #[.slice (some ⟨g,off,none⟩) Ow aP,.slice (some a) m c]).run P w =
   .ok (.slice (some ⟨g,off,none⟩) (Ow+m) aP) (w.setRow g (FV.toList.take (off+Ow*i.size)++news++FV.toList.drop (off+Ow*i.size+news.length)).toArray):=by
 have hf:=run_firstCells_some (P:=P) w i.size m a m c news hl Jd;have JM:=run_storeCells_at P g (off+Ow*i.size) E news 0 FV w hg (by simpa using ac) h1;simp only[DJ]at JM;simp[Builtin.append_,run_underlying ht,sizeOf,typeInfo,hi,Builtin.lenOf,Ki,hf,Addr.add_lit,JM]
omit hI in
theorem mF{b off n m sz cap:Nat}{FV:Array Value}{E:TypeId}{olds news:List Value}(hb:w.heap[b]?=some (.cells FV E (0,0)))(Yh:FV.size=off+cap*sz)(hn:n≤cap)(hm:n+m≤cap)(hnl:news.length=m*sz)(hol:olds.length=n*sz)
  (G0:∀j u,olds[j]?=some u→w.cell? ⟨b,off+j,none⟩=some u) :
  (FV.toList.take (off+n*sz)++news++FV.toList.drop (off+n*sz+news.length)).length=off+cap*sz ∧
  ((FV.toList.take (off+n*sz)++news++FV.toList.drop (off+n*sz+news.length)).drop off).take ((n+m)*sz)=olds++news ∧
  ∀o,o<off+n*sz→(FV.toList.take (off+n*sz)++news++FV.toList.drop (off+n*sz+news.length)).toArray[o]?=FV[o]?:=by
 have hcl:FV.toList.length=off+cap*sz:=by rw[Cb];exact Yh
 have TL:(n+m)*sz≤cap*sz:=Bs _ hm;have il:n*sz≤cap*sz:=Bs _ hn;rw[Fv]at TL;have KW:(FV.toList.take (off+n*sz)).drop off=olds:=by
  apply CM;intro j
  by_cases hj:j<n*sz
  ·rw[BZ,BQ (by omega)];have hx:olds[j]?=some olds[j]:=AE (by omega)
   have:=G0 j _ hx
   rw[FY hb]at this;rw[AQ,this,hx]
  ·rw[A8 (by rw[Ap,AC];omega),A8 (by omega)]
 have lJ:(FV.toList.take (off+n*sz)).length=off+n*sz:=by rw[AC];omega
 refine⟨?_,?_,fun o ho=>?_⟩
 ·rw[Ad,Ad,lJ,Ap,hcl,hnl];omega
 ·rw[AM,List.drop_append_of_le_length (by rw[lJ];omega),KW,←AM,HR (by rw[Ad,hol,hnl,Fv])]
 ·rw[Gn,AM,A4 (by rw[lJ];exact ho),BQ ho,AQ]
omit hI in
theorem jH{b n m sz cap:Nat}{FV:Array Value}{E:TypeId}{olds news:List Value}(hb:w.heap[b]?=some (.cells FV E (0,0)))(Yh:FV.size=cap*sz)(hn:n≤cap)(hm:n+m≤cap)(hnl:news.length=m*sz)(hol:olds.length=n*sz)
  (G0:∀j u,olds[j]?=some u→w.cell? ⟨b,j,none⟩=some u) :
  (FV.toList.take (n*sz)++news++FV.toList.drop (n*sz+news.length)).length=cap*sz ∧
  (FV.toList.take (n*sz)++news++FV.toList.drop (n*sz+news.length)).take ((n+m)*sz)=olds++news ∧
  ∀o,o<n*sz→(FV.toList.take (n*sz)++news++FV.toList.drop (n*sz+news.length)).toArray[o]?=FV[o]?:=by
 have hcl:FV.toList.length=cap*sz:=by rw[Cb];exact Yh
 have TL:(n+m)*sz≤cap*sz:=Bs _ hm;have il:n*sz≤cap*sz:=Bs _ hn;rw[Fv]at TL;have KW:FV.toList.take (n*sz)=olds:=by
  apply CM;intro j
  by_cases hj:j<n*sz
  ·rw[BQ hj];have hx:olds[j]?=some olds[j]:=AE (by omega)
   have:=G0 j _ hx
   rw[FY hb]at this;rw[AQ,this,hx]
  ·rw[A8 (by rw[AC];omega),A8 (by omega)]
 have lJ:(FV.toList.take (n*sz)).length=n*sz:=by rw[AC];omega
 refine⟨?_,?_,fun o ho=>?_⟩
 ·rw[Ad,Ad,lJ,Ap,hcl,hnl];omega
 ·rw[KW,HR (by rw[Ad,hol,hnl,Fv])]
 ·rw[Gn,AM,A4 (by rw[lJ];exact ho),BQ ho,AQ]
theorem Vj{r n sz:Nat}{es:List (List AV)}{x:Value}(he:h r=.arr sz es)(hx:BS g w (AU h) (.msl r n) x)(hn:n=es.length) :
  x=g.ρ r∧∃news,OM w x es.length sz news∧CP g w FL es.flatten news:=by
 have ho:=hI.objs r;rw[he]at ho;obtain⟨t1,l1,al,a1⟩:=ho;cases hx with
 |msl _ _ _ a cap hu ht Yo ha L3 =>
  have e:=L3 (hn.trans l1.symm);refine⟨e,?_⟩;rw[e];rcases a1 with ⟨rfl,e2,e3⟩ | ⟨b,L0,E,vs,e1,e2,e3,e4,e5,e6,e7⟩
  ·exact⟨[],⟨by simp,by simp,none,0,e2,.inl rfl⟩,by simp,by simp,fun i av x h1 h2=>by simp at h2⟩
  ·have Yh:vs.toList.length=L0*sz:=by rw[Cb];exact e5
   have Hr:es.length*sz≤vs.toList.length:=by rw[Yh];exact Bs _ e3
   refine⟨vs.toList.take (es.length*sz),⟨by rw[AC,Nat.min_eq_left Hr],e6.2.1,_,_,e1,.inr ⟨_,rfl,fun j u hj=>?_⟩⟩,e6⟩;rw[Addr.add_lit,Bk,FY e4];have DF:=(Aw.1 hj).1;rw[AC]at DF;rw[BQ (by omega),AQ]at hj;exact hj
theorem cU{sz:Nat}{x:AV}{vx:Value}{K:List (List AV)→Prop}(hx:BS g w (AU h) x vx)(hk:Lu h x K) :
  ∃es,K es∧((∀c∈es,c.length=sz)→∃news,OM w vx es.length sz news∧CP g w FL es.flatten news):=by
 unfold Lu at hk;split at hk
 ·exact⟨_,hk,fun hl=>OM.of_rep hx.slice_none hl⟩
 ·obtain rfl:=hx.v_eq;exact⟨[],hk,fun _=>⟨[],⟨by simp,by simp,none,0,rfl,.inl rfl⟩,by simp,by simp,fun i av x h1 h2=>by simp at h2⟩⟩
 ·rename_i r n;split at hk
  ·rename_i GQ es e;obtain⟨hn,hk⟩:=hk;refine⟨es,hk,fun hl=>?_⟩;obtain⟨_,news,n1,n2⟩:=Vj hI e hx hn;refine⟨news,?_,n2⟩
   have:news.length=es.length*sz:=by rw[n2.1,Du hl]
   exact⟨this,n1.2.1,n1.2.2⟩
  ·exact hk.elim
 ·exact hk.elim
theorem dN{cx:Cx}{d:Option Nat}{sz:Nat}{K:HK}(hk:EN cx d h sz [] K) :
  ∃g' av h',K av h'∧DQ w0 g0 h0 h' g' w∧Le h g w h' g' w∧BS g' w (AU h') av (.slice none 0 0):=by
 have base:∀(d:Nat) (o' : HO),h d=.free→o'≠.free→(∀g' : Gh,g'.ρ d=.slice none 0 0→g'.ln d=0→g'.tk d=true→g'.own d=none→Eo g' w (AU (A2 h d o')) d o') →
   DQ w0 g0 h0 (A2 h d o') (g.upd d (.slice none 0 0) 0 true none g.S) w∧Le h g w (A2 h d o') (g.upd d (.slice none 0 0) 0 true none g.S) w:=by
  intro d o' hd DL JL;refine hI.upd d o' _ _ _ _ _ w none ⟨rfl,rfl,rfl,Al _⟩ (fun _ _ _=>rfl) (fun b e=>by cases e) (fun _ _ h=>h) (fun _ _ h=>.inl h) (fun b o e=>by cases e) (fun b _ e=>by cases e) DL (fun hu=>absurd hd hu) (fun _ _=>?_);obtain⟨u1,u2,u3,u4⟩:=BK g d (.slice none 0 0) 0 true none g.S;exact JL _ u1 u2 u3 u4
 unfold EN at hk;split at hk
 ·exact hk.elim
 ·rename_i d;generalize KT cx d=d1 at hk;split at hk
  ·rename_i hd;split at hk
   ·obtain⟨k1,k2⟩:=base d1 (.arr sz []) hd (by simp) (fun g' u1 u2 u3 u4=>⟨u3,u2,by simp,.inl ⟨rfl,u1,u4⟩⟩);exact⟨_,_,_,hk,k1,k2,.msl _ d1 0 none 0 (by unfold AU;rw[Bl];simp) (by simp[Gh.upd]) (AG _) (.inl rfl) (fun _=>by simp[Gh.upd])⟩
   ·obtain⟨k1,k2⟩:=base d1 (.tok sz 0) hd (by simp) (fun g' u1 u2 u3 u4=>⟨u3,u2,none,0,u1,.inl ⟨rfl,u4⟩⟩);exact⟨_,_,_,hk,k1,k2,.tok _ d1 sz [] _ (.snil _ _ _) (by simp) (by unfold AU;rw[Bl];simp) (by simp[Gh.upd]) (AG _) (fun _=>by simp[Gh.upd])⟩
  ·exact hk.elim
theorem Zz{cx:Cx}(hT:CH P cx.T){d:Option Nat}{t ty:Nat}{s x:AV}{vs vx:Value}{K:HK}(hs:BS g w (AU h) s vs)(hx:BS g w (AU h) x vx)(hk:IG cx d h t s x K) :
  OG P w0 g0 h0 h g w (Builtin.append_ #[t,t] ty #[vs,vx]) K:=by
 unfold IG at hk;split at hk
 ·rename_i e ht;split at hk
  ·exact hk.elim
  ·rename_i hz;have hz:=AP hz;split at hk
   ·exact hk.elim
   ·rename_i k Ek;have h5:=cU hI (sz:=(cx.T e).size) hx hk
    clear hk
    obtain⟨es2,hk,h6⟩:=h5;split at hk
    ·obtain⟨⟨q1,q2,q3⟩,hk⟩:=hk;obtain rfl:=hs.v_eq;obtain⟨news,n1,n2⟩:=h6 (Gb q1);obtain⟨m1,m2,a,c,rfl,m4⟩:=n1
     by_cases hm:es2.length=0
     ·obtain rfl:=Az hm;obtain⟨g',av,h',k1,k2,k3,k4⟩:=dN hI hk;exact⟨_,w,g',av,h',I7 hT w ht Ek none a 0 0 c (Al _),k1,k2,k3,k4⟩
     ·obtain⟨nc,rest,r1,r2,r3⟩:=If hT w (ty:=ty) ht Ek hz (olds:=[]) (a:=none) (n:=0) (cap:=0) ⟨by simp,by simp,none,0,rfl,.inl rfl⟩ rfl (fun _=>rfl) ⟨m1,m2,a,c,rfl,m4⟩ rfl (by omega) (by omega) (by rw[Bk];exact q2) (by omega);obtain⟨g',av,h',k1,k2,k3,k4⟩:=Kl hI hk (vs:=([]++news++rest).toArray) (cap:=nc) e (Gb q1) (by omega) (by simpa using r3) (by
       rw[En,show(news++rest).toArray.toList=news++rest from rfl,HR m1];exact n2) w.drew ⟨rfl,rfl,rfl,rfl⟩
      rw[Bk]at r1;exact⟨_,_,g',av,h',r1,k1,k2,k3,k4⟩
    ·rename_i GQ es;split at hk
     ·rename_i RB;obtain RB:=AP RB;obtain⟨⟨q1,q2,q3,q4⟩,hk⟩:=hk;obtain⟨news,n1,n2⟩:=h6 (Gb q1);obtain⟨m1,m2,a2,c2,rfl,m4⟩:=n1;cases hs with
      |full _ _ _ _ hr Xw L3 =>
       obtain⟨a,rfl⟩:=L3;have Fp:∀c∈es++es2,c.length=(cx.T e).size:=fun c hc=>(A6.1 hc).elim (fun h=>(Xw c h).trans RB) (Gb q1 c);obtain⟨olds,o1,o2⟩:=OM.of_rep hr (sz:=(cx.T e).size) (fun c hc=>(Xw c hc).trans RB);have W4:=o2.app n2;rw[←CU]at W4;have ha:a=none→es.length=0:=by
        rintro rfl
        obtain⟨p1,p2,a',c',p3,p4⟩:=o1;cases p3;rcases p4 with h | ⟨b',h,_⟩
        ·exact h
        ·cases h
       obtain⟨nc,rest,r1,r2,r3⟩:=If hT w (ty:=ty) ht Ek hz o1 rfl ha ⟨m1,m2,a2,c2,rfl,m4⟩ rfl q2 (by omega) q3 q4;obtain⟨g',av,h',k1,k2,k3,k4⟩:=Kl hI hk (vs:=(olds++news++rest).toArray) (cap:=nc) e Fp (by rw[Ad];exact r2) (by rw[FJ];exact r3) (by
        rw[show(olds++news++rest).toArray.toList=olds++news++rest from rfl,HR (by rw[Ad,Ad,o1.1,m1,Fv])];exact W4) w.drew ⟨rfl,rfl,rfl,rfl⟩
       rw[Ad]at k4;exact⟨_,_,g',av,h',r1,k1,k2,k3,k4⟩
     ·exact hk.elim
    ·rename_i r GQ es;have ho:=hI.objs r;split at hk
     ·rename_i sz n e0;rw[e0]at ho;split at hk
      ·rename_i RB xu;obtain rfl:=AP xu;obtain RB:=AP RB;obtain⟨⟨q1,q2,q3,q4⟩,hk⟩:=hk;rw[RB]at q1;obtain⟨news,n1,n2⟩:=h6 (Gb q1);obtain⟨m1,m2,a2,c2,rfl,m4⟩:=n1;obtain⟨t1,l1,a,cap,a1,a3⟩:=ho;have hl:(h r).live:=by rw[e0];trivial
       have Fp:∀c∈es++es2,es.length=n→True:=fun _ _ _=>trivial;cases hs with
       |tok _ _ _ _ _ hr Xw hu ht' hn L3 =>
        have hv:=L3 (q2.trans l1.symm);rw[a1]at hv;subst hv;subst q2;have Fp:∀c∈es++es2,c.length=GQ:=fun c hc=>(A6.1 hc).elim (Xw c) (fun h=>(Gb q1 c h).trans RB.symm);obtain⟨olds,o1,o2⟩:=OM.of_rep hr Xw;have W4:=o2.app n2;rw[←CU]at W4;have bx:es.length≤cap:=by rcases a3 with ⟨e1,_⟩ | ⟨e1,_⟩<;>omega
        by_cases hm:es2.length=0
        ·obtain rfl:=Az hm;have JL:=hI.objs r;rw[e0]at JL
         obtain⟨k1,k2⟩:=hI.upd r (.tok GQ (es.length+([]:List (List AV)).length)) (g.ρ r) (g.ln r) (g.tk r) (g.own r) g.S w none ⟨rfl,rfl,rfl,Al _⟩ (fun _ _ _=>rfl) (fun b e=>by cases e) (fun _ _ h=>h) (fun _ _ h=>.inl h) (fun b o e=>by cases e)
          (fun b _ e=>⟨(hI.loc r b hl e).1,.inl ⟨hl,e⟩⟩) (by simp) (fun _=>⟨rfl,Al _,fun _=>rfl,fun _=>rfl⟩) (fun hg In=>by
           obtain⟨u1,u2,u3,u4⟩:=BK g r (g.ρ r) (g.ln r) (g.tk r) (g.own r) g.S;rw[Ay,DJ];exact JL.same In (fun i hi=>DV (by simp) i hi) hg u1 u2 u3 u4 (fun b _ _=>⟨rfl,fun _ h=>h⟩))
         refine⟨_,w,_,_,_,I7 hT w ht Ek a a2 es.length cap c2 bx,hk,k1,k2,?_⟩;rw[BE];exact(BS.tok (AU h) r GQ es _ hr Xw hu ht' hn L3).le k2
        ·by_cases Ki:es.length+es2.length≤cap
         ·rcases a3 with ⟨e1,_⟩ | ⟨e1,b,E,FV,off,rfl,e3,e4,e5,e6⟩
          ·omega
          ·rcases m4 with h | ⟨ba,rfl,Jd⟩
           ·omega
           ·obtain⟨i,z,i1,i2,i3,i4,i5⟩:=HS hT Ek;have TL:(es.length+es2.length)*GQ≤cap*GQ:=Bs _ Ki;have nq:news.length=es2.length*GQ:=by rw[RB];exact m1
            have ae:i.size=GQ:=i3.trans RB.symm;have CZ:=Uv (P:=P) t ty e i (hT.slice ht) i1 b off es.length cap FV e4 ba es2.length c2 news (by rw[ae];exact nq) Jd m2 Ki (by rw[ae,nq,e5];rw[Fv]at TL;omega);rw[ae]at CZ;have G0:∀j u,olds[j]?=some u→w.cell? ⟨b,off+j,none⟩=some u:=by
             obtain⟨p1,p2,a',c',p3,p4⟩:=o1;cases p3;intro j u hj;rcases p4 with h | ⟨b',h,h'⟩
             ·rw[h,KL]at p1;rw[Az p1]at hj;simp at hj
             ·cases h
              have:=h' j u hj
              rwa [Addr.add_lit]at this
            obtain⟨p1,p2,p3⟩:=mF e4 e5 e1 Ki nq o1.1 G0;generalize hnewd:FV.toList.take (off+es.length*GQ)++news++FV.toList.drop (off+es.length*GQ+news.length)=new at CZ p1 p2 p3;have E6:=setRow_heap w b FV new.toArray E (0,0) e4;have dg:=(hI.loc r b hl e3).1
            obtain⟨k1,k2⟩:=hI.upd r (.tok GQ (es.length+es2.length)) (.slice (some ⟨b,off,none⟩) (es.length+es2.length) cap) (es.length+es2.length) (g.tk r) (g.own r) (g.more b (off+(es.length+es2.length)*GQ)) (w.setRow b new.toArray) (some b)
             ⟨rfl,rfl,rfl,by rw[size_setRow];exact Al _⟩ (fun k _ DL=>setRow_other w b k _ (fun e=>DL (by rw[e]))) (fun b' e=>by cases e;exact⟨hl,e3⟩) (fun _ _ h=>.inl h)
             (fun b' o hs=>hs.elim .inl (fun hs=>.inr ⟨by rw[size_setRow,hs.1];exact dg,.inr ⟨hl,by rw[hs.1];exact e3⟩⟩))
             (fun b' o e hs=>by
              cases e
              refine⟨?_,fun es ck he=>by rw[e4]at he;cases he⟩;rw[FY E6,FY e4];exact p3 o (e6 o hs)) (fun b' _ e=>by
              rw[e3]at e;cases e;exact⟨by rw[size_setRow];exact dg,.inl ⟨hl,e3⟩⟩) (by simp) (fun _=>⟨rfl,by omega,fun e=>(by rw[t1]at e;cases e),fun e=>by omega⟩) (fun hg In=>by
              obtain⟨u1,u2,u3,u4⟩:=BK g r (.slice (some ⟨b,off,none⟩) (es.length+es2.length) cap) (es.length+es2.length) (g.tk r) (g.own r) (g.more b (off+(es.length+es2.length)*GQ));exact⟨u3.trans t1,u2,_,cap,u1,  .inr ⟨Ki,b,E,_,off,rfl,u4.trans e3,E6,by rw[FJ];exact p1,fun o ho=>by
               rcases ho with ho | ⟨_,ho⟩
               ·have h1:=e6 o ho;have h2:es.length*GQ≤(es.length+es2.length)*GQ:=Bs _ (by omega);omega
               ·exact ho⟩⟩)
            have Er:=BS.slice_off (g:=g.upd r (.slice (some ⟨b,off,none⟩) (es.length+es2.length) cap) (es.length+es2.length) (g.tk r) (g.own r) (g.more b (off+(es.length+es2.length)*GQ))) (U:=AU (A2 h r (.tok GQ (es.length+es2.length)))) (cap:=cap) (es:=es++es2) E6 Fp (by rw[Ad];exact Ki) (by
             rw[Ad,show new.toArray.toList=new from rfl,p2];exact W4.mono k2.keeps (fun _ h=>h) (fun _ h=>h.elim)) (fun o ho=>.inr ⟨rfl,by rw[Ad]at ho;exact Nat.add_lt_add_left ho off⟩)
            rw[Ad]at Er;exact⟨_,_,_,_,_,CZ,hk,k1,k2,.tok _ r GQ _ _ Er Fp (by unfold AU;rw[Bl];simp) (by simp[Gh.upd,t1]) (by simp[Gh.upd]) (fun _=>by simp[Gh.upd])⟩
         ·have ie:cap<es.length+es2.length:=by omega
          have ha:a=none→cap=0:=by
           rintro rfl
           rcases a3 with ⟨e1,_⟩ | ⟨_,b,_,_,_,e2,_⟩
           ·obtain⟨p1,p2,a',c',p3,p4⟩:=o1;cases p3;rcases p4 with h | ⟨b',h,_⟩
            ·omega
            ·cases h
           ·cases e2
          obtain⟨nc,rest,r1,r2,r3⟩:=If hT w (ty:=ty) ht Ek hz (by rw[←RB];exact o1) rfl ha ⟨m1,m2,a2,c2,rfl,m4⟩ rfl (by omega) ie q3 q4;have E6:=H3 w.drew (.cells (olds++news++rest).toArray e (0,0)) (b:=w.heap.size) rfl
          obtain⟨k1,k2⟩:=hI.upd r (.tok GQ (es.length+es2.length)) (.slice (some ⟨w.heap.size,0,none⟩) (es.length+es2.length) nc) (es.length+es2.length) (g.tk r) (some w.heap.size) (g.more w.heap.size ((es.length+es2.length)*GQ))
           (w.drew.alloc (.cells (olds++news++rest).toArray e (0,0))) none
           ⟨rfl,rfl,rfl,by rw[World.size_alloc];exact Nat.le_succ _⟩ (fun k Kv _=>by rw[heap_alloc_old _ _ (by exact Kv)];rfl) (fun b' e=>by cases e) (fun _ _ h=>.inl h)
           (fun b' o hs=>hs.elim .inl (fun hs=>.inr ⟨by rw[World.size_alloc,hs.1];exact Ha _,.inl (by rw[hs.1];exact Al _)⟩))
           (fun b' o e=>by cases e) (fun b' _ e=>by cases e;exact⟨by rw[World.size_alloc];exact Ha _,.inr (Al _)⟩) (by simp) (fun _=>⟨rfl,by omega,fun e=>(by rw[t1]at e;cases e),fun e=>by omega⟩) (fun hg In=>by
            obtain⟨u1,u2,u3,u4⟩:=BK g r (.slice (some ⟨w.heap.size,0,none⟩) (es.length+es2.length) nc) (es.length+es2.length) (g.tk r) (some w.heap.size) (g.more w.heap.size ((es.length+es2.length)*GQ));exact⟨u3.trans t1,u2,_,nc,u1,.inr ⟨r2,w.heap.size,e,_,0,rfl,u4,E6,by rw[FJ,RB,Bk];exact r3,fun o ho=>by
             rcases ho with ho | ⟨_,ho⟩
             ·have:=hI.slt _ _ ho;omega
             ·omega⟩⟩)
          have Er:=BS.slice_row (g:=g.upd r (.slice (some ⟨w.heap.size,0,none⟩) (es.length+es2.length) nc) (es.length+es2.length) (g.tk r) (some w.heap.size) (g.more w.heap.size ((es.length+es2.length)*GQ))) (U:=AU (A2 h r (.tok GQ (es.length+es2.length)))) (cap:=nc) (es:=es++es2) E6 Fp (by rw[Ad];exact r2) (by
           rw[Ad,show(olds++news++rest).toArray.toList=olds++news++rest from rfl,HR (by rw[Ad,o1.1,m1,RB,Fv])];exact W4.mono k2.keeps (fun _ h=>h) (fun _ h=>h.elim)) (fun o ho=>.inr ⟨rfl,by rw[Ad]at ho;exact ho⟩)
          rw[Ad]at Er;exact⟨_,_,_,_,_,r1,hk,k1,k2,.tok _ r GQ _ _ Er Fp (by unfold AU;rw[Bl];simp) (by simp[Gh.upd,t1]) (by simp[Gh.upd]) (fun _=>by simp[Gh.upd])⟩
      ·exact hk.elim
     ·exact hk.elim
    ·rename_i r n;have ho:=hI.objs r;split at hk
     ·rename_i sz es e0;split at hk
      ·rename_i RB;obtain RB:=AP RB;obtain⟨⟨q1,q2,q3,q4⟩,hk⟩:=hk;rw[RB]at q1;obtain⟨news,n1,n2⟩:=h6 (Gb q1);obtain⟨m1,m2,a2,c2,rfl,m4⟩:=n1;obtain⟨hv,olds,o1,o2⟩:=Vj hI e0 hs q2.symm;have JL:=ho;rw[e0]at ho;obtain⟨t1,l1,al,a3⟩:=ho;have hl:(h r).live:=by rw[e0];trivial
       subst hv;have Fp:∀c∈es++es2,c.length=sz:=fun c hc=>(A6.1 hc).elim (al c) (fun h=>(Gb q1 c h).trans RB.symm);have W4:=o2.app n2;rw[←CU]at W4;obtain⟨a,cap,hρ,bx,ha⟩:∃a cap,g.ρ r=.slice a es.length cap∧es.length≤cap∧(a=none→cap=0):=by
        rcases a3 with ⟨rfl,e2,e3⟩ | ⟨b,cap,E,FV,e1,e2,e3,e4,e5,e6,e7⟩
        ·exact⟨none,0,e2,Al _,fun _=>rfl⟩
        ·exact⟨_,cap,e1,e3,fun e=>by cases e⟩
       by_cases hm:es2.length=0
       ·obtain rfl:=Az hm;rw[e0]at JL
        obtain⟨k1,k2⟩:=hI.upd r (.arr sz (es++[])) (g.ρ r) (g.ln r) (g.tk r) (g.own r) g.S w none ⟨rfl,rfl,rfl,Al _⟩ (fun _ _ _=>rfl) (fun b e=>by cases e) (fun _ _ h=>h) (fun _ _ h=>.inl h) (fun b o e=>by cases e)
         (fun b _ e=>⟨(hI.loc r b hl e).1,.inl ⟨hl,e⟩⟩) (by simp) (fun _=>⟨rfl,Al _,fun _=>rfl,fun _=>rfl⟩) (fun hg In=>by
          obtain⟨u1,u2,u3,u4⟩:=BK g r (g.ρ r) (g.ln r) (g.tk r) (g.own r) g.S;rw[BE];exact JL.same In (fun i hi=>DV (by simp) i hi) hg u1 u2 u3 u4 (fun b _ _=>⟨rfl,fun _ h=>h⟩))
        refine⟨g.ρ r,w,_,_,_,?_,hk,k1,k2,?_⟩
        ·rw[hρ];exact I7 hT w ht Ek a a2 es.length cap c2 bx
        ·have:=hs.le k2
         rw[←q2]at this;exact this
       ·by_cases Ki:es.length+es2.length≤cap
        ·rcases a3 with ⟨rfl,e2,e3⟩ | ⟨b,L0,E,FV,e1,e2,e3,e4,e5,e6,e7⟩
         ·rw[e2]at hρ;cases hρ;omega
         ·rw[e1]at hρ;simp only[Value.slice.injEq,true_and]at hρ;obtain⟨rfl,rfl⟩:=hρ;rcases m4 with h | ⟨ba,rfl,Jd⟩
          ·omega
          ·obtain⟨i,z,i1,i2,i3,i4,i5⟩:=HS hT Ek;have TL:(es.length+es2.length)*sz≤L0*sz:=Bs _ Ki;have nq:news.length=es2.length*sz:=by rw[RB];exact m1
           have ae:i.size=sz:=i3.trans RB.symm;have CZ:=QT (P:=P) t ty e i (hT.slice ht) i1 b es.length L0 FV e4 ba es2.length c2 news (by rw[ae];exact nq) Jd m2 Ki (by rw[ae,nq,←Fv,e5];exact TL);rw[ae]at CZ;have G0:∀j u,olds[j]?=some u→w.cell? ⟨b,j,none⟩=some u:=by
            obtain⟨p1,p2,a',c',p3,p4⟩:=o1;rw[e1]at p3;cases p3;intro j u hj;rcases p4 with h | ⟨b',h,h'⟩
            ·rw[h,KL]at p1;rw[Az p1]at hj;simp at hj
            ·cases h
             have:=h' j u hj
             rwa [Addr.add_lit,Bk]at this
           obtain⟨p1,p2,p3⟩:=jH e4 e5 e3 Ki nq o1.1 G0;generalize hnewd:FV.toList.take (es.length*sz)++news++FV.toList.drop (es.length*sz+news.length)=new at CZ p1 p2 p3;have E6:=setRow_heap w b FV new.toArray E (0,0) e4;have dg:=(hI.loc r b hl e2).1
           obtain⟨k1,k2⟩:=hI.upd r (.arr sz (es++es2)) (.slice (some ⟨b,0,none⟩) (es.length+es2.length) L0) (es.length+es2.length) (g.tk r) (g.own r) g.S (w.setRow b new.toArray) (some b)
            ⟨rfl,rfl,rfl,by rw[size_setRow];exact Al _⟩ (fun k _ DL=>setRow_other w b k _ (fun e=>DL (by rw[e]))) (fun b' e=>by cases e;exact⟨hl,e2⟩) (fun _ _ h=>h) (fun _ _ h=>.inl h)
            (fun b' o e hs=>by cases e;exact absurd hs (e7 o)) (fun b' _ e=>by
             rw[e2]at e;cases e;exact⟨by rw[size_setRow];exact dg,.inl ⟨hl,e2⟩⟩) (by simp) (fun _=>⟨rfl,by omega,fun e=>(by rw[t1]at e;cases e),fun e=>by omega⟩) (fun hg In=>by
             obtain⟨u1,u2,u3,u4⟩:=BK g r (.slice (some ⟨b,0,none⟩) (es.length+es2.length) L0) (es.length+es2.length) (g.tk r) (g.own r) g.S;refine⟨u3.trans t1,by rw[u2,Ad],Fp,.inr ⟨b,L0,E,_,by rw[u1,Ad],u4.trans e2,by rw[Ad];exact Ki,E6,by rw[FJ];exact p1,?_,e7⟩⟩;rw[Ad,show new.toArray.toList=new from rfl,p2];exact W4.mono In (fun _ h=>h) (fun _ h=>h.elim))
           rw[e1];exact⟨_,_,_,_,_,CZ,hk,k1,k2,.msl _ r _ _ _ (by unfold AU;rw[Bl];simp) (by simp[Gh.upd,t1]) (by simp[Gh.upd]) (.inr ⟨_,rfl⟩) (fun _=>by simp[Gh.upd])⟩
        ·have ie:cap<es.length+es2.length:=by omega
         obtain⟨nc,rest,r1,r2,r3⟩:=If hT w (ty:=ty) ht Ek hz (by rw[←RB];exact o1) hρ ha ⟨m1,m2,a2,c2,rfl,m4⟩ rfl (by omega) ie q3 q4;have E6:=H3 w.drew (.cells (olds++news++rest).toArray e (0,0)) (b:=w.heap.size) rfl
         obtain⟨k1,k2⟩:=hI.upd r (.arr sz (es++es2)) (.slice (some ⟨w.heap.size,0,none⟩) (es.length+es2.length) nc) (es.length+es2.length) (g.tk r) (some w.heap.size) g.S
          (w.drew.alloc (.cells (olds++news++rest).toArray e (0,0))) none
          ⟨rfl,rfl,rfl,by rw[World.size_alloc];exact Nat.le_succ _⟩ (fun k Kv _=>by rw[heap_alloc_old _ _ (by exact Kv)];rfl) (fun b' e=>by cases e) (fun _ _ h=>h) (fun _ _ h=>.inl h)
          (fun b' o e=>by cases e) (fun b' _ e=>by cases e;exact⟨by rw[World.size_alloc];exact Ha _,.inr (Al _)⟩) (by simp) (fun _=>⟨rfl,by omega,fun e=>(by rw[t1]at e;cases e),fun e=>by omega⟩) (fun hg In=>by
           obtain⟨u1,u2,u3,u4⟩:=BK g r (.slice (some ⟨w.heap.size,0,none⟩) (es.length+es2.length) nc) (es.length+es2.length) (g.tk r) (some w.heap.size) g.S;refine⟨u3.trans t1,by rw[u2,Ad],Fp,.inr ⟨w.heap.size,nc,e,_,by rw[u1,Ad],u4,by rw[Ad];exact r2,E6,by rw[FJ,RB];exact r3,?_,fun o ho=>by have:=hI.slt _ _ ho;omega⟩⟩;rw[Ad,show(olds++news++rest).toArray.toList=olds++news++rest from rfl,HR (by rw[Ad,o1.1,m1,RB,Fv])];exact W4.mono In (fun _ h=>h) (fun _ h=>h.elim))
         exact⟨_,_,_,_,_,r1,hk,k1,k2,.msl _ r _ _ _ (by unfold AU;rw[Bl];simp) (by simp[Gh.upd,t1]) (by simp[Gh.upd]) (.inr ⟨_,rfl⟩) (fun _=>by simp[Gh.upd])⟩
      ·exact hk.elim
     ·exact hk.elim
    ·exact hk.elim
 ·exact hk.elim
end
section
variable {P:Program}{w0:World}{g0:Gh}{h0 h:Nat→HO}{g:Gh}{w:World}(hI:DQ w0 g0 h0 h g w)
include hI
theorem Om{d sz n:Nat}{es:List (List AV)}{a:Option Addr}(hd:h d=.free)(hl:∀c∈es,c.length=sz)(hn:es.length=n)(hr:BS g w FL (.slice .none es) (.slice a n n)) :
  ∃g',DQ w0 g0 h0 (A2 h d (.tok sz n)) g' w∧Le h g w (A2 h d (.tok sz n)) g' w∧BS g' w (AU (A2 h d (.tok sz n))) (.slice (.id d sz) es) (.slice a n n):=by
 obtain⟨k1,k2⟩:=hI.upd d (.tok sz n) (.slice a n n) n true none g.S w none ⟨rfl,rfl,rfl,Al _⟩ (fun _ _ _=>rfl) (fun b e=>by cases e) (fun _ _ h=>h) (fun _ _ h=>.inl h) (fun b o e=>by cases e) (fun b _ e=>by cases e) (by simp)
  (fun hu=>absurd hd hu) (fun _ _=>by
   obtain⟨u1,u2,u3,u4⟩:=BK g d (.slice a n n) n true none g.S;exact⟨u3,u2,a,n,u1,.inl ⟨rfl,u4⟩⟩)
 exact⟨_,k1,k2,.tok _ d sz es _ (((hr.up (AU h)).le k2)) hl (by unfold AU;rw[Bl];simp) (by simp[Gh.upd]) (by simp[Gh.upd,hn]) (fun _=>by simp[Gh.upd])⟩
theorem ZB{cx:Cx}{d:Option Nat}{x:AV}{vx:Value}{K:HK}(hx:BS g w (AU h) x vx)(hk:OR cx d h x K):∃g' av h',K av h'∧DQ w0 g0 h0 h' g' w∧Le h g w h' g' w∧BS g' w (AU h') av vx:=by
 have plain:K x h→∃g' av h',K av h'∧DQ w0 g0 h0 h' g' w∧Le h g w h' g' w∧BS g' w (AU h') av vx:=fun hk=>⟨g,x,h,hk,hI,.refl _ _ _,hx⟩;unfold OR at hk;split at hk
 ·exact plain hk
 ·rename_i d;split at hk
  ·rename_i sz _;split at hk
   ·refine⟨g,unT x,h,hk,hI,.refl _ _ _,?_⟩;cases x with
    |slice tk es=>exact(BS.slice_none hx).up _
    |_=>exact hx
   ·split at hk
    ·split at hk
     ·rename_i hd;obtain rfl:=hx.v_eq;obtain⟨g',k1,k2,k3⟩:=Om hI (sz:=sz) (es:=[]) (a:=none) hd (by simp) rfl (.snil _ _ _);exact⟨g',_,_,hk,k1,k2,k3⟩
     ·exact hk.elim
    ·exact plain hk
  ·split at hk
   ·rename_i sz _;split at hk
    ·split at hk
     ·rename_i hd;obtain rfl:=hx.v_eq
      obtain⟨k1,k2⟩:=hI.upd d (.arr sz []) (.slice none 0 0) 0 true none g.S w none ⟨rfl,rfl,rfl,Al _⟩ (fun _ _ _=>rfl) (fun b e=>by cases e) (fun _ _ h=>h) (fun _ _ h=>.inl h) (fun b o e=>by cases e) (fun b _ e=>by cases e) (by simp)
       (fun hu=>absurd hd hu) (fun _ _=>by
        obtain⟨u1,u2,u3,u4⟩:=BK g d (.slice none 0 0) 0 true none g.S;exact⟨u3,u2,by simp,.inl ⟨rfl,u1,u4⟩⟩)
      exact⟨_,_,_,hk,k1,k2,.msl _ d 0 none 0 (by unfold AU;rw[Bl];simp) (by simp[Gh.upd]) (AG _) (.inl rfl) (fun _=>by simp[Gh.upd])⟩
     ·exact hk.elim
    ·exact plain hk
   ·exact plain hk
theorem YK{T:GS}{mku:List Nat}{d:Option Nat}{ty:Nat}{K:HK}(hk:K2 T mku d h ty K):OG P w0 g0 h0 h g w (Instr.makeMap ty none) K:=by
 unfold K2 at hk;split at hk
 ·exact hk.elim
 ·rename_i d;split at hk
  ·rename_i hd;split at hk
   ·split at hk
    ·rename_i sh _;split at hk
     ·obtain⟨k1,k2⟩:=hI.newOwn hd (.mapU sh []) (.map #[] 0) (.map (some w.heap.size)) 0 false w ⟨rfl,rfl,rfl,rfl⟩ (by simp) (fun hg In=>by
       obtain⟨u1,u2,u3,u4⟩:=BK g d (.map (some w.heap.size)) 0 false (some w.heap.size) g.S;exact⟨u3,w.heap.size,#[],0,u4,u1,H3 w _ rfl,⟨rfl,by simp,by simp,by simp,by simp,by simp⟩,by simp,fun o ho=>by have:=hI.slt _ _ ho;omega⟩)
      refine⟨_,_,_,_,_,?_,hk,k1,k2,.mref _ d w.heap.size (by unfold AU;rw[Bl];simp) ?_ ?_⟩
      ·simp[Instr.makeMap]
      ·simp[Gh.upd]
      ·simp[Gh.upd]
     ·obtain⟨k1,k2⟩:=hI.newOwn hd (.map sh []) (.map #[] 0) (.map (some w.heap.size)) 0 false w ⟨rfl,rfl,rfl,rfl⟩ (by simp) (fun hg In=>by
       obtain⟨u1,u2,u3,u4⟩:=BK g d (.map (some w.heap.size)) 0 false (some w.heap.size) g.S;exact⟨u3,w.heap.size,#[],0,u4,u1,H3 w _ rfl,⟨rfl,by simp,by simp,by simp,by simp,by simp⟩,by simp,fun o ho=>by have:=hI.slt _ _ ho;omega⟩)
      refine⟨_,_,_,_,_,?_,hk,k1,k2,.mref _ d w.heap.size (by unfold AU;rw[Bl];simp) ?_ ?_⟩
      ·simp[Instr.makeMap]
      ·simp[Gh.upd]
      ·simp[Gh.upd]
    ·exact hk.elim
   ·exact hk.elim
  ·exact hk.elim
omit hI in
theorem BS.sub{es:List (List AV)}{sz l m:Nat}{x:Value}{a:Option Addr}{n cap:Nat}(hr:BS g w FL (.slice .none es) x)(hx:x=.slice a n cap)(hl:∀c∈es,c.length=sz)(h1:l≤m)(h2:m≤es.length)(c' : Nat)(hc:m-l≤c')(a' : Option Addr)
  (ha:a'=a.map (·.add (l*sz))∨(m=l∧a'=a)):BS g w FL (.slice .none ((es.take m).drop l)) (.slice a' (m-l) c'):=by
 subst hx;have CJ:((es.take m).drop l).length=m-l:=by rw[Ap,AC];omega
 by_cases h0:m-l=0
 ·have:(es.take m).drop l=[]:=Az (by omega)
  rw[this,h0];exact .snil _ _ _
 ·cases hr with
  |snil=>simp at h2;omega
  |slice _ _ b off GQ cap val ql Qu DN Er =>
   have hz:GQ=sz:=by
    have:(0:Nat)<es.length:=by omega
    have h3:=Qu 0 es[0] (AE this);rw[←h3];exact hl _ (Ak this)
   subst hz;have ha' : a'=some ⟨b,off+l*GQ,none⟩:=by
    rcases ha with h | ⟨h,_⟩
    ·rw[h];simp[Addr.add_lit]
    ·omega
   subst ha';rw[←CJ];have Fy:∀(i:Nat) (cs:List AV),((es.take m).drop l)[i]?=some cs→es[l+i]?=some cs:=fun i cs h=>by
    rw[BZ]at h
    by_cases hi:l+i<m
    ·rwa [BQ hi]at h
    ·rw[A8 (by rw[AC];omega)]at h;cases h
   refine .slice _ _ b (off+l*GQ) GQ c' (fun i j=>val (l+i) j) (by rw[CJ];exact hc) (fun i cs h=>Qu _ _ (Fy i cs h)) (fun i cs j av h1 h2=>?_) (fun i cs j av h1 h2=>Er _ _ _ _ (Fy i cs h1) h2)
   have:=DN _ _ _ _ (Fy i cs h1) h2
   rwa [show off+(l+i)*GQ+j=off+l*GQ+i*GQ+j by rw[Fv];omega]at this
omit hI in
theorem K8{t:Nat→AV}{ρ:Operand→Value}(ht:∀x:Operand,BS g w (AU h) (ev t x) (ρ x)){o:Option Operand}{i:Option Int}(hk:Ce t o=some i):o.map ρ=i.map fun n=>.int .i64 n:=by
 cases o with
 |none=>cases hk;rfl
 |some x =>
  unfold Ce at hk;dsimp only at hk;split at hk
  ·rename_i n e;cases hk
   have:=ht x
   rw[e]at this;simp[this.v_eq]
  ·cases hk
omit hI in
theorem Uw(b:Bool)(len cap:Nat)(lo hi mx:Option Int)(lC:mx=none∨hi≠none)(h0:0≤lo.getD 0)(h1:lo.getD 0≤hi.getD len)(h2:hi.getD len≤mx.getD cap)(h3:mx.getD cap≤cap) :
  (Instr.sliceBounds b len cap (lo.map fun n=>.int .i64 n) (hi.map fun n=>.int .i64 n) (mx.map fun n=>.int .i64 n)).run P w=.ok ((lo.getD 0).toNat,(hi.getD len).toNat,(mx.getD cap).toNat) w:=by
 have e1:∀n:Int,0≤n→(n.toNat:Int)=n:=fun n hn=>Int.toNat_of_nonneg hn;cases mx with
 |none =>
  cases hi with
  |none =>
   cases lo with
   |none=>simp[Instr.sliceBounds]
   |some l =>
    simp only[CE,D8]at h0 h1 h2;simp[Instr.sliceBounds,run_sliceBound,h0,h1]
  |some hh =>
   simp only[CE,D8]at h1 h2;have sd:0≤hh:=by omega
   cases lo with
   |none=>simp[Instr.sliceBounds,run_sliceBound,sd,h2]
   |some l =>
    simp only[CE]at h0 h1;simp[Instr.sliceBounds,run_sliceBound,h0,h1,h2,sd,e1]
 |some m =>
  cases hi with
  |none=>simp at lC
  |some hh =>
   simp only[CE]at h1 h2 h3;have sd:0≤hh:=by omega
   have uo:0≤m:=by omega
   cases lo with
   |none=>simp[Instr.sliceBounds,run_sliceBound,h2,h3,sd,uo,e1]
   |some l =>
    simp only[CE]at h0 h1;simp[Instr.sliceBounds,run_sliceBound,h0,h1,h2,h3,sd,uo,e1]
omit hI in
theorem E1{T:GS}(hT:CH P T){ty e k:Nat}(ht:(T ty).d=.slice e)(hk:(T e).size=k+1)(a:Option Addr)(len cap:Nat)(lo hi mx:Option Int)(lC:mx=none∨hi≠none)(h0:0≤lo.getD 0)(h1:lo.getD 0≤hi.getD len)(h2:hi.getD len≤mx.getD cap)(h3:mx.getD cap≤cap) :
  (Instr.sliceAt ty (.slice a len cap) (lo.map fun n=>.int .i64 n) (hi.map fun n=>.int .i64 n) (mx.map fun n=>.int .i64 n)).run P w =
   .ok (.slice (if(mx.getD cap).toNat=(lo.getD 0).toNat then a else a.map (·.add ((lo.getD 0).toNat*(T e).size))) ((hi.getD len).toNat-(lo.getD 0).toNat) ((mx.getD cap).toNat-(lo.getD 0).toNat)) w:=by
 have hu:=hT.slice ht;have hb:=Uw (P:=P) (w:=w) true len cap lo hi mx lC h0 h1 h2 h3;simp only[Instr.sliceAt,Sem.run_bind,run_underlying hu,Result.andThen_ok,Instr.slice,hb,hT.size1 w hk,Sem.run_pure];rw[hk]
theorem DQ.moveO(r r2:Nat)(DL:r2≠r)(hf:h r2=.free)(hl:(h r).live){ob:Option Nat}(ho:∀c,ob=some c→g.own r=some c)(o' : HO)(x:Value)(n:Nat)(t:Bool)(hn:o'≠.free)
  (JL:Fj g w (g.upd r2 x n t ob g.S) w→Eo (g.upd r2 x n t ob g.S) w (AU (A2 (A2 h r .dead) r2 o')) r2 o') :
  DQ w0 g0 h0 (A2 (A2 h r .dead) r2 o') (g.upd r2 x n t ob g.S) w∧Le h g w (A2 (A2 h r .dead) r2 o') (g.upd r2 x n t ob g.S) w:=by
 have fq:Kr g (g.upd r2 x n t ob g.S) (AU h):=by
  intro i hi;have e:i≠r2:=fun e=>hi (by rw[e];exact hf);refine⟨by simp[Gh.upd,e],by simp[Gh.upd,e],fun _=>by simp[Gh.upd,e],fun _=>by simp[Gh.upd,e]⟩
 have hK:Fj g w (g.upd r2 x n t ob g.S) w:=fun b o hb=>⟨hb,rfl,fun _ _ h=>h⟩;have Ly:∀i,AU h i→AU (A2 (A2 h r .dead) r2 o') i:=fun i hi=>DV hn i (DV (by simp) i hi);have key:∀i,i≠r2→(A2 (A2 h r .dead) r2 o' i).live→i≠r∧(h i).live:=fun i h2 hl=>by
  rw[B8 _ _ _ _ h2]at hl
  by_cases e:i=r
  ·subst e;rw[Bl]at hl;exact hl.elim
  ·rw[B8 _ _ _ _ e]at hl;exact⟨e,hl⟩
 have own:∀i,i≠r2→(g.upd r2 x n t ob g.S).own i=g.own i:=fun i e=>by simp[Gh.upd,e]
 have Uj:(g.upd r2 x n t ob g.S).own r2=ob:=by simp[Gh.upd]
 refine⟨⟨hI.os,hI.tape,hI.output,hI.size,hI.frame,hI.slt,fun i=>?_,fun i j c hi hj ei ej=>?_,fun i c hi ei=>?_,hI.sg,hI.glob.keep hK⟩,fq,Ly,hK⟩
 ·by_cases e:i=r2
  ·subst e;rw[Bl];exact JL hK
  ·rw[B8 _ _ _ _ e]
   by_cases e1:i=r
   ·subst e1;rw[Bl];trivial
   ·rw[B8 _ _ _ _ e1];exact(hI.objs i).same hK Ly fq (by simp[Gh.upd,e]) (by simp[Gh.upd,e]) (by simp[Gh.upd,e]) (by simp[Gh.upd,e]) (fun b hl hb=>⟨rfl,fun k hk=>hk⟩)
 ·by_cases e1:i=r2<;>by_cases e2:j=r2
  ·exact e1.trans e2.symm
  ·subst e1;rw[Uj]at ei;rw[own j e2]at ej;obtain⟨a1,a2⟩:=key j e2 hj;exact absurd (hI.inj j r _ a2 hl ej (ho _ ei)) a1
  ·subst e2;rw[Uj]at ej;rw[own i e1]at ei;obtain⟨a1,a2⟩:=key i e1 hi;exact absurd (hI.inj i r _ a2 hl ei (ho _ ej)) a1
  ·rw[own i e1]at ei;rw[own j e2]at ej;exact hI.inj i j c (key i e1 hi).2 (key j e2 hj).2 ei ej
 ·by_cases e1:i=r2
  ·subst e1;rw[Uj]at ei;exact hI.loc r _ hl (ho _ ei)
  ·rw[own i e1]at ei;exact hI.loc i c (key i e1 hi).2 ei
theorem Ze{cx:Cx}(hT:CH P cx.T){d:Option Nat}{ty:Nat}{x:AV}{vx:Value}{t:Nat→AV}{ρ:Operand→Value}(ht:∀x:Operand,BS g w (AU h) (ev t x) (ρ x)){lo hi mx:Option Operand}{K:HK}(hx:BS g w (AU h) x vx)
  (hk:Us cx d h ty x (Ce t lo) hi mx K):OG P w0 g0 h0 h g w (Instr.sliceAt ty vx (lo.map ρ) (hi.map ρ) (mx.map ρ)) K:=by
 unfold Us at hk;split at hk
 ·rename_i d H6 e1;rw[K8 ht e1];split at hk
  ·rename_i e hs;split at hk
   ·exact hk.elim
   ·rename_i k Ek;split at hk
    ·rename_i r sz es;split at hk
     ·rename_i GQ n e0;split at hk
      ·rename_i hd;split at hk
       ·rename_i q1 q2;obtain rfl:=AP q1;have q2:=AP q2;obtain⟨⟨rfl,h1,h2⟩,hk⟩:=hk;have hl:(h r).live:=by rw[e0];trivial
        have DL:KT cx d≠r:=fun e=>by rw[e,e0]at hd;cases hd
        have ho:=hI.objs r;rw[e0]at ho;obtain⟨t1,l1,a,cap,a1,a3⟩:=ho;have hr:=hx.slice_none;cases hx with
        |tok _ _ _ _ _ fw Xw hu ht' hn L3 =>
         have hv:=L3 l1.symm;rw[a1]at hv;subst hv;have bx:es.length≤cap:=by rcases a3 with ⟨e1,_⟩ | ⟨e1,_⟩<;>omega
         have CZ:=E1 (P:=P) (w:=w) hT hs Ek a es.length cap (some H6) none none (.inl rfl) h1 h2 (by simp only[D8];omega) (by simp);simp only[CE,D8,Ba]at CZ;have CJ:(es.drop H6.toNat).length=es.length-H6.toNat:=Ap;have iv:=BS.sub (c':=cap-H6.toNat) hr rfl Xw (l:=H6.toNat) (m:=es.length) (by omega) (Al _) (by omega) (if cap=H6.toNat then a else a.map (·.add (H6.toNat*(cx.T e).size))) (by
          split
          ·exact .inr ⟨by omega,rfl⟩
          ·rw[q2];exact .inl rfl)
         rw[Dp]at iv
         have fin:∀ob:Option Nat,(∀c,ob=some c→g.own r=some c)→(es.length-H6.toNat=cap-H6.toNat∧ob=none∨es.length-H6.toNat≤cap-H6.toNat∧∃b E vs off,(if cap=H6.toNat then a else a.map (·.add (H6.toNat*(cx.T e).size)))=some ⟨b,off,none⟩∧ob=some b∧w.heap[b]?=some (.cells vs E (0,0))∧vs.size=off+(cap-H6.toNat)*GQ∧∀o,g.S b o→o<off+(es.length-H6.toNat)*GQ) →
           OG P w0 g0 h0 h g w (Instr.sliceAt ty (.slice a es.length cap) ((some H6).map fun n=>.int .i64 n) ((none:Option Operand).map ρ) ((none:Option Operand).map ρ)) K:=fun ob ho sC=>by
          obtain⟨k1,k2⟩:=hI.moveO r (KT cx d) DL hd hl ho (.tok GQ (es.drop H6.toNat).length) (.slice (if cap=H6.toNat then a else a.map (·.add (H6.toNat*(cx.T e).size))) (es.length-H6.toNat) (cap-H6.toNat)) (es.length-H6.toNat) true (by simp) (fun In=>by
           obtain⟨u1,u2,u3,u4⟩:=BK g (KT cx d) (.slice (if cap=H6.toNat then a else a.map (·.add (H6.toNat*(cx.T e).size))) (es.length-H6.toNat) (cap-H6.toNat)) (es.length-H6.toNat) true ob g.S;refine⟨u3,u2.trans CJ.symm,_,_,by rw[CJ];exact u1,?_⟩;rw[CJ,u4];exact sC)
          exact⟨_,w,_,_,_,CZ,hk,k1,k2,.tok _ _ _ _ _ (((iv.mono k2.keeps (fun _ h=>h) (fun _ h=>h.elim))).up _) (fun c hc=>Xw c (IM hc)) (by unfold AU;rw[Bl];simp) (by simp[Gh.upd]) (by simp[Gh.upd]) (fun _=>by simp[Gh.upd])⟩
         rcases a3 with ⟨e1,e2⟩ | ⟨e1,b,E,vs,off,rfl,e3,e4,e5,e6⟩
         ·exact fin none (fun c h=>by cases h) (.inl ⟨by omega,rfl⟩)
         ·by_cases hc:cap=H6.toNat
          ·exact fin none (fun c h=>by cases h) (.inl ⟨by omega,rfl⟩)
          ·refine fin (some b) (fun c h=>by cases h;exact e3) (.inr ⟨by omega,b,E,vs,off+H6.toNat*GQ,?_,rfl,e4,?_,fun o ho=>?_⟩)
           ·rw[Ao hc];simp[Addr.add_lit,q2]
           ·rw[e5,Nat.sub_mul]
            have:=Bs GQ (show H6.toNat≤cap by omega)
            omega
           ·have:=e6 o ho
            rw[Nat.sub_mul]
            have:=Bs GQ (show H6.toNat≤es.length by omega)
            omega
       ·exact hk.elim
      ·exact hk.elim
     ·exact hk.elim
    ·exact hk.elim
  ·exact hk.elim
 ·exact hk.elim
omit hI in
theorem N4{sz:Nat}:∀{es:List (List AV)},(∀cs∈es,cs.length=sz)→∀k,(es.take k).flatten=es.flatten.take (k*sz)
 | [],_,k=>by simp
 |c::es,hl,0=>by simp
 |c::es,hl,k+1=>by
  have h1:=hl c (Ac ..);have h2:c.length≤k*sz+sz:=by omega
  rw[Jh,BJ,BJ,N4 (fun x hx=>hl x (Af _ hx)) k,List.take_append,h1,D7,
   AJ h2,show k*sz+sz-sz=k*sz by omega]
omit hI in
theorem CP.takeE{U:Nat→Prop}{sz k:Nat}{es:List (List AV)}{vs:List Value}(hl:∀cs∈es,cs.length=sz)(hk:k≤es.length)(h:CP g w U es.flatten (vs.take (es.length*sz))):CP g w U (es.take k).flatten (vs.take (k*sz)):=by
 have e:vs.take (k*sz)=(vs.take (es.length*sz)).take (k*sz):=by
  rw[KJ,Nat.min_eq_left (Bs _ hk)]
 rw[N4 hl,e];refine⟨by rw[AC (l:=vs.take (es.length*sz)),h.1,AC],fun x hx=>h.2.1 x (EG hx),fun i av x q1 q2=>?_⟩;have hi:i<k*sz:=by
  rcases Ch i (k*sz)with q | q
  ·exact q
  ·rw[J5,Ao (by omega)]at q1;cases q1
 rw[J5,Ax hi]at q1 q2;exact h.2.2 i av x q1 q2
theorem bX{cx:Cx}(hT:CH P cx.T){d:Option Nat}{ty:Nat}{x:AV}{vx:Value}{t:Nat→AV}{ρ:Operand→Value}(ht:∀x:Operand,BS g w (AU h) (ev t x) (ρ x)){hi:Option Operand}{K:HK}(hx:BS g w (AU h) x vx)
  (hk:jy cx d h ty x (Ce t hi) K):OG P w0 g0 h0 h g w (Instr.sliceAt ty vx none (hi.map ρ) none) K:=by
 unfold jy at hk;split at hk
 ·rename_i d L8 e1;rw[K8 ht e1];split at hk
  ·rename_i e hs;split at hk
   ·exact hk.elim
   ·rename_i k Ek;split at hk
    ·rename_i r n;split at hk
     ·rename_i sz es e0;split at hk
      ·rename_i hd;split at hk
       ·rename_i q1 q3;have q1:=AP q1;obtain⟨⟨rfl,h1,h2⟩,hk⟩:=hk;have hl:(h r).live:=by rw[e0];trivial
        have DL:KT cx d≠r:=fun e=>by rw[e,e0]at hd;cases hd
        have ho:=hI.objs r;rw[e0]at ho;obtain⟨t1,l1,al,a2⟩:=ho;have CJ:(es.take L8.toNat).length=L8.toNat:=by rw[AC];omega
        cases hx with
        |msl _ _ _ a cap hu ht' Yo ha L3 =>
         have hv:=L3 l1.symm;have Pr:es.length≤cap:=by
          rcases a2 with ⟨b1,_,_⟩ | ⟨b,L0,E,vs,b1,_,b3,_⟩
          ·subst b1;exact AG _
          ·rw[b1]at hv;cases hv;exact b3
         have CZ:=E1 (P:=P) (w:=w) hT hs Ek a es.length cap none (some L8) none (.inl rfl) (by simp) (by simp only[D8,CE];exact h1) (by simp only[CE,D8];omega) (by simp);have LU:(if cap-(0:Nat)=0 then a else a.map (·.add (0*(cx.T e).size)))=a:=by
          rw[KL];split
          ·rfl
          ·rcases ha with e3 | ⟨b,rfl⟩
           ·cases a with
            |none=>rfl
            |some a=>simp[Addr.add]
           ·rfl
         simp only[CE,D8,Ba,Int.toNat_zero,Nat.sub_zero]at CZ LU;have key:∃a',(Instr.sliceAt ty (.slice a es.length cap) ((none:Option Int).map fun n=>.int .i64 n) ((some L8).map fun n=>.int .i64 n) ((none:Option Int).map fun n=>.int .i64 n)).run P w=.ok (.slice a' L8.toNat cap) w∧(a'=a):=⟨_,CZ,by first | exact LU | (split<;>first | rfl | exact LU | (simp_all))⟩
         obtain⟨a',CZ,rfl⟩:=key;have Kw:BS (g.upd (KT cx d) (.slice a' L8.toNat cap) L8.toNat true (g.own r) g.S) w (AU (A2 (A2 h r .dead) (KT cx d) (.arr sz (es.take L8.toNat)))) (.msl (KT cx d) L8.toNat) (.slice a' L8.toNat cap) :=
          .msl _ _ _ _ _ (by unfold AU;rw[Bl];simp) (by simp[Gh.upd]) (by simp[Gh.upd]) (ha.elim (fun e=>.inl (by omega)) .inr) (fun _=>by simp[Gh.upd])
         obtain⟨k1,k2⟩:=hI.moveO r (KT cx d) DL hd hl (ob:=g.own r) (fun c h=>h) (.arr sz (es.take L8.toNat)) (.slice a' L8.toNat cap) L8.toNat true (by simp) (fun In=>by
          obtain⟨u1,u2,u3,u4⟩:=BK g (KT cx d) (.slice a' L8.toNat cap) L8.toNat true (g.own r) g.S;refine⟨u3,u2.trans CJ.symm,fun c hc=>al c (EG hc),?_⟩;rcases a2 with ⟨b1,b2,b3⟩ | ⟨b,L0,E,vs,b1,b2,b3,b4,b5,b6,b7⟩
          ·subst b1;rw[b2]at hv;cases hv;have h0:L8.toNat=0:=by simp only[Ay]at h2;omega
           exact .inl ⟨List.take_nil,by rw[u1,h0],u4.trans b3⟩
          ·rw[b1]at hv;cases hv;refine .inr ⟨b,cap,E,vs,by rw[CJ];exact u1,u4.trans b2,by rw[CJ];omega,b4,b5,?_,b7⟩;rw[CJ];exact(CP.takeE al (by omega) b6).mono In (fun _ h=>h) (fun _ h=>h.elim))
         exact⟨_,w,_,_,_,CZ,hk,k1,k2,Kw⟩
       ·exact hk.elim
      ·exact hk.elim
     ·exact hk.elim
    ·exact hk.elim
  ·exact hk.elim
 ·exact hk.elim
theorem Wa{cx:Cx}(hT:CH P cx.T){d:Option Nat}{ty:Nat}{x:AV}{vx:Value}{t:Nat→AV}{ρ:Operand→Value}(ht:∀x:Operand,BS g w (AU h) (ev t x) (ρ x)){lo hi mx:Option Operand}{K:HK}(hx:BS g w (AU h) x vx)
  (hk:GP cx d h ty x (Ce t lo) (Ce t hi) (Ce t mx) K):OG P w0 g0 h0 h g w (Instr.sliceAt ty vx (lo.map ρ) (hi.map ρ) (mx.map ρ)) K:=by
 unfold GP at hk;split at hk
 ·rename_i H6 L8 nI e1 e2 e3;rw[K8 ht e1,K8 ht e2,K8 ht e3];split at hk
  ·rename_i hs;split at hk
   ·rename_i s;obtain⟨⟨h1,h2,h3⟩,hk⟩:=hk;obtain rfl:=hx.v_eq;have hb:=Uw (P:=P) (w:=w) false s.size s.size H6 L8 none (.inl rfl) h1 h2 (by simpa using h3) (by simp);refine(BX.val (x:=.string (s.extract (H6.getD 0).toNat (L8.getD s.size).toNat)) ?_ hk).does hI;simp only[Instr.sliceAt,Sem.run_bind,run_underlying (hT.string hs),Result.andThen_ok,Instr.slice];simp only[Option.map_none,Option.isSome_none,Dz,GJ]at hb⊢;simp only[Sem.run_bind,hb,Result.andThen_ok,Sem.run_pure]
   ·exact hk.elim
  ·rename_i e hs;split at hk
   ·exact hk.elim
   ·rename_i k Ek;split at hk
    ·rename_i tk es;have hr:=hx.slice_none;obtain⟨a,cap,hv,Pr⟩:∃a cap,vx=.slice a es.length cap∧es.length≤cap:=by
      cases hr with
      |snil _ a cap=>exact⟨a,cap,rfl,AG _⟩
      |slice _ _ b off sz cap val hc=>exact⟨_,cap,rfl,hc⟩
     subst hv;split at hk
     ·obtain⟨⟨h1,h2,h3⟩,hl,hk⟩:=hk;have CZ:=E1 (P:=P) (w:=w) hT hs Ek a es.length cap H6 L8 none (.inl rfl) h1 h2 (by simp only[D8];omega) (by simp);refine BX.does hI ⟨_,_,CZ,hk,(BS.sub (c':=cap-(H6.getD 0).toNat) hr rfl hl (l:=(H6.getD 0).toNat) (m:=(L8.getD es.length).toNat) (by omega) (by omega) (by simp;omega) _ ?_).up _⟩;split
      ·rename_i e;simp only[D8,Ba]at e;exact .inr ⟨by omega,rfl⟩
      ·exact .inl rfl
     ·rename_i m;split at hk
      ·rename_i d hh;split at hk
       ·obtain⟨⟨h1,h2,rfl,h3⟩,hl,hk⟩:=hk;have CZ:=E1 (P:=P) (w:=w) hT hs Ek a es.length cap H6 (some m) (some m) (.inr (by simp)) h1 h2 (by simp) (by simp only[CE];omega);simp only[CE]at CZ;have CJ:((es.take m.toNat).drop (H6.getD 0).toNat).length=m.toNat-(H6.getD 0).toNat:=by rw[Ap,AC];omega
        refine BX.does hI ⟨_,_,CZ,hk,.full _ _ _ _ ((BS.sub (c':=m.toNat-(H6.getD 0).toNat) hr rfl hl (l:=(H6.getD 0).toNat) (m:=m.toNat) (by omega) (by omega) (by omega) _ ?_).up _) (fun c hc=>hl c (EG (IM hc))) ⟨_,by rw[CJ]⟩⟩;split
        ·rename_i e;exact .inr ⟨e,rfl⟩
        ·exact .inl rfl
       split at hk
       ·rename_i hd;obtain⟨⟨h1,h2,rfl,h3⟩,hl,hk⟩:=hk;have CZ:=E1 (P:=P) (w:=w) hT hs Ek a es.length cap H6 (some m) (some m) (.inr (by simp)) h1 h2 (by simp) (by simp only[CE];omega);simp only[CE]at CZ
        obtain⟨g',k1,k2,k3⟩:=Om hI (sz:=(cx.T e).size) (n:=m.toNat-(H6.getD 0).toNat) hd (es:=(es.take m.toNat).drop (H6.getD 0).toNat) (fun c hc=>hl c (EG (IM hc))) (by rw[Ap,AC];omega)
         (BS.sub (c':=m.toNat-(H6.getD 0).toNat) hr rfl hl (l:=(H6.getD 0).toNat) (m:=m.toNat) (by omega) (by omega) (by omega) (if m.toNat=(H6.getD 0).toNat then a else a.map (·.add ((H6.getD 0).toNat*(cx.T e).size))) (by
          split
          ·rename_i e;exact .inr ⟨e,rfl⟩
          ·exact .inl rfl))
        exact⟨_,w,g',_,_,CZ,hk,k1,k2,k3⟩
       ·exact hk.elim
      ·exact hk.elim
    ·obtain⟨⟨h1,h2,h3⟩,h4,hk⟩:=hk;obtain rfl:=hx.v_eq;have CZ:=E1 (P:=P) (w:=w) hT hs Ek none 0 0 H6 L8 nI h4 (by omega) (by simp only[I1]at *;omega) (by simp only[I1]at *;omega) (by simp only[I1]at *;omega);refine BX.does hI (BX.val (x:=.slice none 0 0) ?_ hk);rw[CZ];simp only[h1,I1,h2,h3];simp
    ·rename_i r n;split at hk
     ·rename_i sz es e0;split at hk
      ·rename_i RB;obtain rfl:=AP RB;obtain⟨⟨h1,h2,h3,h4,h5⟩,hk⟩:=hk;have ho:=hI.objs r;rw[e0]at ho;obtain⟨t1,l1,al,a3⟩:=ho;have hl:(h r).live:=by rw[e0];trivial
       have sy:nI=none∨L8≠none:=h5.imp id (fun q=>q.2);cases hx with
       |msl _ _ _ a cap hu ht' hn ha L3 =>
        have hv:=L3 (h1.trans l1.symm);subst h1;have lC:∀c:Nat,es.length≤c→L8.getD es.length≤nI.getD c∧nI.getD c≤c:=fun c hc=>by
         rcases h5 with h5 | ⟨h5,DL⟩
         ·rw[h5];simp only[D8];omega
         ·obtain⟨m,hm⟩:=Option.ne_none_iff_exists'.1 DL;rw[h5,hm];rw[hm]at h3 h4;simp only[CE]at h3 h4⊢;omega
        rcases a3 with ⟨rfl,q2,q3⟩ | ⟨b,L0,E,vs,q1,q2,q3,q4,q5,q6,q7⟩
        ·rw[q2]at hv;cases hv;have CZ:=E1 (P:=P) (w:=w) hT hs Ek none 0 0 H6 L8 nI sy h2 h3 (lC 0 (by simp)).1 (lC 0 (by simp)).2
         obtain⟨k1,k2⟩:=hI.upd r .dead (g.ρ r) (g.ln r) (g.tk r) (g.own r) g.S w none ⟨rfl,rfl,rfl,Al _⟩ (fun _ _ _=>rfl) (fun b e=>by cases e) (fun _ _ h=>h) (fun _ _ h=>.inl h) (fun b o e=>by cases e) (fun b hh _=>by cases hh) (by simp)
          (fun _=>⟨rfl,Al _,fun _=>rfl,fun _=>rfl⟩) (fun _ _=>trivial)
         refine⟨_,w,_,_,_,CZ,hk,k1,k2,?_⟩;have z1:((H6.getD 0).toNat)=0:=by simp only[Ay,I1]at h3 h4;omega
         have z2:((L8.getD (([]:List (List AV)).length:Int)).toNat)=0:=by simp only[Ay,I1]at h3 h4⊢;omega
         simp only[List.take_nil,List.drop_nil];have z3:((L8.getD ((0:Nat):Int)).toNat)=0:=z2;rw[z1,z3];exact .snil _ _ _
        ·rw[q1]at hv;cases hv;have CZ:=E1 (P:=P) (w:=w) hT hs Ek (some ⟨b,0,none⟩) es.length cap H6 L8 nI sy h2 h3 (lC _ q3).1 (lC _ q3).2;have dg:=(hI.loc r b hl q2).1
         obtain⟨k1,k2⟩:=hI.upd r .dead (g.ρ r) (g.ln r) (g.tk r) (g.own r) (g.more b (es.length*(cx.T e).size)) w none ⟨rfl,rfl,rfl,Al _⟩ (fun _ _ _=>rfl) (fun b e=>by cases e) (fun _ _ h=>.inl h)
          (fun b' o hs=>hs.elim .inl (fun hs=>.inr ⟨by rw[hs.1];exact dg,.inr ⟨hl,by rw[hs.1];exact q2⟩⟩)) (fun b o e=>by cases e) (fun b hh _=>by cases hh) (by simp)
          (fun _=>⟨rfl,Al _,fun _=>rfl,fun _=>rfl⟩) (fun _ _=>trivial)
         have Er:=BS.slice_row (g:=g.upd r (g.ρ r) (g.ln r) (g.tk r) (g.own r) (g.more b (es.length*(cx.T e).size))) (U:=FL) q4 al q3 (q6.mono k2.keeps (fun _ h=>h) (fun _ h=>h.elim)) (fun o ho=>.inr ⟨rfl,ho⟩);have AbR:=lC _ q3;refine⟨_,w,_,_,_,CZ,hk,k1,k2,(BS.sub (c':=(nI.getD cap).toNat-(H6.getD 0).toNat) Er rfl al (l:=(H6.getD 0).toNat) (m:=(L8.getD es.length).toNat) (by omega) (by omega) (by omega) _ ?_).up _⟩;split
         ·rename_i e;exact .inr ⟨by omega,rfl⟩
         ·exact .inl rfl
      ·exact hk.elim
     ·exact hk.elim
    ·exact hk.elim
  ·exact hk.elim
 ·exact hk.elim
theorem U5{cx:Cx}(hT:CH P cx.T){d:Option Nat}{ty:Nat}{n c:AV}{vn vc:Value}{K:HK}(hn:BS g w (AU h) n vn)(hc:BS g w (AU h) c vc)(hk:JQ cx d h ty n c K) :
  OG P w0 g0 h0 h g w (Instr.makeSlice ty vn vc) K:=by
 unfold JQ at hk;split at hk
 ·rename_i e n c hs;obtain rfl:=hn.v_eq;obtain rfl:=hc.v_eq;split at hk
  ·rename_i Sd;split at hk
   ·rename_i Nr;have Nr:=AP Nr;split at hk
    ·exact hk.elim
    ·rename_i k Ek;obtain⟨⟨h1,h2,h3,h4⟩,hk⟩:=hk;obtain⟨i,z,i1,i2,i3,i4,i5⟩:=HS hT Ek;have pv:(cx.T e).zc≠[]:=fun e0=>by rw[e0]at Nr;rw[Ek]at Nr;cases Nr
     have wn:IntKind.i64.wrap n=n:=Nm ⟨by omega,by omega⟩;have wc:IntKind.i64.wrap c=c:=Nm ⟨by omega,by omega⟩;have Fp:∀l:List AV,(∀a∈l,one a=true)→Ho l=true:=by
      intro l
      induction l with
      |nil=>intro _;rfl
      |cons a l ih=>intro h;simp[Ho,h a (List.mem_cons_self ..),ih (fun b hb=>h b (List.mem_cons_of_mem _ hb))]
     have pq:((Array.range (c.toNat*(cx.T e).size)).map fun k=>z.cells[k % z.cells.size]!).toList=(List.replicate c.toNat (cx.T e).zc).flatten:=by
      rw[Ib c.toNat _ pv,Nr,i5];have e6:z.cells.size=(cx.T e).size:=by rw[←Nr,i5];simp
      simp[e6,Array.getElem!_eq_getD]
     have hzs:(cx.T e).zc.length=(cx.T e).size:=Nr;have un:∀c'∈List.replicate c.toNat (cx.T e).zc,c'.length=(cx.T e).size:=fun c' hc=>by rw[Cq hc];exact Nr
     have w9 : ∀c'∈List.replicate n.toNat ((cx.T e).zc.map AV.v),c'.length=(cx.T e).size:=fun c' hc=>by rw[Cq hc,Bh];exact Nr
     have xa:∀c'∈List.replicate n.toNat (cx.T e).zc,c'.length=(cx.T e).size:=fun c' hc=>by rw[Cq hc];exact Nr
     obtain⟨g',av,h',q1,q2,q3,q4⟩:=Kl hI hk (vs:=(Array.range (c.toNat*(cx.T e).size)).map fun k=>z.cells[k % z.cells.size]!) (cap:=c.toNat) e w9 (by rw[CA];omega) (by simp) (by
      rw[pq,CA];have e1:(List.replicate n.toNat ((cx.T e).zc.map AV.v)).flatten=(List.replicate n.toNat (cx.T e).zc).flatten.map AV.v:=by
       rw[SL,List.map_replicate]
      have e2:(List.replicate c.toNat (cx.T e).zc).flatten.take (n.toNat*(cx.T e).size)=(List.replicate n.toNat (cx.T e).zc).flatten:=by
       obtain⟨m,hm⟩:∃m,c.toNat=n.toNat+m:=⟨c.toNat-n.toNat,by omega⟩;rw[hm,←List.replicate_append_replicate,CU,HR (by rw[Du xa,CA])]
      rw[e1,e2];refine CP.vals (Fp _ (fun a ha=>?_));obtain⟨x,hx,rfl⟩:=Ar.1 ha;obtain⟨l,hl,hx⟩:=EF.1 hx;rw[Cq hl]at hx;exact MS Sd _ (Ar.2 ⟨x,hx,rfl⟩)) w ⟨rfl,rfl,rfl,rfl⟩
     rw[CA]at q4;refine⟨_,_,g',av,h',?_,q1,q2,q3,q4⟩;have wL:¬((cx.T e).bytes*c>2 ^ 48):=by rw[Int.mul_comm];omega
     have gY:((decide (c<0)||decide (((cx.T e).bytes:Int)*c>2 ^ 48))||decide (n<0)||decide (n>c))=false:=by
      simp only[Bool.or_eq_false_iff,Kf];exact⟨⟨⟨by omega,wL⟩,by omega⟩,by omega⟩
     simp only[Instr.makeSlice,Sem.run_bind,run_underlying (hT.slice hs),Result.andThen_ok,asInt,asIntOf,Sem.run_pure,typeInfo,run_program,i1,i4,wn,wc,gY,Dz,GJ,run_askRoom,hT.size1 w Ek]
     by_cases hz:c.toNat*(k+1)=0
     ·have wO:c.toNat=0:=by
       rcases Nat.mul_eq_zero.1 hz with h | h
       ·exact h
       ·cases h
      rw[wO];simp only[KL,RD];simp only[show Array.range 0=#[]from rfl,Array.map_empty];simp[newRow]
     ·simp only[Ao hz,Sem.run_bind,zeroValue,typeInfo,run_program,i1,i2,Result.andThen_ok,Sem.run_pure];rw[Ek];simp[newRow]
   ·exact hk.elim
  ·exact hk.elim
 ·exact hk.elim
end
end Go.Eng
