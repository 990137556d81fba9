/- Lemmas for the claims of this seat, without a condition: part 9 (EngR, EngS). -/
import Derived.Test.YtmcbkdbfaneofaaGreatDoorBA08
namespace Go.Eng
theorem CR.app{g:Gh}{w:World}{U:Nat→Prop}{UN bs:List AV}{xs ys:List Value}(h:CR g w U UN xs)(k:CR g w U bs ys):CR g w U (UN++bs) (xs++ys):=by
 refine⟨by simp[h.1,k.1],fun x hx=>(Ba.1 hx).elim (h.2.1 x) (k.2.1 x),fun i av x h1 h2=>?_⟩
 by_cases hi:i<UN.length
 ·rw[A3 hi]at h1;rw[A3 (by rw[h.1];exact hi)]at h2;exact h.2.2 i av x h1 h2
 ·rw[A1 (by omega)]at h1;rw[A1 (by rw[h.1];omega),h.1]at h2;exact k.2.2 _ av x h1 h2
section
variable {P:Program}{w0:World}{g0:Gh}{h0 h:Nat→HO}{g:Gh}{w:World}(hI:DS w0 g0 h0 h g w)
include hI
omit hI in
theorem QU(t ty e:TypeId)(i:TypeInfo)(ht:P.underlying t=some (.slice e))(hi:P.info? e=some i){E:TypeId}
  (g OA aJ:Nat) (FP:Array Value) (hg:w.heap[g]?=some (.cells FP E (0,0)))
  (a:Addr) (m c:Nat) (news:List Value) (hl:news.length=m*i.size) (Jc:∀j u,news[j]?=some u→w.cell? (a.add j)=some u) (h1:∀u∈news,u.oneCell'=true)
  (Kd:OA+m≤aJ) (ZT:OA*i.size+news.length≤FP.size) :
  (Builtin.append_ #[t,t] ty #[.slice (some ⟨g,0,none⟩) OA aJ,.slice (some a) m c]).run P w =
   .ok (.slice (some ⟨g,0,none⟩) (OA+m) aJ) (w.setRow g (FP.toList.take (OA*i.size)++news++FP.toList.drop (OA*i.size+news.length)).toArray):=by
 have hf:=run_firstCells_some (P:=P) w i.size m a m c news hl Jc;have JH:=run_storeCells_at P g (OA*i.size) E news 0 FP w hg (by simpa using ZT) h1;simp only[DK]at JH;simp[Builtin.append_,run_underlying ht,sizeOf,typeInfo,hi,Builtin.lenOf,Kd,hf,Addr.add_lit,JH]
omit hI in
theorem Ur(t ty e:TypeId)(i:TypeInfo)(ht:P.underlying t=some (.slice e))(hi:P.info? e=some i){E:TypeId}
  (g off OA aJ:Nat) (FP:Array Value) (hg:w.heap[g]?=some (.cells FP E (0,0)))
  (a:Addr) (m c:Nat) (news:List Value) (hl:news.length=m*i.size) (Jc:∀j u,news[j]?=some u→w.cell? (a.add j)=some u) (h1:∀u∈news,u.oneCell'=true)
  (Kd:OA+m≤aJ) (ZT:off+OA*i.size+news.length≤FP.size) :
  (Builtin.append_ #[t,t] ty #[.slice (some ⟨g,off,none⟩) OA aJ,.slice (some a) m c]).run P w =
   .ok (.slice (some ⟨g,off,none⟩) (OA+m) aJ) (w.setRow g (FP.toList.take (off+OA*i.size)++news++FP.toList.drop (off+OA*i.size+news.length)).toArray):=by
 have hf:=run_firstCells_some (P:=P) w i.size m a m c news hl Jc;have JH:=run_storeCells_at P g (off+OA*i.size) E news 0 FP w hg (by simpa using ZT) h1;simp only[DK]at JH;simp[Builtin.append_,run_underlying ht,sizeOf,typeInfo,hi,Builtin.lenOf,Kd,hf,Addr.add_lit,JH]
omit hI in
theorem mA{b off n m sz cap:Nat}{FP:Array Value}{E:TypeId}{olds news:List Value}(hb:w.heap[b]?=some (.cells FP E (0,0)))(Yc:FP.size=off+cap*sz)(hn:n≤cap)(hm:n+m≤cap)(hnl:news.length=m*sz)(hol:olds.length=n*sz)
  (GV:∀j u,olds[j]?=some u→w.cell? ⟨b,off+j,none⟩=some u) :
  (FP.toList.take (off+n*sz)++news++FP.toList.drop (off+n*sz+news.length)).length=off+cap*sz ∧
  ((FP.toList.take (off+n*sz)++news++FP.toList.drop (off+n*sz+news.length)).drop off).take ((n+m)*sz)=olds++news ∧
  ∀o,o<off+n*sz→(FP.toList.take (off+n*sz)++news++FP.toList.drop (off+n*sz+news.length)).toArray[o]?=FP[o]?:=by
 have hcl:FP.toList.length=off+cap*sz:=by rw[B8];exact Yc
 have TL:(n+m)*sz≤cap*sz:=Bn _ hm;have gZ:n*sz≤cap*sz:=Bn _ hn;rw[Ft]at TL;have KU:(FP.toList.take (off+n*sz)).drop off=olds:=by
  apply CN;intro j
  by_cases hj:j<n*sz
  ·rw[BY,BO (by omega)];have hx:olds[j]?=some olds[j]:=AB (by omega)
   have:=GV j _ hx
   rw[FU hb]at this;rw[AR,this,hx]
  ·rw[A7 (by rw[Ar,AH];omega),A7 (by omega)]
 have pn:(FP.toList.take (off+n*sz)).length=off+n*sz:=by rw[AH];omega
 refine⟨?_,?_,fun o ho=>?_⟩
 ·rw[Ad,Ad,pn,Ar,hcl,hnl];omega
 ·rw[AN,List.drop_append_of_le_length (by rw[pn];omega),KU,←AN,HM (by rw[Ad,hol,hnl,Ft])]
 ·rw[Gi,AN,A3 (by rw[pn];exact ho),BO ho,AR]
omit hI in
theorem jE{b n m sz cap:Nat}{FP:Array Value}{E:TypeId}{olds news:List Value}(hb:w.heap[b]?=some (.cells FP E (0,0)))(Yc:FP.size=cap*sz)(hn:n≤cap)(hm:n+m≤cap)(hnl:news.length=m*sz)(hol:olds.length=n*sz)
  (GV:∀j u,olds[j]?=some u→w.cell? ⟨b,j,none⟩=some u) :
  (FP.toList.take (n*sz)++news++FP.toList.drop (n*sz+news.length)).length=cap*sz ∧
  (FP.toList.take (n*sz)++news++FP.toList.drop (n*sz+news.length)).take ((n+m)*sz)=olds++news ∧
  ∀o,o<n*sz→(FP.toList.take (n*sz)++news++FP.toList.drop (n*sz+news.length)).toArray[o]?=FP[o]?:=by
 have hcl:FP.toList.length=cap*sz:=by rw[B8];exact Yc
 have TL:(n+m)*sz≤cap*sz:=Bn _ hm;have gZ:n*sz≤cap*sz:=Bn _ hn;rw[Ft]at TL;have KU:FP.toList.take (n*sz)=olds:=by
  apply CN;intro j
  by_cases hj:j<n*sz
  ·rw[BO hj];have hx:olds[j]?=some olds[j]:=AB (by omega)
   have:=GV j _ hx
   rw[FU hb]at this;rw[AR,this,hx]
  ·rw[A7 (by rw[AH];omega),A7 (by omega)]
 have pn:(FP.toList.take (n*sz)).length=n*sz:=by rw[AH];omega
 refine⟨?_,?_,fun o ho=>?_⟩
 ·rw[Ad,Ad,pn,Ar,hcl,hnl];omega
 ·rw[KU,HM (by rw[Ad,hol,hnl,Ft])]
 ·rw[Gi,AN,A3 (by rw[pn];exact ho),BO ho,AR]
theorem Vf{r n sz:Nat}{es:List (List AV)}{x:Value}(he:h r=.arr sz es)(hx:BP g w (AW h) (.msl r n) x)(hn:n=es.length) :
  x=g.ρ r∧∃news,OP w x es.length sz news∧CR g w FH es.flatten news:=by
 have ho:=hI.objs r;rw[he]at ho;obtain⟨t1,l1,al,a1⟩:=ho;cases hx with
 |msl _ _ _ a cap hu ht Yj ha L4 =>
  have e:=L4 (hn.trans l1.symm);refine⟨e,?_⟩;rw[e];rcases a1 with ⟨rfl,e2,e3⟩ | ⟨b,L3,E,vs,e1,e2,e3,e4,e5,e6,e7⟩
  ·exact⟨[],⟨by simp,by simp,none,0,e2,.inl rfl⟩,by simp,by simp,fun i av x h1 h2=>by simp at h2⟩
  ·have Yc:vs.toList.length=L3*sz:=by rw[B8];exact e5
   have Ho:es.length*sz≤vs.toList.length:=by rw[Yc];exact Bn _ e3
   refine⟨vs.toList.take (es.length*sz),⟨by rw[AH,Nat.min_eq_left Ho],e6.2.1,_,_,e1,.inr ⟨_,rfl,fun j u hj=>?_⟩⟩,e6⟩;rw[Addr.add_lit,Bo,FU e4];have DH:=(Aw.1 hj).1;rw[AH]at DH;rw[BO (by omega),AR]at hj;exact hj
theorem cM{sz:Nat}{x:AV}{vx:Value}{K:List (List AV)→Prop}(hx:BP g w (AW h) x vx)(hk:Lr h x K) :
  ∃es,K es∧((∀c∈es,c.length=sz)→∃news,OP w vx es.length sz news∧CR g w FH es.flatten news):=by
 unfold Lr at hk;split at hk
 ·exact⟨_,hk,fun hl=>OP.of_rep hx.slice_none hl⟩
 ·obtain rfl:=hx.v_eq;exact⟨[],hk,fun _=>⟨[],⟨by simp,by simp,none,0,rfl,.inl rfl⟩,by simp,by simp,fun i av x h1 h2=>by simp at h2⟩⟩
 ·rename_i r n;split at hk
  ·rename_i GL es e;obtain⟨hn,hk⟩:=hk;refine⟨es,hk,fun hl=>?_⟩;obtain⟨_,news,n1,n2⟩:=Vf hI e hx hn;refine⟨news,?_,n2⟩
   have:news.length=es.length*sz:=by rw[n2.1,Dv hl]
   exact⟨this,n1.2.1,n1.2.2⟩
  ·exact hk.elim
 ·exact hk.elim
theorem dE{cx:Cx}{d:Option Nat}{sz:Nat}{K:HK}(hk:EL cx d h sz [] K) :
  ∃g' av h',K av h'∧DS w0 g0 h0 h' g' w∧Le h g w h' g' w∧BP g' w (AW h') av (.slice none 0 0):=by
 have base:∀(d:Nat) (o' : HO),h d=.free→o'≠.free→(∀g' : Gh,g'.ρ d=.slice none 0 0→g'.ln d=0→g'.tk d=true→g'.own d=none→Er g' w (AW (A2 h d o')) d o') →
   DS w0 g0 h0 (A2 h d o') (g.upd d (.slice none 0 0) 0 true none g.S) w∧Le h g w (A2 h d o') (g.upd d (.slice none 0 0) 0 true none g.S) w:=by
  intro d o' hd DM JG;refine hI.upd d o' _ _ _ _ _ w none ⟨rfl,rfl,rfl,Am _⟩ (fun _ _ _=>rfl) (fun b e=>by cases e) (fun _ _ h=>h) (fun _ _ h=>.inl h) (fun b o e=>by cases e) (fun b _ e=>by cases e) DM (fun hu=>absurd hd hu) (fun _ _=>?_);obtain⟨u1,u2,u3,u4⟩:=BJ g d (.slice none 0 0) 0 true none g.S;exact JG _ u1 u2 u3 u4
 unfold EL at hk;split at hk
 ·exact hk.elim
 ·rename_i d;generalize KQ cx d=d1 at hk;split at hk
  ·rename_i hd;split at hk
   ·obtain⟨k1,k2⟩:=base d1 (.arr sz []) hd (by simp) (fun g' u1 u2 u3 u4=>⟨u3,u2,by simp,.inl ⟨rfl,u1,u4⟩⟩);exact⟨_,_,_,hk,k1,k2,.msl _ d1 0 none 0 (by unfold AW;rw[Bi];simp) (by simp[Gh.upd]) (AF _) (.inl rfl) (fun _=>by simp[Gh.upd])⟩
   ·obtain⟨k1,k2⟩:=base d1 (.tok sz 0) hd (by simp) (fun g' u1 u2 u3 u4=>⟨u3,u2,none,0,u1,.inl ⟨rfl,u4⟩⟩);exact⟨_,_,_,hk,k1,k2,.tok _ d1 sz [] _ (.snil _ _ _) (by simp) (by unfold AW;rw[Bi];simp) (by simp[Gh.upd]) (AF _) (fun _=>by simp[Gh.upd])⟩
  ·exact hk.elim
theorem Zn{cx:Cx}(hT:CJ P cx.T){d:Option Nat}{t ty:Nat}{s x:AV}{vs vx:Value}{K:HK}(hs:BP g w (AW h) s vs)(hx:BP g w (AW h) x vx)(hk:IF cx d h t s x K) :
  OK P w0 g0 h0 h g w (Builtin.append_ #[t,t] ty #[vs,vx]) K:=by
 unfold IF at hk;split at hk
 ·rename_i e ht;split at hk
  ·exact hk.elim
  ·rename_i hz;have hz:=AP hz;split at hk
   ·exact hk.elim
   ·rename_i k El;have h5:=cM hI (sz:=(cx.T e).size) hx hk
    clear hk
    obtain⟨es2,hk,h6⟩:=h5;split at hk
    ·obtain⟨⟨q1,q2,q3⟩,hk⟩:=hk;obtain rfl:=hs.v_eq;obtain⟨news,n1,n2⟩:=h6 (F6 q1);obtain⟨m1,m2,a,c,rfl,m4⟩:=n1
     by_cases hm:es2.length=0
     ·obtain rfl:=AA hm;obtain⟨g',av,h',k1,k2,k3,k4⟩:=dE hI hk;exact⟨_,w,g',av,h',I7 hT w ht El none a 0 0 c (Am _),k1,k2,k3,k4⟩
     ·obtain⟨nc,rest,r1,r2,r3⟩:=H9 hT w (ty:=ty) ht El hz (olds:=[]) (a:=none) (n:=0) (cap:=0) ⟨by simp,by simp,none,0,rfl,.inl rfl⟩ rfl (fun _=>rfl) ⟨m1,m2,a,c,rfl,m4⟩ rfl (by omega) (by omega) (by rw[Bo];exact q2) (by omega);obtain⟨g',av,h',k1,k2,k3,k4⟩:=Kf hI hk (vs:=([]++news++rest).toArray) (cap:=nc) e (F6 q1) (by omega) (by simpa using r3) (by
       rw[Ep,show(news++rest).toArray.toList=news++rest from rfl,HM m1];exact n2) w.drew ⟨rfl,rfl,rfl,rfl⟩
      rw[Bo]at r1;exact⟨_,_,g',av,h',r1,k1,k2,k3,k4⟩
    ·rename_i GL es;split at hk
     ·rename_i RC;obtain RC:=AP RC;obtain⟨⟨q1,q2,q3,q4⟩,hk⟩:=hk;obtain⟨news,n1,n2⟩:=h6 (F6 q1);obtain⟨m1,m2,a2,c2,rfl,m4⟩:=n1;cases hs with
      |full _ _ _ _ hr Xn L4 =>
       obtain⟨a,rfl⟩:=L4;have Fm:∀c∈es++es2,c.length=(cx.T e).size:=fun c hc=>(Ba.1 hc).elim (fun h=>(Xn c h).trans RC) (F6 q1 c);obtain⟨olds,o1,o2⟩:=OP.of_rep hr (sz:=(cx.T e).size) (fun c hc=>(Xn c hc).trans RC);have WU:=o2.app n2;rw[←CU]at WU;have ha:a=none→es.length=0:=by
        rintro rfl
        obtain⟨p1,p2,a',c',p3,p4⟩:=o1;cases p3;rcases p4 with h | ⟨b',h,_⟩
        ·exact h
        ·cases h
       obtain⟨nc,rest,r1,r2,r3⟩:=H9 hT w (ty:=ty) ht El hz o1 rfl ha ⟨m1,m2,a2,c2,rfl,m4⟩ rfl q2 (by omega) q3 q4;obtain⟨g',av,h',k1,k2,k3,k4⟩:=Kf hI hk (vs:=(olds++news++rest).toArray) (cap:=nc) e Fm (by rw[Ad];exact r2) (by rw[FF];exact r3) (by
        rw[show(olds++news++rest).toArray.toList=olds++news++rest from rfl,HM (by rw[Ad,Ad,o1.1,m1,Ft])];exact WU) w.drew ⟨rfl,rfl,rfl,rfl⟩
       rw[Ad]at k4;exact⟨_,_,g',av,h',r1,k1,k2,k3,k4⟩
     ·exact hk.elim
    ·rename_i r GL es;have ho:=hI.objs r;split at hk
     ·rename_i sz n e0;rw[e0]at ho;split at hk
      ·rename_i RC xm;obtain rfl:=AP xm;obtain RC:=AP RC;obtain⟨⟨q1,q2,q3,q4⟩,hk⟩:=hk;rw[RC]at q1;obtain⟨news,n1,n2⟩:=h6 (F6 q1);obtain⟨m1,m2,a2,c2,rfl,m4⟩:=n1;obtain⟨t1,l1,a,cap,a1,a3⟩:=ho;have hl:(h r).live:=by rw[e0];trivial
       have Fm:∀c∈es++es2,es.length=n→True:=fun _ _ _=>trivial;cases hs with
       |tok _ _ _ _ _ hr Xn hu ht' hn L4 =>
        have hv:=L4 (q2.trans l1.symm);rw[a1]at hv;subst hv;subst q2;have Fm:∀c∈es++es2,c.length=GL:=fun c hc=>(Ba.1 hc).elim (Xn c) (fun h=>(F6 q1 c h).trans RC.symm);obtain⟨olds,o1,o2⟩:=OP.of_rep hr Xn;have WU:=o2.app n2;rw[←CU]at WU;have bp:es.length≤cap:=by rcases a3 with ⟨e1,_⟩ | ⟨e1,_⟩<;>omega
        by_cases hm:es2.length=0
        ·obtain rfl:=AA hm;have JG:=hI.objs r;rw[e0]at JG
         obtain⟨k1,k2⟩:=hI.upd r (.tok GL (es.length+([]:List (List AV)).length)) (g.ρ r) (g.ln r) (g.tk r) (g.own r) g.S w none ⟨rfl,rfl,rfl,Am _⟩ (fun _ _ _=>rfl) (fun b e=>by cases e) (fun _ _ h=>h) (fun _ _ h=>.inl h) (fun b o e=>by cases e)
          (fun b _ e=>⟨(hI.loc r b hl e).1,.inl ⟨hl,e⟩⟩) (by simp) (fun _=>⟨rfl,Am _,fun _=>rfl,fun _=>rfl⟩) (fun hg Im=>by
           obtain⟨u1,u2,u3,u4⟩:=BJ g r (g.ρ r) (g.ln r) (g.tk r) (g.own r) g.S;rw[AE,DK];exact JG.same Im (fun i hi=>DX (by simp) i hi) hg u1 u2 u3 u4 (fun b _ _=>⟨rfl,fun _ h=>h⟩))
         refine⟨_,w,_,_,_,I7 hT w ht El a a2 es.length cap c2 bp,hk,k1,k2,?_⟩;rw[BS];exact(BP.tok (AW h) r GL es _ hr Xn hu ht' hn L4).le k2
        ·by_cases Kd:es.length+es2.length≤cap
         ·rcases a3 with ⟨e1,_⟩ | ⟨e1,b,E,FP,off,rfl,e3,e4,e5,e6⟩
          ·omega
          ·rcases m4 with h | ⟨ba,rfl,Jc⟩
           ·omega
           ·obtain⟨i,z,i1,i2,i3,i4,i5⟩:=HN hT El;have TL:(es.length+es2.length)*GL≤cap*GL:=Bn _ Kd;have nf:news.length=es2.length*GL:=by rw[RC];exact m1
            have ZU:i.size=GL:=i3.trans RC.symm;have CY:=Ur (P:=P) t ty e i (hT.slice ht) i1 b off es.length cap FP e4 ba es2.length c2 news (by rw[ZU];exact nf) Jc m2 Kd (by rw[ZU,nf,e5];rw[Ft]at TL;omega);rw[ZU]at CY;have GV:∀j u,olds[j]?=some u→w.cell? ⟨b,off+j,none⟩=some u:=by
             obtain⟨p1,p2,a',c',p3,p4⟩:=o1;cases p3;intro j u hj;rcases p4 with h | ⟨b',h,h'⟩
             ·rw[h,KI]at p1;rw[AA p1]at hj;simp at hj
             ·cases h
              have:=h' j u hj
              rwa [Addr.add_lit]at this
            obtain⟨p1,p2,p3⟩:=mA e4 e5 e1 Kd nf o1.1 GV;generalize hnewd:FP.toList.take (off+es.length*GL)++news++FP.toList.drop (off+es.length*GL+news.length)=new at CY p1 p2 p3;have E5:=setRow_heap w b FP new.toArray E (0,0) e4;have cY:=(hI.loc r b hl e3).1
            obtain⟨k1,k2⟩:=hI.upd r (.tok GL (es.length+es2.length)) (.slice (some ⟨b,off,none⟩) (es.length+es2.length) cap) (es.length+es2.length) (g.tk r) (g.own r) (g.more b (off+(es.length+es2.length)*GL)) (w.setRow b new.toArray) (some b)
             ⟨rfl,rfl,rfl,by rw[size_setRow];exact Am _⟩ (fun k _ DM=>setRow_other w b k _ (fun e=>DM (by rw[e]))) (fun b' e=>by cases e;exact⟨hl,e3⟩) (fun _ _ h=>.inl h)
             (fun b' o hs=>hs.elim .inl (fun hs=>.inr ⟨by rw[size_setRow,hs.1];exact cY,.inr ⟨hl,by rw[hs.1];exact e3⟩⟩))
             (fun b' o e hs=>by
              cases e
              refine⟨?_,fun es ck he=>by rw[e4]at he;cases he⟩;rw[FU E5,FU e4];exact p3 o (e6 o hs)) (fun b' _ e=>by
              rw[e3]at e;cases e;exact⟨by rw[size_setRow];exact cY,.inl ⟨hl,e3⟩⟩) (by simp) (fun _=>⟨rfl,by omega,fun e=>(by rw[t1]at e;cases e),fun e=>by omega⟩) (fun hg Im=>by
              obtain⟨u1,u2,u3,u4⟩:=BJ g r (.slice (some ⟨b,off,none⟩) (es.length+es2.length) cap) (es.length+es2.length) (g.tk r) (g.own r) (g.more b (off+(es.length+es2.length)*GL));exact⟨u3.trans t1,u2,_,cap,u1,  .inr ⟨Kd,b,E,_,off,rfl,u4.trans e3,E5,by rw[FF];exact p1,fun o ho=>by
               rcases ho with ho | ⟨_,ho⟩
               ·have h1:=e6 o ho;have h2:es.length*GL≤(es.length+es2.length)*GL:=Bn _ (by omega);omega
               ·exact ho⟩⟩)
            have Es:=BP.slice_off (g:=g.upd r (.slice (some ⟨b,off,none⟩) (es.length+es2.length) cap) (es.length+es2.length) (g.tk r) (g.own r) (g.more b (off+(es.length+es2.length)*GL))) (U:=AW (A2 h r (.tok GL (es.length+es2.length)))) (cap:=cap) (es:=es++es2) E5 Fm (by rw[Ad];exact Kd) (by
             rw[Ad,show new.toArray.toList=new from rfl,p2];exact WU.mono k2.keeps (fun _ h=>h) (fun _ h=>h.elim)) (fun o ho=>.inr ⟨rfl,by rw[Ad]at ho;exact Nat.add_lt_add_left ho off⟩)
            rw[Ad]at Es;exact⟨_,_,_,_,_,CY,hk,k1,k2,.tok _ r GL _ _ Es Fm (by unfold AW;rw[Bi];simp) (by simp[Gh.upd,t1]) (by simp[Gh.upd]) (fun _=>by simp[Gh.upd])⟩
         ·have gU:cap<es.length+es2.length:=by omega
          have ha:a=none→cap=0:=by
           rintro rfl
           rcases a3 with ⟨e1,_⟩ | ⟨_,b,_,_,_,e2,_⟩
           ·obtain⟨p1,p2,a',c',p3,p4⟩:=o1;cases p3;rcases p4 with h | ⟨b',h,_⟩
            ·omega
            ·cases h
           ·cases e2
          obtain⟨nc,rest,r1,r2,r3⟩:=H9 hT w (ty:=ty) ht El hz (by rw[←RC];exact o1) rfl ha ⟨m1,m2,a2,c2,rfl,m4⟩ rfl (by omega) gU q3 q4;have E5:=HY w.drew (.cells (olds++news++rest).toArray e (0,0)) (b:=w.heap.size) rfl
          obtain⟨k1,k2⟩:=hI.upd r (.tok GL (es.length+es2.length)) (.slice (some ⟨w.heap.size,0,none⟩) (es.length+es2.length) nc) (es.length+es2.length) (g.tk r) (some w.heap.size) (g.more w.heap.size ((es.length+es2.length)*GL))
           (w.drew.alloc (.cells (olds++news++rest).toArray e (0,0))) none
           ⟨rfl,rfl,rfl,by rw[World.size_alloc];exact Nat.le_succ _⟩ (fun k Kr _=>by rw[heap_alloc_old _ _ (by exact Kr)];rfl) (fun b' e=>by cases e) (fun _ _ h=>.inl h)
           (fun b' o hs=>hs.elim .inl (fun hs=>.inr ⟨by rw[World.size_alloc,hs.1];exact G6 _,.inl (by rw[hs.1];exact Am _)⟩))
           (fun b' o e=>by cases e) (fun b' _ e=>by cases e;exact⟨by rw[World.size_alloc];exact G6 _,.inr (Am _)⟩) (by simp) (fun _=>⟨rfl,by omega,fun e=>(by rw[t1]at e;cases e),fun e=>by omega⟩) (fun hg Im=>by
            obtain⟨u1,u2,u3,u4⟩:=BJ g r (.slice (some ⟨w.heap.size,0,none⟩) (es.length+es2.length) nc) (es.length+es2.length) (g.tk r) (some w.heap.size) (g.more w.heap.size ((es.length+es2.length)*GL));exact⟨u3.trans t1,u2,_,nc,u1,.inr ⟨r2,w.heap.size,e,_,0,rfl,u4,E5,by rw[FF,RC,Bo];exact r3,fun o ho=>by
             rcases ho with ho | ⟨_,ho⟩
             ·have:=hI.slt _ _ ho;omega
             ·omega⟩⟩)
          have Es:=BP.slice_row (g:=g.upd r (.slice (some ⟨w.heap.size,0,none⟩) (es.length+es2.length) nc) (es.length+es2.length) (g.tk r) (some w.heap.size) (g.more w.heap.size ((es.length+es2.length)*GL))) (U:=AW (A2 h r (.tok GL (es.length+es2.length)))) (cap:=nc) (es:=es++es2) E5 Fm (by rw[Ad];exact r2) (by
           rw[Ad,show(olds++news++rest).toArray.toList=olds++news++rest from rfl,HM (by rw[Ad,o1.1,m1,RC,Ft])];exact WU.mono k2.keeps (fun _ h=>h) (fun _ h=>h.elim)) (fun o ho=>.inr ⟨rfl,by rw[Ad]at ho;exact ho⟩)
          rw[Ad]at Es;exact⟨_,_,_,_,_,r1,hk,k1,k2,.tok _ r GL _ _ Es Fm (by unfold AW;rw[Bi];simp) (by simp[Gh.upd,t1]) (by simp[Gh.upd]) (fun _=>by simp[Gh.upd])⟩
      ·exact hk.elim
     ·exact hk.elim
    ·rename_i r n;have ho:=hI.objs r;split at hk
     ·rename_i sz es e0;split at hk
      ·rename_i RC;obtain RC:=AP RC;obtain⟨⟨q1,q2,q3,q4⟩,hk⟩:=hk;rw[RC]at q1;obtain⟨news,n1,n2⟩:=h6 (F6 q1);obtain⟨m1,m2,a2,c2,rfl,m4⟩:=n1;obtain⟨hv,olds,o1,o2⟩:=Vf hI e0 hs q2.symm;have JG:=ho;rw[e0]at ho;obtain⟨t1,l1,al,a3⟩:=ho;have hl:(h r).live:=by rw[e0];trivial
       subst hv;have Fm:∀c∈es++es2,c.length=sz:=fun c hc=>(Ba.1 hc).elim (al c) (fun h=>(F6 q1 c h).trans RC.symm);have WU:=o2.app n2;rw[←CU]at WU;obtain⟨a,cap,hρ,bp,ha⟩:∃a cap,g.ρ r=.slice a es.length cap∧es.length≤cap∧(a=none→cap=0):=by
        rcases a3 with ⟨rfl,e2,e3⟩ | ⟨b,cap,E,FP,e1,e2,e3,e4,e5,e6,e7⟩
        ·exact⟨none,0,e2,Am _,fun _=>rfl⟩
        ·exact⟨_,cap,e1,e3,fun e=>by cases e⟩
       by_cases hm:es2.length=0
       ·obtain rfl:=AA hm;rw[e0]at JG
        obtain⟨k1,k2⟩:=hI.upd r (.arr sz (es++[])) (g.ρ r) (g.ln r) (g.tk r) (g.own r) g.S w none ⟨rfl,rfl,rfl,Am _⟩ (fun _ _ _=>rfl) (fun b e=>by cases e) (fun _ _ h=>h) (fun _ _ h=>.inl h) (fun b o e=>by cases e)
         (fun b _ e=>⟨(hI.loc r b hl e).1,.inl ⟨hl,e⟩⟩) (by simp) (fun _=>⟨rfl,Am _,fun _=>rfl,fun _=>rfl⟩) (fun hg Im=>by
          obtain⟨u1,u2,u3,u4⟩:=BJ g r (g.ρ r) (g.ln r) (g.tk r) (g.own r) g.S;rw[BS];exact JG.same Im (fun i hi=>DX (by simp) i hi) hg u1 u2 u3 u4 (fun b _ _=>⟨rfl,fun _ h=>h⟩))
        refine⟨g.ρ r,w,_,_,_,?_,hk,k1,k2,?_⟩
        ·rw[hρ];exact I7 hT w ht El a a2 es.length cap c2 bp
        ·have:=hs.le k2
         rw[←q2]at this;exact this
       ·by_cases Kd:es.length+es2.length≤cap
        ·rcases a3 with ⟨rfl,e2,e3⟩ | ⟨b,L3,E,FP,e1,e2,e3,e4,e5,e6,e7⟩
         ·rw[e2]at hρ;cases hρ;omega
         ·rw[e1]at hρ;simp only[Value.slice.injEq,true_and]at hρ;obtain⟨rfl,rfl⟩:=hρ;rcases m4 with h | ⟨ba,rfl,Jc⟩
          ·omega
          ·obtain⟨i,z,i1,i2,i3,i4,i5⟩:=HN hT El;have TL:(es.length+es2.length)*sz≤L3*sz:=Bn _ Kd;have nf:news.length=es2.length*sz:=by rw[RC];exact m1
           have ZU:i.size=sz:=i3.trans RC.symm;have CY:=QU (P:=P) t ty e i (hT.slice ht) i1 b es.length L3 FP e4 ba es2.length c2 news (by rw[ZU];exact nf) Jc m2 Kd (by rw[ZU,nf,←Ft,e5];exact TL);rw[ZU]at CY;have GV:∀j u,olds[j]?=some u→w.cell? ⟨b,j,none⟩=some u:=by
            obtain⟨p1,p2,a',c',p3,p4⟩:=o1;rw[e1]at p3;cases p3;intro j u hj;rcases p4 with h | ⟨b',h,h'⟩
            ·rw[h,KI]at p1;rw[AA p1]at hj;simp at hj
            ·cases h
             have:=h' j u hj
             rwa [Addr.add_lit,Bo]at this
           obtain⟨p1,p2,p3⟩:=jE e4 e5 e3 Kd nf o1.1 GV;generalize hnewd:FP.toList.take (es.length*sz)++news++FP.toList.drop (es.length*sz+news.length)=new at CY p1 p2 p3;have E5:=setRow_heap w b FP new.toArray E (0,0) e4;have cY:=(hI.loc r b hl e2).1
           obtain⟨k1,k2⟩:=hI.upd r (.arr sz (es++es2)) (.slice (some ⟨b,0,none⟩) (es.length+es2.length) L3) (es.length+es2.length) (g.tk r) (g.own r) g.S (w.setRow b new.toArray) (some b)
            ⟨rfl,rfl,rfl,by rw[size_setRow];exact Am _⟩ (fun k _ DM=>setRow_other w b k _ (fun e=>DM (by rw[e]))) (fun b' e=>by cases e;exact⟨hl,e2⟩) (fun _ _ h=>h) (fun _ _ h=>.inl h)
            (fun b' o e hs=>by cases e;exact absurd hs (e7 o)) (fun b' _ e=>by
             rw[e2]at e;cases e;exact⟨by rw[size_setRow];exact cY,.inl ⟨hl,e2⟩⟩) (by simp) (fun _=>⟨rfl,by omega,fun e=>(by rw[t1]at e;cases e),fun e=>by omega⟩) (fun hg Im=>by
             obtain⟨u1,u2,u3,u4⟩:=BJ g r (.slice (some ⟨b,0,none⟩) (es.length+es2.length) L3) (es.length+es2.length) (g.tk r) (g.own r) g.S;refine⟨u3.trans t1,by rw[u2,Ad],Fm,.inr ⟨b,L3,E,_,by rw[u1,Ad],u4.trans e2,by rw[Ad];exact Kd,E5,by rw[FF];exact p1,?_,e7⟩⟩;rw[Ad,show new.toArray.toList=new from rfl,p2];exact WU.mono Im (fun _ h=>h) (fun _ h=>h.elim))
           rw[e1];exact⟨_,_,_,_,_,CY,hk,k1,k2,.msl _ r _ _ _ (by unfold AW;rw[Bi];simp) (by simp[Gh.upd,t1]) (by simp[Gh.upd]) (.inr ⟨_,rfl⟩) (fun _=>by simp[Gh.upd])⟩
        ·have gU:cap<es.length+es2.length:=by omega
         obtain⟨nc,rest,r1,r2,r3⟩:=H9 hT w (ty:=ty) ht El hz (by rw[←RC];exact o1) hρ ha ⟨m1,m2,a2,c2,rfl,m4⟩ rfl (by omega) gU q3 q4;have E5:=HY w.drew (.cells (olds++news++rest).toArray e (0,0)) (b:=w.heap.size) rfl
         obtain⟨k1,k2⟩:=hI.upd r (.arr sz (es++es2)) (.slice (some ⟨w.heap.size,0,none⟩) (es.length+es2.length) nc) (es.length+es2.length) (g.tk r) (some w.heap.size) g.S
          (w.drew.alloc (.cells (olds++news++rest).toArray e (0,0))) none
          ⟨rfl,rfl,rfl,by rw[World.size_alloc];exact Nat.le_succ _⟩ (fun k Kr _=>by rw[heap_alloc_old _ _ (by exact Kr)];rfl) (fun b' e=>by cases e) (fun _ _ h=>h) (fun _ _ h=>.inl h)
          (fun b' o e=>by cases e) (fun b' _ e=>by cases e;exact⟨by rw[World.size_alloc];exact G6 _,.inr (Am _)⟩) (by simp) (fun _=>⟨rfl,by omega,fun e=>(by rw[t1]at e;cases e),fun e=>by omega⟩) (fun hg Im=>by
           obtain⟨u1,u2,u3,u4⟩:=BJ g r (.slice (some ⟨w.heap.size,0,none⟩) (es.length+es2.length) nc) (es.length+es2.length) (g.tk r) (some w.heap.size) g.S;refine⟨u3.trans t1,by rw[u2,Ad],Fm,.inr ⟨w.heap.size,nc,e,_,by rw[u1,Ad],u4,by rw[Ad];exact r2,E5,by rw[FF,RC];exact r3,?_,fun o ho=>by have:=hI.slt _ _ ho;omega⟩⟩;rw[Ad,show(olds++news++rest).toArray.toList=olds++news++rest from rfl,HM (by rw[Ad,o1.1,m1,RC,Ft])];exact WU.mono Im (fun _ h=>h) (fun _ h=>h.elim))
         exact⟨_,_,_,_,_,r1,hk,k1,k2,.msl _ r _ _ _ (by unfold AW;rw[Bi];simp) (by simp[Gh.upd,t1]) (by simp[Gh.upd]) (.inr ⟨_,rfl⟩) (fun _=>by simp[Gh.upd])⟩
      ·exact hk.elim
     ·exact hk.elim
    ·exact hk.elim
 ·exact hk.elim
end
section
variable {P:Program}{w0:World}{g0:Gh}{h0 h:Nat→HO}{g:Gh}{w:World}(hI:DS w0 g0 h0 h g w)
include hI
theorem Ou{d sz n:Nat}{es:List (List AV)}{a:Option Addr}(hd:h d=.free)(hl:∀c∈es,c.length=sz)(hn:es.length=n)(hr:BP g w FH (.slice .none es) (.slice a n n)) :
  ∃g',DS w0 g0 h0 (A2 h d (.tok sz n)) g' w∧Le h g w (A2 h d (.tok sz n)) g' w∧BP g' w (AW (A2 h d (.tok sz n))) (.slice (.id d sz) es) (.slice a n n):=by
 obtain⟨k1,k2⟩:=hI.upd d (.tok sz n) (.slice a n n) n true none g.S w none ⟨rfl,rfl,rfl,Am _⟩ (fun _ _ _=>rfl) (fun b e=>by cases e) (fun _ _ h=>h) (fun _ _ h=>.inl h) (fun b o e=>by cases e) (fun b _ e=>by cases e) (by simp)
  (fun hu=>absurd hd hu) (fun _ _=>by
   obtain⟨u1,u2,u3,u4⟩:=BJ g d (.slice a n n) n true none g.S;exact⟨u3,u2,a,n,u1,.inl ⟨rfl,u4⟩⟩)
 exact⟨_,k1,k2,.tok _ d sz es _ (((hr.up (AW h)).le k2)) hl (by unfold AW;rw[Bi];simp) (by simp[Gh.upd]) (by simp[Gh.upd,hn]) (fun _=>by simp[Gh.upd])⟩
theorem Zq{cx:Cx}{d:Option Nat}{x:AV}{vx:Value}{K:HK}(hx:BP g w (AW h) x vx)(hk:OV cx d h x K):∃g' av h',K av h'∧DS w0 g0 h0 h' g' w∧Le h g w h' g' w∧BP g' w (AW h') av vx:=by
 have plain:K x h→∃g' av h',K av h'∧DS w0 g0 h0 h' g' w∧Le h g w h' g' w∧BP g' w (AW h') av vx:=fun hk=>⟨g,x,h,hk,hI,.refl _ _ _,hx⟩;unfold OV at hk;split at hk
 ·exact plain hk
 ·rename_i d;split at hk
  ·rename_i sz _;split at hk
   ·refine⟨g,unT x,h,hk,hI,.refl _ _ _,?_⟩;cases x with
    |slice tk es=>exact(BP.slice_none hx).up _
    |_=>exact hx
   ·split at hk
    ·split at hk
     ·rename_i hd;obtain rfl:=hx.v_eq;obtain⟨g',k1,k2,k3⟩:=Ou hI (sz:=sz) (es:=[]) (a:=none) hd (by simp) rfl (.snil _ _ _);exact⟨g',_,_,hk,k1,k2,k3⟩
     ·exact hk.elim
    ·exact plain hk
  ·split at hk
   ·rename_i sz _;split at hk
    ·split at hk
     ·rename_i hd;obtain rfl:=hx.v_eq
      obtain⟨k1,k2⟩:=hI.upd d (.arr sz []) (.slice none 0 0) 0 true none g.S w none ⟨rfl,rfl,rfl,Am _⟩ (fun _ _ _=>rfl) (fun b e=>by cases e) (fun _ _ h=>h) (fun _ _ h=>.inl h) (fun b o e=>by cases e) (fun b _ e=>by cases e) (by simp)
       (fun hu=>absurd hd hu) (fun _ _=>by
        obtain⟨u1,u2,u3,u4⟩:=BJ g d (.slice none 0 0) 0 true none g.S;exact⟨u3,u2,by simp,.inl ⟨rfl,u1,u4⟩⟩)
      exact⟨_,_,_,hk,k1,k2,.msl _ d 0 none 0 (by unfold AW;rw[Bi];simp) (by simp[Gh.upd]) (AF _) (.inl rfl) (fun _=>by simp[Gh.upd])⟩
     ·exact hk.elim
    ·exact plain hk
   ·exact plain hk
theorem YC{T:GN}{mku:List Nat}{d:Option Nat}{ty:Nat}{K:HK}(hk:KY T mku d h ty K):OK P w0 g0 h0 h g w (Instr.makeMap ty none) K:=by
 unfold KY at hk;split at hk
 ·exact hk.elim
 ·rename_i d;split at hk
  ·rename_i hd;split at hk
   ·split at hk
    ·rename_i sh _;split at hk
     ·obtain⟨k1,k2⟩:=hI.newOwn hd (.mapU sh []) (.map #[] 0) (.map (some w.heap.size)) 0 false w ⟨rfl,rfl,rfl,rfl⟩ (by simp) (fun hg Im=>by
       obtain⟨u1,u2,u3,u4⟩:=BJ g d (.map (some w.heap.size)) 0 false (some w.heap.size) g.S;exact⟨u3,w.heap.size,#[],0,u4,u1,HY w _ rfl,⟨rfl,by simp,by simp,by simp,by simp,by simp⟩,by simp,fun o ho=>by have:=hI.slt _ _ ho;omega⟩)
      refine⟨_,_,_,_,_,?_,hk,k1,k2,.mref _ d w.heap.size (by unfold AW;rw[Bi];simp) ?_ ?_⟩
      ·simp[Instr.makeMap]
      ·simp[Gh.upd]
      ·simp[Gh.upd]
     ·obtain⟨k1,k2⟩:=hI.newOwn hd (.map sh []) (.map #[] 0) (.map (some w.heap.size)) 0 false w ⟨rfl,rfl,rfl,rfl⟩ (by simp) (fun hg Im=>by
       obtain⟨u1,u2,u3,u4⟩:=BJ g d (.map (some w.heap.size)) 0 false (some w.heap.size) g.S;exact⟨u3,w.heap.size,#[],0,u4,u1,HY w _ rfl,⟨rfl,by simp,by simp,by simp,by simp,by simp⟩,by simp,fun o ho=>by have:=hI.slt _ _ ho;omega⟩)
      refine⟨_,_,_,_,_,?_,hk,k1,k2,.mref _ d w.heap.size (by unfold AW;rw[Bi];simp) ?_ ?_⟩
      ·simp[Instr.makeMap]
      ·simp[Gh.upd]
      ·simp[Gh.upd]
    ·exact hk.elim
   ·exact hk.elim
  ·exact hk.elim
omit hI in
theorem BP.sub{es:List (List AV)}{sz l m:Nat}{x:Value}{a:Option Addr}{n cap:Nat}(hr:BP g w FH (.slice .none es) x)(hx:x=.slice a n cap)(hl:∀c∈es,c.length=sz)(h1:l≤m)(h2:m≤es.length)(c' : Nat)(hc:m-l≤c')(a' : Option Addr)
  (ha:a'=a.map (·.add (l*sz))∨(m=l∧a'=a)):BP g w FH (.slice .none ((es.take m).drop l)) (.slice a' (m-l) c'):=by
 subst hx;have CF:((es.take m).drop l).length=m-l:=by rw[Ar,AH];omega
 by_cases h0:m-l=0
 ·have:(es.take m).drop l=[]:=AA (by omega)
  rw[this,h0];exact .snil _ _ _
 ·cases hr with
  |snil=>simp at h2;omega
  |slice _ _ b off GL cap val qh Qy DO Es =>
   have hz:GL=sz:=by
    have:(0:Nat)<es.length:=by omega
    have h3:=Qy 0 es[0] (AB this);rw[←h3];exact hl _ (Ak this)
   subst hz;have ha' : a'=some ⟨b,off+l*GL,none⟩:=by
    rcases ha with h | ⟨h,_⟩
    ·rw[h];simp[Addr.add_lit]
    ·omega
   subst ha';rw[←CF];have Fw:∀(i:Nat) (cs:List AV),((es.take m).drop l)[i]?=some cs→es[l+i]?=some cs:=fun i cs h=>by
    rw[BY]at h
    by_cases hi:l+i<m
    ·rwa [BO hi]at h
    ·rw[A7 (by rw[AH];omega)]at h;cases h
   refine .slice _ _ b (off+l*GL) GL c' (fun i j=>val (l+i) j) (by rw[CF];exact hc) (fun i cs h=>Qy _ _ (Fw i cs h)) (fun i cs j av h1 h2=>?_) (fun i cs j av h1 h2=>Es _ _ _ _ (Fw i cs h1) h2)
   have:=DO _ _ _ _ (Fw i cs h1) h2
   rwa [show off+(l+i)*GL+j=off+l*GL+i*GL+j by rw[Ft];omega]at this
omit hI in
theorem K7{t:Nat→AV}{ρ:Operand→Value}(ht:∀x:Operand,BP g w (AW h) (ev t x) (ρ x)){o:Option Operand}{i:Option Int}(hk:Cb t o=some i):o.map ρ=i.map fun n=>.int .i64 n:=by
 cases o with
 |none=>cases hk;rfl
 |some x =>
  unfold Cb at hk;dsimp only at hk;split at hk
  ·rename_i n e;cases hk
   have:=ht x
   rw[e]at this;simp[this.v_eq]
  ·cases hk
omit hI in
theorem Us(b:Bool)(len cap:Nat)(lo hi mx:Option Int)(lC:mx=none∨hi≠none)(h0:0≤lo.getD 0)(h1:lo.getD 0≤hi.getD len)(h2:hi.getD len≤mx.getD cap)(h3:mx.getD cap≤cap) :
  (Instr.sliceBounds b len cap (lo.map fun n=>.int .i64 n) (hi.map fun n=>.int .i64 n) (mx.map fun n=>.int .i64 n)).run P w=.ok ((lo.getD 0).toNat,(hi.getD len).toNat,(mx.getD cap).toNat) w:=by
 have e1:∀n:Int,0≤n→(n.toNat:Int)=n:=fun n hn=>Int.toNat_of_nonneg hn;cases mx with
 |none =>
  cases hi with
  |none =>
   cases lo with
   |none=>simp[Instr.sliceBounds]
   |some l =>
    simp only[CE,Eb]at h0 h1 h2;simp[Instr.sliceBounds,run_sliceBound,h0,h1]
  |some hh =>
   simp only[CE,Eb]at h1 h2;have r8:0≤hh:=by omega
   cases lo with
   |none=>simp[Instr.sliceBounds,run_sliceBound,r8,h2]
   |some l =>
    simp only[CE]at h0 h1;simp[Instr.sliceBounds,run_sliceBound,h0,h1,h2,r8,e1]
 |some m =>
  cases hi with
  |none=>simp at lC
  |some hh =>
   simp only[CE]at h1 h2 h3;have r8:0≤hh:=by omega
   have uj:0≤m:=by omega
   cases lo with
   |none=>simp[Instr.sliceBounds,run_sliceBound,h2,h3,r8,uj,e1]
   |some l =>
    simp only[CE]at h0 h1;simp[Instr.sliceBounds,run_sliceBound,h0,h1,h2,h3,r8,uj,e1]
omit hI in
theorem EZ{T:GN}(hT:CJ P T){ty e k:Nat}(ht:(T ty).d=.slice e)(hk:(T e).size=k+1)(a:Option Addr)(len cap:Nat)(lo hi mx:Option Int)(lC:mx=none∨hi≠none)(h0:0≤lo.getD 0)(h1:lo.getD 0≤hi.getD len)(h2:hi.getD len≤mx.getD cap)(h3:mx.getD cap≤cap) :
  (Instr.sliceAt ty (.slice a len cap) (lo.map fun n=>.int .i64 n) (hi.map fun n=>.int .i64 n) (mx.map fun n=>.int .i64 n)).run P w =
   .ok (.slice (if(mx.getD cap).toNat=(lo.getD 0).toNat then a else a.map (·.add ((lo.getD 0).toNat*(T e).size))) ((hi.getD len).toNat-(lo.getD 0).toNat) ((mx.getD cap).toNat-(lo.getD 0).toNat)) w:=by
 have hu:=hT.slice ht;have hb:=Us (P:=P) (w:=w) true len cap lo hi mx lC h0 h1 h2 h3;simp only[Instr.sliceAt,Sem.run_bind,run_underlying hu,Result.andThen_ok,Instr.slice,hb,hT.size1 w hk,Sem.run_pure];rw[hk]
theorem DS.moveO(r r2:Nat)(DM:r2≠r)(hf:h r2=.free)(hl:(h r).live){ob:Option Nat}(ho:∀c,ob=some c→g.own r=some c)(o' : HO)(x:Value)(n:Nat)(t:Bool)(hn:o'≠.free)
  (JG:Fg g w (g.upd r2 x n t ob g.S) w→Er (g.upd r2 x n t ob g.S) w (AW (A2 (A2 h r .dead) r2 o')) r2 o') :
  DS w0 g0 h0 (A2 (A2 h r .dead) r2 o') (g.upd r2 x n t ob g.S) w∧Le h g w (A2 (A2 h r .dead) r2 o') (g.upd r2 x n t ob g.S) w:=by
 have fg:Kl g (g.upd r2 x n t ob g.S) (AW h):=by
  intro i hi;have e:i≠r2:=fun e=>hi (by rw[e];exact hf);refine⟨by simp[Gh.upd,e],by simp[Gh.upd,e],fun _=>by simp[Gh.upd,e],fun _=>by simp[Gh.upd,e]⟩
 have hK:Fg g w (g.upd r2 x n t ob g.S) w:=fun b o hb=>⟨hb,rfl,fun _ _ h=>h⟩;have Lw:∀i,AW h i→AW (A2 (A2 h r .dead) r2 o') i:=fun i hi=>DX hn i (DX (by simp) i hi);have key:∀i,i≠r2→(A2 (A2 h r .dead) r2 o' i).live→i≠r∧(h i).live:=fun i h2 hl=>by
  rw[B5 _ _ _ _ h2]at hl
  by_cases e:i=r
  ·subst e;rw[Bi]at hl;exact hl.elim
  ·rw[B5 _ _ _ _ e]at hl;exact⟨e,hl⟩
 have own:∀i,i≠r2→(g.upd r2 x n t ob g.S).own i=g.own i:=fun i e=>by simp[Gh.upd,e]
 have Ug:(g.upd r2 x n t ob g.S).own r2=ob:=by simp[Gh.upd]
 refine⟨⟨hI.os,hI.tape,hI.output,hI.size,hI.frame,hI.slt,fun i=>?_,fun i j c hi hj ei ej=>?_,fun i c hi ei=>?_,hI.sg,hI.glob.keep hK⟩,fg,Lw,hK⟩
 ·by_cases e:i=r2
  ·subst e;rw[Bi];exact JG hK
  ·rw[B5 _ _ _ _ e]
   by_cases e1:i=r
   ·subst e1;rw[Bi];trivial
   ·rw[B5 _ _ _ _ e1];exact(hI.objs i).same hK Lw fg (by simp[Gh.upd,e]) (by simp[Gh.upd,e]) (by simp[Gh.upd,e]) (by simp[Gh.upd,e]) (fun b hl hb=>⟨rfl,fun k hk=>hk⟩)
 ·by_cases e1:i=r2<;>by_cases e2:j=r2
  ·exact e1.trans e2.symm
  ·subst e1;rw[Ug]at ei;rw[own j e2]at ej;obtain⟨a1,a2⟩:=key j e2 hj;exact absurd (hI.inj j r _ a2 hl ej (ho _ ei)) a1
  ·subst e2;rw[Ug]at ej;rw[own i e1]at ei;obtain⟨a1,a2⟩:=key i e1 hi;exact absurd (hI.inj i r _ a2 hl ei (ho _ ej)) a1
  ·rw[own i e1]at ei;rw[own j e2]at ej;exact hI.inj i j c (key i e1 hi).2 (key j e2 hj).2 ei ej
 ·by_cases e1:i=r2
  ·subst e1;rw[Ug]at ei;exact hI.loc r _ hl (ho _ ei)
  ·rw[own i e1]at ei;exact hI.loc i c (key i e1 hi).2 ei
theorem Y3{cx:Cx}(hT:CJ P cx.T){d:Option Nat}{ty:Nat}{x:AV}{vx:Value}{t:Nat→AV}{ρ:Operand→Value}(ht:∀x:Operand,BP g w (AW h) (ev t x) (ρ x)){lo hi mx:Option Operand}{K:HK}(hx:BP g w (AW h) x vx)
  (hk:Uo cx d h ty x (Cb t lo) hi mx K):OK P w0 g0 h0 h g w (Instr.sliceAt ty vx (lo.map ρ) (hi.map ρ) (mx.map ρ)) K:=by
 unfold Uo at hk;split at hk
 ·rename_i d H1 e1;rw[K7 ht e1];split at hk
  ·rename_i e hs;split at hk
   ·exact hk.elim
   ·rename_i k El;split at hk
    ·rename_i r sz es;split at hk
     ·rename_i GL n e0;split at hk
      ·rename_i hd;split at hk
       ·rename_i q1 q2;obtain rfl:=AP q1;have q2:=AP q2;obtain⟨⟨rfl,h1,h2⟩,hk⟩:=hk;have hl:(h r).live:=by rw[e0];trivial
        have DM:KQ cx d≠r:=fun e=>by rw[e,e0]at hd;cases hd
        have ho:=hI.objs r;rw[e0]at ho;obtain⟨t1,l1,a,cap,a1,a3⟩:=ho;have hr:=hx.slice_none;cases hx with
        |tok _ _ _ _ _ bt Xn hu ht' hn L4 =>
         have hv:=L4 l1.symm;rw[a1]at hv;subst hv;have bp:es.length≤cap:=by rcases a3 with ⟨e1,_⟩ | ⟨e1,_⟩<;>omega
         have CY:=EZ (P:=P) (w:=w) hT hs El a es.length cap (some H1) none none (.inl rfl) h1 h2 (by simp only[Eb];omega) (by simp);simp only[CE,Eb,Bl]at CY;have CF:(es.drop H1.toNat).length=es.length-H1.toNat:=Ar;have TM:=BP.sub (c':=cap-H1.toNat) hr rfl Xn (l:=H1.toNat) (m:=es.length) (by omega) (Am _) (by omega) (if cap=H1.toNat then a else a.map (·.add (H1.toNat*(cx.T e).size))) (by
          split
          ·exact .inr ⟨by omega,rfl⟩
          ·rw[q2];exact .inl rfl)
         rw[Dq]at TM
         have fin:∀ob:Option Nat,(∀c,ob=some c→g.own r=some c)→(es.length-H1.toNat=cap-H1.toNat∧ob=none∨es.length-H1.toNat≤cap-H1.toNat∧∃b E vs off,(if cap=H1.toNat then a else a.map (·.add (H1.toNat*(cx.T e).size)))=some ⟨b,off,none⟩∧ob=some b∧w.heap[b]?=some (.cells vs E (0,0))∧vs.size=off+(cap-H1.toNat)*GL∧∀o,g.S b o→o<off+(es.length-H1.toNat)*GL) →
           OK P w0 g0 h0 h g w (Instr.sliceAt ty (.slice a es.length cap) ((some H1).map fun n=>.int .i64 n) ((none:Option Operand).map ρ) ((none:Option Operand).map ρ)) K:=fun ob ho sr=>by
          obtain⟨k1,k2⟩:=hI.moveO r (KQ cx d) DM hd hl ho (.tok GL (es.drop H1.toNat).length) (.slice (if cap=H1.toNat then a else a.map (·.add (H1.toNat*(cx.T e).size))) (es.length-H1.toNat) (cap-H1.toNat)) (es.length-H1.toNat) true (by simp) (fun Im=>by
           obtain⟨u1,u2,u3,u4⟩:=BJ g (KQ cx d) (.slice (if cap=H1.toNat then a else a.map (·.add (H1.toNat*(cx.T e).size))) (es.length-H1.toNat) (cap-H1.toNat)) (es.length-H1.toNat) true ob g.S;refine⟨u3,u2.trans CF.symm,_,_,by rw[CF];exact u1,?_⟩;rw[CF,u4];exact sr)
          exact⟨_,w,_,_,_,CY,hk,k1,k2,.tok _ _ _ _ _ (((TM.mono k2.keeps (fun _ h=>h) (fun _ h=>h.elim))).up _) (fun c hc=>Xn c (IM hc)) (by unfold AW;rw[Bi];simp) (by simp[Gh.upd]) (by simp[Gh.upd]) (fun _=>by simp[Gh.upd])⟩
         rcases a3 with ⟨e1,e2⟩ | ⟨e1,b,E,vs,off,rfl,e3,e4,e5,e6⟩
         ·exact fin none (fun c h=>by cases h) (.inl ⟨by omega,rfl⟩)
         ·by_cases hc:cap=H1.toNat
          ·exact fin none (fun c h=>by cases h) (.inl ⟨by omega,rfl⟩)
          ·refine fin (some b) (fun c h=>by cases h;exact e3) (.inr ⟨by omega,b,E,vs,off+H1.toNat*GL,?_,rfl,e4,?_,fun o ho=>?_⟩)
           ·rw[Al hc];simp[Addr.add_lit,q2]
           ·rw[e5,Nat.sub_mul]
            have:=Bn GL (show H1.toNat≤cap by omega)
            omega
           ·have:=e6 o ho
            rw[Nat.sub_mul]
            have:=Bn GL (show H1.toNat≤es.length by omega)
            omega
       ·exact hk.elim
      ·exact hk.elim
     ·exact hk.elim
    ·exact hk.elim
  ·exact hk.elim
 ·exact hk.elim
omit hI in
theorem N9{sz:Nat}:∀{es:List (List AV)},(∀cs∈es,cs.length=sz)→∀k,(es.take k).flatten=es.flatten.take (k*sz)
 | [],_,k=>by simp
 |c::es,hl,0=>by simp
 |c::es,hl,k+1=>by
  have h1:=hl c (Ac ..);have h2:c.length≤k*sz+sz:=by omega
  rw[Jh,BI,BI,N9 (fun x hx=>hl x (Ah _ hx)) k,List.take_append,h1,Ea,
   AL h2,show k*sz+sz-sz=k*sz by omega]
omit hI in
theorem CR.takeE{U:Nat→Prop}{sz k:Nat}{es:List (List AV)}{vs:List Value}(hl:∀cs∈es,cs.length=sz)(hk:k≤es.length)(h:CR g w U es.flatten (vs.take (es.length*sz))):CR g w U (es.take k).flatten (vs.take (k*sz)):=by
 have e:vs.take (k*sz)=(vs.take (es.length*sz)).take (k*sz):=by
  rw[KG,Nat.min_eq_left (Bn _ hk)]
 rw[N9 hl,e];refine⟨by rw[AH (l:=vs.take (es.length*sz)),h.1,AH],fun x hx=>h.2.1 x (ED hx),fun i av x q1 q2=>?_⟩;have hi:i<k*sz:=by
  rcases Cv i (k*sz)with q | q
  ·exact q
  ·rw[JX,Al (by omega)]at q1;cases q1
 rw[JX,Au hi]at q1 q2;exact h.2.2 i av x q1 q2
theorem bN{cx:Cx}(hT:CJ P cx.T){d:Option Nat}{ty:Nat}{x:AV}{vx:Value}{t:Nat→AV}{ρ:Operand→Value}(ht:∀x:Operand,BP g w (AW h) (ev t x) (ρ x)){hi:Option Operand}{K:HK}(hx:BP g w (AW h) x vx)
  (hk:jv cx d h ty x (Cb t hi) K):OK P w0 g0 h0 h g w (Instr.sliceAt ty vx none (hi.map ρ) none) K:=by
 unfold jv at hk;split at hk
 ·rename_i d Ma e1;rw[K7 ht e1];split at hk
  ·rename_i e hs;split at hk
   ·exact hk.elim
   ·rename_i k El;split at hk
    ·rename_i r n;split at hk
     ·rename_i sz es e0;split at hk
      ·rename_i hd;split at hk
       ·rename_i q1 q3;have q1:=AP q1;obtain⟨⟨rfl,h1,h2⟩,hk⟩:=hk;have hl:(h r).live:=by rw[e0];trivial
        have DM:KQ cx d≠r:=fun e=>by rw[e,e0]at hd;cases hd
        have ho:=hI.objs r;rw[e0]at ho;obtain⟨t1,l1,al,a2⟩:=ho;have CF:(es.take Ma.toNat).length=Ma.toNat:=by rw[AH];omega
        cases hx with
        |msl _ _ _ a cap hu ht' Yj ha L4 =>
         have hv:=L4 l1.symm;have Pv:es.length≤cap:=by
          rcases a2 with ⟨b1,_,_⟩ | ⟨b,L3,E,vs,b1,_,b3,_⟩
          ·subst b1;exact AF _
          ·rw[b1]at hv;cases hv;exact b3
         have CY:=EZ (P:=P) (w:=w) hT hs El a es.length cap none (some Ma) none (.inl rfl) (by simp) (by simp only[Eb,CE];exact h1) (by simp only[CE,Eb];omega) (by simp);have LV:(if cap-(0:Nat)=0 then a else a.map (·.add (0*(cx.T e).size)))=a:=by
          rw[KI];split
          ·rfl
          ·rcases ha with e3 | ⟨b,rfl⟩
           ·cases a with
            |none=>rfl
            |some a=>simp[Addr.add]
           ·rfl
         simp only[CE,Eb,Bl,Int.toNat_zero,Nat.sub_zero]at CY LV;have key:∃a',(Instr.sliceAt ty (.slice a es.length cap) ((none:Option Int).map fun n=>.int .i64 n) ((some Ma).map fun n=>.int .i64 n) ((none:Option Int).map fun n=>.int .i64 n)).run P w=.ok (.slice a' Ma.toNat cap) w∧(a'=a):=⟨_,CY,by first | exact LV | (split<;>first | rfl | exact LV | (simp_all))⟩
         obtain⟨a',CY,rfl⟩:=key;have Kt:BP (g.upd (KQ cx d) (.slice a' Ma.toNat cap) Ma.toNat true (g.own r) g.S) w (AW (A2 (A2 h r .dead) (KQ cx d) (.arr sz (es.take Ma.toNat)))) (.msl (KQ cx d) Ma.toNat) (.slice a' Ma.toNat cap) :=
          .msl _ _ _ _ _ (by unfold AW;rw[Bi];simp) (by simp[Gh.upd]) (by simp[Gh.upd]) (ha.elim (fun e=>.inl (by omega)) .inr) (fun _=>by simp[Gh.upd])
         obtain⟨k1,k2⟩:=hI.moveO r (KQ cx d) DM hd hl (ob:=g.own r) (fun c h=>h) (.arr sz (es.take Ma.toNat)) (.slice a' Ma.toNat cap) Ma.toNat true (by simp) (fun Im=>by
          obtain⟨u1,u2,u3,u4⟩:=BJ g (KQ cx d) (.slice a' Ma.toNat cap) Ma.toNat true (g.own r) g.S;refine⟨u3,u2.trans CF.symm,fun c hc=>al c (ED hc),?_⟩;rcases a2 with ⟨b1,b2,b3⟩ | ⟨b,L3,E,vs,b1,b2,b3,b4,b5,b6,b7⟩
          ·subst b1;rw[b2]at hv;cases hv;have h0:Ma.toNat=0:=by simp only[AE]at h2;omega
           exact .inl ⟨List.take_nil,by rw[u1,h0],u4.trans b3⟩
          ·rw[b1]at hv;cases hv;refine .inr ⟨b,cap,E,vs,by rw[CF];exact u1,u4.trans b2,by rw[CF];omega,b4,b5,?_,b7⟩;rw[CF];exact(CR.takeE al (by omega) b6).mono Im (fun _ h=>h) (fun _ h=>h.elim))
         exact⟨_,w,_,_,_,CY,hk,k1,k2,Kt⟩
       ·exact hk.elim
      ·exact hk.elim
     ·exact hk.elim
    ·exact hk.elim
  ·exact hk.elim
 ·exact hk.elim
theorem V2{cx:Cx}(hT:CJ P cx.T){d:Option Nat}{ty:Nat}{x:AV}{vx:Value}{t:Nat→AV}{ρ:Operand→Value}(ht:∀x:Operand,BP g w (AW h) (ev t x) (ρ x)){lo hi mx:Option Operand}{K:HK}(hx:BP g w (AW h) x vx)
  (hk:GK cx d h ty x (Cb t lo) (Cb t hi) (Cb t mx) K):OK P w0 g0 h0 h g w (Instr.sliceAt ty vx (lo.map ρ) (hi.map ρ) (mx.map ρ)) K:=by
 unfold GK at hk;split at hk
 ·rename_i H1 Ma nD e1 e2 e3;rw[K7 ht e1,K7 ht e2,K7 ht e3];split at hk
  ·rename_i hs;split at hk
   ·rename_i s;obtain⟨⟨h1,h2,h3⟩,hk⟩:=hk;obtain rfl:=hx.v_eq;have hb:=Us (P:=P) (w:=w) false s.size s.size H1 Ma none (.inl rfl) h1 h2 (by simpa using h3) (by simp);refine(BW.val (x:=.string (s.extract (H1.getD 0).toNat (Ma.getD s.size).toNat)) ?_ hk).does hI;simp only[Instr.sliceAt,Sem.run_bind,run_underlying (hT.string hs),Result.andThen_ok,Instr.slice];simp only[Option.map_none,Option.isSome_none,Df,Gd]at hb⊢;simp only[Sem.run_bind,hb,Result.andThen_ok,Sem.run_pure]
   ·exact hk.elim
  ·rename_i e hs;split at hk
   ·exact hk.elim
   ·rename_i k El;split at hk
    ·rename_i tk es;have hr:=hx.slice_none;obtain⟨a,cap,hv,Pv⟩:∃a cap,vx=.slice a es.length cap∧es.length≤cap:=by
      cases hr with
      |snil _ a cap=>exact⟨a,cap,rfl,AF _⟩
      |slice _ _ b off sz cap val hc=>exact⟨_,cap,rfl,hc⟩
     subst hv;split at hk
     ·obtain⟨⟨h1,h2,h3⟩,hl,hk⟩:=hk;have CY:=EZ (P:=P) (w:=w) hT hs El a es.length cap H1 Ma none (.inl rfl) h1 h2 (by simp only[Eb];omega) (by simp);refine BW.does hI ⟨_,_,CY,hk,(BP.sub (c':=cap-(H1.getD 0).toNat) hr rfl hl (l:=(H1.getD 0).toNat) (m:=(Ma.getD es.length).toNat) (by omega) (by omega) (by simp;omega) _ ?_).up _⟩;split
      ·rename_i e;simp only[Eb,Bl]at e;exact .inr ⟨by omega,rfl⟩
      ·exact .inl rfl
     ·rename_i m;split at hk
      ·rename_i d hh;split at hk
       ·obtain⟨⟨h1,h2,rfl,h3⟩,hl,hk⟩:=hk;have CY:=EZ (P:=P) (w:=w) hT hs El a es.length cap H1 (some m) (some m) (.inr (by simp)) h1 h2 (by simp) (by simp only[CE];omega);simp only[CE]at CY;have CF:((es.take m.toNat).drop (H1.getD 0).toNat).length=m.toNat-(H1.getD 0).toNat:=by rw[Ar,AH];omega
        refine BW.does hI ⟨_,_,CY,hk,.full _ _ _ _ ((BP.sub (c':=m.toNat-(H1.getD 0).toNat) hr rfl hl (l:=(H1.getD 0).toNat) (m:=m.toNat) (by omega) (by omega) (by omega) _ ?_).up _) (fun c hc=>hl c (ED (IM hc))) ⟨_,by rw[CF]⟩⟩;split
        ·rename_i e;exact .inr ⟨e,rfl⟩
        ·exact .inl rfl
       split at hk
       ·rename_i hd;obtain⟨⟨h1,h2,rfl,h3⟩,hl,hk⟩:=hk;have CY:=EZ (P:=P) (w:=w) hT hs El a es.length cap H1 (some m) (some m) (.inr (by simp)) h1 h2 (by simp) (by simp only[CE];omega);simp only[CE]at CY
        obtain⟨g',k1,k2,k3⟩:=Ou hI (sz:=(cx.T e).size) (n:=m.toNat-(H1.getD 0).toNat) hd (es:=(es.take m.toNat).drop (H1.getD 0).toNat) (fun c hc=>hl c (ED (IM hc))) (by rw[Ar,AH];omega)
         (BP.sub (c':=m.toNat-(H1.getD 0).toNat) hr rfl hl (l:=(H1.getD 0).toNat) (m:=m.toNat) (by omega) (by omega) (by omega) (if m.toNat=(H1.getD 0).toNat then a else a.map (·.add ((H1.getD 0).toNat*(cx.T e).size))) (by
          split
          ·rename_i e;exact .inr ⟨e,rfl⟩
          ·exact .inl rfl))
        exact⟨_,w,g',_,_,CY,hk,k1,k2,k3⟩
       ·exact hk.elim
      ·exact hk.elim
    ·obtain⟨⟨h1,h2,h3⟩,h4,hk⟩:=hk;obtain rfl:=hx.v_eq;have CY:=EZ (P:=P) (w:=w) hT hs El none 0 0 H1 Ma nD h4 (by omega) (by simp only[I1]at *;omega) (by simp only[I1]at *;omega) (by simp only[I1]at *;omega);refine BW.does hI (BW.val (x:=.slice none 0 0) ?_ hk);rw[CY];simp only[h1,I1,h2,h3];simp
    ·rename_i r n;split at hk
     ·rename_i sz es e0;split at hk
      ·rename_i RC;obtain rfl:=AP RC;obtain⟨⟨h1,h2,h3,h4,h5⟩,hk⟩:=hk;have ho:=hI.objs r;rw[e0]at ho;obtain⟨t1,l1,al,a3⟩:=ho;have hl:(h r).live:=by rw[e0];trivial
       have so:nD=none∨Ma≠none:=h5.imp id (fun q=>q.2);cases hx with
       |msl _ _ _ a cap hu ht' hn ha L4 =>
        have hv:=L4 (h1.trans l1.symm);subst h1;have lC:∀c:Nat,es.length≤c→Ma.getD es.length≤nD.getD c∧nD.getD c≤c:=fun c hc=>by
         rcases h5 with h5 | ⟨h5,DM⟩
         ·rw[h5];simp only[Eb];omega
         ·obtain⟨m,hm⟩:=Option.ne_none_iff_exists'.1 DM;rw[h5,hm];rw[hm]at h3 h4;simp only[CE]at h3 h4⊢;omega
        rcases a3 with ⟨rfl,q2,q3⟩ | ⟨b,L3,E,vs,q1,q2,q3,q4,q5,q6,q7⟩
        ·rw[q2]at hv;cases hv;have CY:=EZ (P:=P) (w:=w) hT hs El none 0 0 H1 Ma nD so h2 h3 (lC 0 (by simp)).1 (lC 0 (by simp)).2
         obtain⟨k1,k2⟩:=hI.upd r .dead (g.ρ r) (g.ln r) (g.tk r) (g.own r) g.S w none ⟨rfl,rfl,rfl,Am _⟩ (fun _ _ _=>rfl) (fun b e=>by cases e) (fun _ _ h=>h) (fun _ _ h=>.inl h) (fun b o e=>by cases e) (fun b hh _=>by cases hh) (by simp)
          (fun _=>⟨rfl,Am _,fun _=>rfl,fun _=>rfl⟩) (fun _ _=>trivial)
         refine⟨_,w,_,_,_,CY,hk,k1,k2,?_⟩;have z1:((H1.getD 0).toNat)=0:=by simp only[AE,I1]at h3 h4;omega
         have z2:((Ma.getD (([]:List (List AV)).length:Int)).toNat)=0:=by simp only[AE,I1]at h3 h4⊢;omega
         simp only[List.take_nil,List.drop_nil];have z3:((Ma.getD ((0:Nat):Int)).toNat)=0:=z2;rw[z1,z3];exact .snil _ _ _
        ·rw[q1]at hv;cases hv;have CY:=EZ (P:=P) (w:=w) hT hs El (some ⟨b,0,none⟩) es.length cap H1 Ma nD so h2 h3 (lC _ q3).1 (lC _ q3).2;have cY:=(hI.loc r b hl q2).1
         obtain⟨k1,k2⟩:=hI.upd r .dead (g.ρ r) (g.ln r) (g.tk r) (g.own r) (g.more b (es.length*(cx.T e).size)) w none ⟨rfl,rfl,rfl,Am _⟩ (fun _ _ _=>rfl) (fun b e=>by cases e) (fun _ _ h=>.inl h)
          (fun b' o hs=>hs.elim .inl (fun hs=>.inr ⟨by rw[hs.1];exact cY,.inr ⟨hl,by rw[hs.1];exact q2⟩⟩)) (fun b o e=>by cases e) (fun b hh _=>by cases hh) (by simp)
          (fun _=>⟨rfl,Am _,fun _=>rfl,fun _=>rfl⟩) (fun _ _=>trivial)
         have Es:=BP.slice_row (g:=g.upd r (g.ρ r) (g.ln r) (g.tk r) (g.own r) (g.more b (es.length*(cx.T e).size))) (U:=FH) q4 al q3 (q6.mono k2.keeps (fun _ h=>h) (fun _ h=>h.elim)) (fun o ho=>.inr ⟨rfl,ho⟩);have AbM:=lC _ q3;refine⟨_,w,_,_,_,CY,hk,k1,k2,(BP.sub (c':=(nD.getD cap).toNat-(H1.getD 0).toNat) Es rfl al (l:=(H1.getD 0).toNat) (m:=(Ma.getD es.length).toNat) (by omega) (by omega) (by omega) _ ?_).up _⟩;split
         ·rename_i e;exact .inr ⟨by omega,rfl⟩
         ·exact .inl rfl
      ·exact hk.elim
     ·exact hk.elim
    ·exact hk.elim
  ·exact hk.elim
 ·exact hk.elim
theorem UZ{cx:Cx}(hT:CJ P cx.T){d:Option Nat}{ty:Nat}{n c:AV}{vn vc:Value}{K:HK}(hn:BP g w (AW h) n vn)(hc:BP g w (AW h) c vc)(hk:JL cx d h ty n c K) :
  OK P w0 g0 h0 h g w (Instr.makeSlice ty vn vc) K:=by
 unfold JL at hk;split at hk
 ·rename_i e n c hs;obtain rfl:=hn.v_eq;obtain rfl:=hc.v_eq;split at hk
  ·rename_i Sc;split at hk
   ·rename_i Nw;have Nw:=AP Nw;split at hk
    ·exact hk.elim
    ·rename_i k El;obtain⟨⟨h1,h2,h3,h4⟩,hk⟩:=hk;obtain⟨i,z,i1,i2,i3,i4,i5⟩:=HN hT El;have po:(cx.T e).zc≠[]:=fun e0=>by rw[e0]at Nw;rw[El]at Nw;cases Nw
     have wn:IntKind.i64.wrap n=n:=Nt ⟨by omega,by omega⟩;have wc:IntKind.i64.wrap c=c:=Nt ⟨by omega,by omega⟩;have Fm:∀l:List AV,(∀a∈l,one a=true)→Hj l=true:=by
      intro l
      induction l with
      |nil=>intro _;rfl
      |cons a l ih=>intro h;simp[Hj,h a (List.mem_cons_self ..),ih (fun b hb=>h b (List.mem_cons_of_mem _ hb))]
     have pk:((Array.range (c.toNat*(cx.T e).size)).map fun k=>z.cells[k % z.cells.size]!).toList=(List.replicate c.toNat (cx.T e).zc).flatten:=by
      rw[H7 c.toNat _ po,Nw,i5];have e6:z.cells.size=(cx.T e).size:=by rw[←Nw,i5];simp
      simp[e6,Array.getElem!_eq_getD]
     have hzs:(cx.T e).zc.length=(cx.T e).size:=Nw;have ui:∀c'∈List.replicate c.toNat (cx.T e).zc,c'.length=(cx.T e).size:=fun c' hc=>by rw[Cn hc];exact Nw
     have wV : ∀c'∈List.replicate n.toNat ((cx.T e).zc.map AV.v),c'.length=(cx.T e).size:=fun c' hc=>by rw[Cn hc,Bg];exact Nw
     have wW:∀c'∈List.replicate n.toNat (cx.T e).zc,c'.length=(cx.T e).size:=fun c' hc=>by rw[Cn hc];exact Nw
     obtain⟨g',av,h',q1,q2,q3,q4⟩:=Kf hI hk (vs:=(Array.range (c.toNat*(cx.T e).size)).map fun k=>z.cells[k % z.cells.size]!) (cap:=c.toNat) e wV (by rw[CA];omega) (by simp) (by
      rw[pk,CA];have e1:(List.replicate n.toNat ((cx.T e).zc.map AV.v)).flatten=(List.replicate n.toNat (cx.T e).zc).flatten.map AV.v:=by
       rw[SJ,List.map_replicate]
      have e2:(List.replicate c.toNat (cx.T e).zc).flatten.take (n.toNat*(cx.T e).size)=(List.replicate n.toNat (cx.T e).zc).flatten:=by
       obtain⟨m,hm⟩:∃m,c.toNat=n.toNat+m:=⟨c.toNat-n.toNat,by omega⟩;rw[hm,←List.replicate_append_replicate,CU,HM (by rw[Dv wW,CA])]
      rw[e1,e2];refine CR.vals (Fm _ (fun a ha=>?_));obtain⟨x,hx,rfl⟩:=Ao.1 ha;obtain⟨l,hl,hx⟩:=EC.1 hx;rw[Cn hl]at hx;exact MW Sc _ (Ao.2 ⟨x,hx,rfl⟩)) w ⟨rfl,rfl,rfl,rfl⟩
     rw[CA]at q4;refine⟨_,_,g',av,h',?_,q1,q2,q3,q4⟩;have wC:¬((cx.T e).bytes*c>2 ^ 48):=by rw[Int.mul_comm];omega
     have gO:((decide (c<0)||decide (((cx.T e).bytes:Int)*c>2 ^ 48))||decide (n<0)||decide (n>c))=false:=by
      simp only[Bool.or_eq_false_iff,Ka];exact⟨⟨⟨by omega,wC⟩,by omega⟩,by omega⟩
     simp only[Instr.makeSlice,Sem.run_bind,run_underlying (hT.slice hs),Result.andThen_ok,asInt,asIntOf,Sem.run_pure,typeInfo,run_program,i1,i4,wn,wc,gO,Df,Gd,run_askRoom,hT.size1 w El]
     by_cases hz:c.toNat*(k+1)=0
     ·have wF:c.toNat=0:=by
       rcases Nat.mul_eq_zero.1 hz with h | h
       ·exact h
       ·cases h
      rw[wF];simp only[KI,Og];simp only[show Array.range 0=#[]from rfl,Array.map_empty];simp[newRow]
     ·simp only[Al hz,Sem.run_bind,zeroValue,typeInfo,run_program,i1,i2,Result.andThen_ok,Sem.run_pure];rw[El];simp[newRow]
   ·exact hk.elim
  ·exact hk.elim
 ·exact hk.elim
end
end Go.Eng
