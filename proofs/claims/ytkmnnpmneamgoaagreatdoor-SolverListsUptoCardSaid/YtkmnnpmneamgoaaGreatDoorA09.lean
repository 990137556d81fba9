/- Lemmas for the claims of this seat, without a condition: part 9 (EngR, EngS). -/
import Derived.Test.YtkmnnpmneamgoaaGreatDoorA08
namespace Go.Eng

theorem CT.app{g:Gh}{w:World}{U:Nat→Prop}{Uc bs:List AV}{xs ys:List Value}(h:CT g w U Uc xs)(k:CT g w U bs ys):CT g w U (Uc++bs) (xs++ys):=by
 refine⟨by simp[h.1,k.1],fun x hx=>(A5.1 hx).elim (h.2.1 x) (k.2.1 x),fun i av x h1 h2=>?_⟩
 by_cases hi:i<Uc.length
 ·rw[AZ hi]at h1;rw[AZ (by rw[h.1];exact hi)]at h2;exact h.2.2 i av x h1 h2
 ·rw[AR (by omega)]at h1;rw[AR (by rw[h.1];omega),h.1]at h2;exact k.2.2 _ av x h1 h2

section
variable {P:Program}{w0:World}{g0:Gh}{h0 h:Nat→HO}{g:Gh}{w:World}(hI:Dx w0 g0 h0 h g w)
include hI

omit hI in
theorem Qh(t ty e:TypeId)(i:TypeInfo)(ht:P.underlying t=some (.slice e))(hi:P.info? e=some i){E:TypeId}
  (g N0 Z0:Nat) (F6:Array Value) (hg:w.heap[g]?=some (.cells F6 E (0,0)))
  (a:Addr) (m c:Nat) (news:List Value) (hl:news.length=m*i.size) (IR:∀j u,news[j]?=some u→w.cell? (a.add j)=some u) (h1:∀u∈news,u.oneCell'=true)
  (JV:N0+m≤Z0) (Zk:N0*i.size+news.length≤F6.size) :
  (Builtin.append_ #[t,t] ty #[.slice (some ⟨g,0,none⟩) N0 Z0,.slice (some a) m c]).run P w =
   .ok (.slice (some ⟨g,0,none⟩) (N0+m) Z0) (w.setRow g (F6.toList.take (N0*i.size)++news++F6.toList.drop (N0*i.size+news.length)).toArray):=by
 have hf:=run_firstCells_some (P:=P) w i.size m a m c news hl IR;have Gy:=run_storeCells_at P g (N0*i.size) E news 0 F6 w hg (by simpa using Zk) h1;simp only[ID]at Gy;simp[Builtin.append_,run_underlying ht,sizeOf,typeInfo,hi,Builtin.lenOf,JV,hf,Addr.add_lit,Gy]

omit hI in
theorem TS(t ty e:TypeId)(i:TypeInfo)(ht:P.underlying t=some (.slice e))(hi:P.info? e=some i){E:TypeId}
  (g off N0 Z0:Nat) (F6:Array Value) (hg:w.heap[g]?=some (.cells F6 E (0,0)))
  (a:Addr) (m c:Nat) (news:List Value) (hl:news.length=m*i.size) (IR:∀j u,news[j]?=some u→w.cell? (a.add j)=some u) (h1:∀u∈news,u.oneCell'=true)
  (JV:N0+m≤Z0) (Zk:off+N0*i.size+news.length≤F6.size) :
  (Builtin.append_ #[t,t] ty #[.slice (some ⟨g,off,none⟩) N0 Z0,.slice (some a) m c]).run P w =
   .ok (.slice (some ⟨g,off,none⟩) (N0+m) Z0) (w.setRow g (F6.toList.take (off+N0*i.size)++news++F6.toList.drop (off+N0*i.size+news.length)).toArray):=by
 have hf:=run_firstCells_some (P:=P) w i.size m a m c news hl IR;have Gy:=run_storeCells_at P g (off+N0*i.size) E news 0 F6 w hg (by simpa using Zk) h1;simp only[ID]at Gy;simp[Builtin.append_,run_underlying ht,sizeOf,typeInfo,hi,Builtin.lenOf,JV,hf,Addr.add_lit,Gy]

omit hI in
theorem lI{b off n m sz cap:Nat}{F6:Array Value}{E:TypeId}{olds news:List Value}(hb:w.heap[b]?=some (.cells F6 E (0,0)))(Zi:F6.size=off+cap*sz)(hn:n≤cap)(hm:n+m≤cap)(hnl:news.length=m*sz)(tv:olds.length=n*sz)
  (GP:∀j u,olds[j]?=some u→w.cell? ⟨b,off+j,none⟩=some u) :
  (F6.toList.take (off+n*sz)++news++F6.toList.drop (off+n*sz+news.length)).length=off+cap*sz ∧
  ((F6.toList.take (off+n*sz)++news++F6.toList.drop (off+n*sz+news.length)).drop off).take ((n+m)*sz)=olds++news ∧
  ∀o,o<off+n*sz→(F6.toList.take (off+n*sz)++news++F6.toList.drop (off+n*sz+news.length)).toArray[o]?=F6[o]?:=by
 have hcl:F6.toList.length=off+cap*sz:=by rw[CB];exact Zi
 have XH:(n+m)*sz≤cap*sz:=Bg _ hm;have gy:n*sz≤cap*sz:=Bg _ hn;rw[FU]at XH;have KG:(F6.toList.take (off+n*sz)).drop off=olds:=by
  apply Dq;intro j
  by_cases hj:j<n*sz
  ·rw[DE,B8 (by omega)];have hx:olds[j]?=some olds[j]:=AD (by omega)
   have:=GP j _ hx
   rw[F8 hb]at this;rw[AO,this,hx]
  ·rw[A4 (by rw[B6,AK];omega),A4 (by omega)]
 have pH:(F6.toList.take (off+n*sz)).length=off+n*sz:=by rw[AK];omega
 refine⟨?_,?_,fun o ho=>?_⟩
 ·rw[Ad,Ad,pH,B6,hcl,hnl];omega
 ·rw[BU,List.drop_append_of_le_length (by rw[pH];omega),KG,←BU,Gp (by rw[Ad,tv,hnl,FU])]
 ·rw[Ly,BU,AZ (by rw[pH];exact ho),B8 ho,AO]

omit hI in
theorem iW{b n m sz cap:Nat}{F6:Array Value}{E:TypeId}{olds news:List Value}(hb:w.heap[b]?=some (.cells F6 E (0,0)))(Zi:F6.size=cap*sz)(hn:n≤cap)(hm:n+m≤cap)(hnl:news.length=m*sz)(tv:olds.length=n*sz)
  (GP:∀j u,olds[j]?=some u→w.cell? ⟨b,j,none⟩=some u) :
  (F6.toList.take (n*sz)++news++F6.toList.drop (n*sz+news.length)).length=cap*sz ∧
  (F6.toList.take (n*sz)++news++F6.toList.drop (n*sz+news.length)).take ((n+m)*sz)=olds++news ∧
  ∀o,o<n*sz→(F6.toList.take (n*sz)++news++F6.toList.drop (n*sz+news.length)).toArray[o]?=F6[o]?:=by
 have hcl:F6.toList.length=cap*sz:=by rw[CB];exact Zi
 have XH:(n+m)*sz≤cap*sz:=Bg _ hm;have gy:n*sz≤cap*sz:=Bg _ hn;rw[FU]at XH;have KG:F6.toList.take (n*sz)=olds:=by
  apply Dq;intro j
  by_cases hj:j<n*sz
  ·rw[B8 hj];have hx:olds[j]?=some olds[j]:=AD (by omega)
   have:=GP j _ hx
   rw[F8 hb]at this;rw[AO,this,hx]
  ·rw[A4 (by rw[AK];omega),A4 (by omega)]
 have pH:(F6.toList.take (n*sz)).length=n*sz:=by rw[AK];omega
 refine⟨?_,?_,fun o ho=>?_⟩
 ·rw[Ad,Ad,pH,B6,hcl,hnl];omega
 ·rw[KG,Gp (by rw[Ad,tv,hnl,FU])]
 ·rw[Ly,BU,AZ (by rw[pH];exact ho),B8 ho,AO]

theorem UH{r n sz:Nat}{es:List (List AV)}{x:Value}(he:h r=.arr sz es)(hx:BI g w (AM h) (.msl r n) x)(hn:n=es.length) :
  x=g.ρ r∧∃news,Oh w x es.length sz news∧CT g w Fj es.flatten news:=by
 have ho:=hI.objs r;rw[he]at ho;obtain⟨t1,l1,al,a1⟩:=ho;cases hx with
 |msl _ _ _ a cap hu ht XI ha Mk =>
  have e:=Mk (hn.trans l1.symm);refine⟨e,?_⟩;rw[e];rcases a1 with ⟨rfl,e2,e3⟩ | ⟨b,Oo,E,vs,e1,e2,e3,e4,e5,e6,e7⟩
  ·exact⟨[],⟨by simp,by simp,none,0,e2,.inl rfl⟩,by simp,by simp,fun i av x h1 h2=>by simp at h2⟩
  ·have Zi:vs.toList.length=Oo*sz:=by rw[CB];exact e5
   have Hs:es.length*sz≤vs.toList.length:=by rw[Zi];exact Bg _ e3
   refine⟨vs.toList.take (es.length*sz),⟨by rw[AK,UA Hs],e6.2.1,_,_,e1,.inr ⟨_,rfl,fun j u hj=>?_⟩⟩,e6⟩;rw[Addr.add_lit,Bc,F8 e4];have Dz:=(Aw.1 hj).1;rw[AK]at Dz;rw[B8 (by omega),AO]at hj;exact hj

theorem bS{sz:Nat}{x:AV}{vx:Value}{K:List (List AV)→Prop}(hx:BI g w (AM h) x vx)(hk:Ld h x K) :
  ∃es,K es∧((∀c∈es,c.length=sz)→∃news,Oh w vx es.length sz news∧CT g w Fj es.flatten news):=by
 unfold Ld at hk;split at hk
 ·exact⟨_,hk,fun hl=>Oh.of_rep hx.slice_none hl⟩
 ·obtain rfl:=hx.v_eq;exact⟨[],hk,fun _=>⟨[],⟨by simp,by simp,none,0,rfl,.inl rfl⟩,by simp,by simp,fun i av x h1 h2=>by simp at h2⟩⟩
 ·rename_i r n;split at hk
  ·rename_i GW es e;obtain⟨hn,hk⟩:=hk;refine⟨es,hk,fun hl=>?_⟩;obtain⟨_,news,n1,n2⟩:=UH hI e hx hn;refine⟨news,?_,n2⟩
   have:news.length=es.length*sz:=by rw[n2.1,Ey hl]
   exact⟨this,n1.2.1,n1.2.2⟩
  ·exact hk.elim
 ·exact hk.elim

theorem cV{cx:Cx}{d:Option Nat}{sz:Nat}{K:HK}(hk:EF cx d h sz [] K) :
  ∃g' av h',K av h'∧Dx w0 g0 h0 h' g' w∧Le h g w h' g' w∧BI g' w (AM h') av (.slice none 0 0):=by
 have base:∀(d:Nat) (o' : HO),h d=.free→o'≠.free→(∀g' : Gh,g'.ρ d=.slice none 0 0→g'.ln d=0→g'.tk d=true→g'.own d=none→Ec g' w (AM (AW h d o')) d o') →
   Dx w0 g0 h0 (AW h d o') (g.upd d (.slice none 0 0) 0 true none g.S) w∧Le h g w (AW h d o') (g.upd d (.slice none 0 0) 0 true none g.S) w:=by
  intro d o' hd Dy Js;refine hI.upd d o' _ _ _ _ _ w none ⟨rfl,rfl,rfl,Ao _⟩ (fun _ _ _=>rfl) (fun b e=>by cases e) (fun _ _ h=>h) (fun _ _ h=>.inl h) (fun b o e=>by cases e) (fun b _ e=>by cases e) Dy (fun hu=>absurd hd hu) (fun _ _=>?_);obtain⟨u1,u2,u3,u4⟩:=BM g d (.slice none 0 0) 0 true none g.S;exact Js _ u1 u2 u3 u4
 unfold EF at hk;split at hk
 ·exact hk.elim
 ·rename_i d;generalize KB cx d=d1 at hk;split at hk
  ·rename_i hd;split at hk
   ·obtain⟨k1,k2⟩:=base d1 (.arr sz []) hd (by simp) (fun g' u1 u2 u3 u4=>⟨u3,u2,by simp,.inl ⟨rfl,u1,u4⟩⟩);exact⟨_,_,_,hk,k1,k2,.msl _ d1 0 none 0 (by unfold AM;rw[Bd];simp) (by simp[Gh.upd]) (AL _) (.inl rfl) (fun _=>by simp[Gh.upd])⟩
   ·obtain⟨k1,k2⟩:=base d1 (.tok sz 0) hd (by simp) (fun g' u1 u2 u3 u4=>⟨u3,u2,none,0,u1,.inl ⟨rfl,u4⟩⟩);exact⟨_,_,_,hk,k1,k2,.tok _ d1 sz [] _ (.snil _ _ _) (by simp) (by unfold AM;rw[Bd];simp) (by simp[Gh.upd]) (AL _) (fun _=>by simp[Gh.upd])⟩
  ·exact hk.elim

theorem YR{cx:Cx}(hT:Cu P cx.T){d:Option Nat}{t ty:Nat}{s x:AV}{vs vx:Value}{K:HK}(hs:BI g w (AM h) s vs)(hx:BI g w (AM h) x vx)(hk:If cx d h t s x K) :
  Ob P w0 g0 h0 h g w (Builtin.append_ #[t,t] ty #[vs,vx]) K:=by
 unfold If at hk;split at hk
 ·rename_i e ht;split at hk
  ·exact hk.elim
  ·rename_i hz;have hz:=AU hz;split at hk
   ·exact hk.elim
   ·rename_i k Ed;have h5:=bS hI (sz:=(cx.T e).size) hx hk
    clear hk
    obtain⟨es2,hk,h6⟩:=h5;split at hk
    ·obtain⟨⟨q1,q2,q3⟩,hk⟩:=hk;obtain rfl:=hs.v_eq;obtain⟨news,n1,n2⟩:=h6 (FY q1);obtain⟨m1,m2,a,c,rfl,m4⟩:=n1
     by_cases hm:es2.length=0
     ·obtain rfl:=AJ hm;obtain⟨g',av,h',k1,k2,k3,k4⟩:=cV hI hk;exact⟨_,w,g',av,h',IK hT w ht Ed none a 0 0 c (Ao _),k1,k2,k3,k4⟩
     ·obtain⟨nc,rest,r1,r2,r3⟩:=HP hT w (ty:=ty) ht Ed hz (olds:=[]) (a:=none) (n:=0) (cap:=0) ⟨by simp,by simp,none,0,rfl,.inl rfl⟩ rfl (fun _=>rfl) ⟨m1,m2,a,c,rfl,m4⟩ rfl (by omega) (by omega) (by rw[Bc];exact q2) (by omega);obtain⟨g',av,h',k1,k2,k3,k4⟩:=JX hI hk (vs:=([]++news++rest).toArray) (cap:=nc) e (FY q1) (by omega) (by simpa using r3) (by
       rw[EU,show(news++rest).toArray.toList=news++rest from rfl,Gp m1];exact n2) w.drew ⟨rfl,rfl,rfl,rfl⟩
      rw[Bc]at r1;exact⟨_,_,g',av,h',r1,k1,k2,k3,k4⟩
    ·rename_i GW es;split at hk
     ·rename_i QN;obtain QN:=AU QN;obtain⟨⟨q1,q2,q3,q4⟩,hk⟩:=hk;obtain⟨news,n1,n2⟩:=h6 (FY q1);obtain⟨m1,m2,a2,c2,rfl,m4⟩:=n1;cases hs with
      |full _ _ _ _ hr Rz Mk =>
       obtain⟨a,rfl⟩:=Mk;have GJ:∀c∈es++es2,c.length=(cx.T e).size:=fun c hc=>(A5.1 hc).elim (fun h=>(Rz c h).trans QN) (FY q1 c);obtain⟨olds,o1,o2⟩:=Oh.of_rep hr (sz:=(cx.T e).size) (fun c hc=>(Rz c hc).trans QN);have hrl:=o2.app n2;rw[←Cc]at hrl;have ha:a=none→es.length=0:=by
        rintro rfl
        obtain⟨p1,p2,a',c',p3,p4⟩:=o1;cases p3;rcases p4 with h | ⟨b',h,_⟩
        ·exact h
        ·cases h
       obtain⟨nc,rest,r1,r2,r3⟩:=HP hT w (ty:=ty) ht Ed hz o1 rfl ha ⟨m1,m2,a2,c2,rfl,m4⟩ rfl q2 (by omega) q3 q4;obtain⟨g',av,h',k1,k2,k3,k4⟩:=JX hI hk (vs:=(olds++news++rest).toArray) (cap:=nc) e GJ (by rw[Ad];exact r2) (by rw[HZ];exact r3) (by
        rw[show(olds++news++rest).toArray.toList=olds++news++rest from rfl,Gp (by rw[Ad,Ad,o1.1,m1,FU])];exact hrl) w.drew ⟨rfl,rfl,rfl,rfl⟩
       rw[Ad]at k4;exact⟨_,_,g',av,h',r1,k1,k2,k3,k4⟩
     ·exact hk.elim
    ·rename_i r GW es;have ho:=hI.objs r;split at hk
     ·rename_i sz n e0;rw[e0]at ho;split at hk
      ·rename_i QN wT;obtain rfl:=AU wT;obtain QN:=AU QN;obtain⟨⟨q1,q2,q3,q4⟩,hk⟩:=hk;rw[QN]at q1;obtain⟨news,n1,n2⟩:=h6 (FY q1);obtain⟨m1,m2,a2,c2,rfl,m4⟩:=n1;obtain⟨t1,l1,a,cap,a1,a3⟩:=ho;have hl:(h r).live:=by rw[e0];trivial
       have GJ:∀c∈es++es2,es.length=n→True:=fun _ _ _=>trivial;cases hs with
       |tok _ _ _ _ _ hr Rz hu ht' hn Mk =>
        have hv:=Mk (q2.trans l1.symm);rw[a1]at hv;subst hv;subst q2;have GJ:∀c∈es++es2,c.length=GW:=fun c hc=>(A5.1 hc).elim (Rz c) (fun h=>(FY q1 c h).trans QN.symm);obtain⟨olds,o1,o2⟩:=Oh.of_rep hr Rz;have hrl:=o2.app n2;rw[←Cc]at hrl;have aL:es.length≤cap:=by rcases a3 with ⟨e1,_⟩ | ⟨e1,_⟩<;>omega
        by_cases hm:es2.length=0
        ·obtain rfl:=AJ hm;have Js:=hI.objs r;rw[e0]at Js
         obtain⟨k1,k2⟩:=hI.upd r (.tok GW (es.length+([]:List (List AV)).length)) (g.ρ r) (g.ln r) (g.tk r) (g.own r) g.S w none ⟨rfl,rfl,rfl,Ao _⟩ (fun _ _ _=>rfl) (fun b e=>by cases e) (fun _ _ h=>h) (fun _ _ h=>.inl h) (fun b o e=>by cases e)
          (fun b _ e=>⟨(hI.loc r b hl e).1,.inl ⟨hl,e⟩⟩) (by simp) (fun _=>⟨rfl,Ao _,fun _=>rfl,fun _=>rfl⟩) (fun hg Jb=>by
           obtain⟨u1,u2,u3,u4⟩:=BM g r (g.ρ r) (g.ln r) (g.tk r) (g.own r) g.S;rw[Al,ID];exact Js.same Jb (fun i hi=>DW (by simp) i hi) hg u1 u2 u3 u4 (fun b _ _=>⟨rfl,fun _ h=>h⟩))
         refine⟨_,w,_,_,_,IK hT w ht Ed a a2 es.length cap c2 aL,hk,k1,k2,?_⟩;rw[CY];exact(BI.tok (AM h) r GW es _ hr Rz hu ht' hn Mk).le k2
        ·by_cases JV:es.length+es2.length≤cap
         ·rcases a3 with ⟨e1,_⟩ | ⟨e1,b,E,F6,off,rfl,e3,e4,e5,e6⟩
          ·omega
          ·rcases m4 with h | ⟨ba,rfl,IR⟩
           ·omega
           ·obtain⟨i,z,i1,i2,i3,i4,i5⟩:=Hv hT Ed;have XH:(es.length+es2.length)*GW≤cap*GW:=Bg _ JV;have PL:news.length=es2.length*GW:=by rw[QN];exact m1
            have Zl:i.size=GW:=i3.trans QN.symm;have Dd:=TS (P:=P) t ty e i (hT.slice ht) i1 b off es.length cap F6 e4 ba es2.length c2 news (by rw[Zl];exact PL) IR m2 JV (by rw[Zl,PL,e5];rw[FU]at XH;omega);rw[Zl]at Dd;have GP:∀j u,olds[j]?=some u→w.cell? ⟨b,off+j,none⟩=some u:=by
             obtain⟨p1,p2,a',c',p3,p4⟩:=o1;cases p3;intro j u hj;rcases p4 with h | ⟨b',h,h'⟩
             ·rw[h,Ks]at p1;rw[AJ p1]at hj;simp at hj
             ·cases h
              have:=h' j u hj
              rwa [Addr.add_lit]at this
            obtain⟨p1,p2,p3⟩:=lI e4 e5 e1 JV PL o1.1 GP;generalize hnewd:F6.toList.take (off+es.length*GW)++news++F6.toList.drop (off+es.length*GW+news.length)=new at Dd p1 p2 p3;have Fr:=setRow_heap w b F6 new.toArray E (0,0) e4;have ci:=(hI.loc r b hl e3).1
            obtain⟨k1,k2⟩:=hI.upd r (.tok GW (es.length+es2.length)) (.slice (some ⟨b,off,none⟩) (es.length+es2.length) cap) (es.length+es2.length) (g.tk r) (g.own r) (g.more b (off+(es.length+es2.length)*GW)) (w.setRow b new.toArray) (some b)
             ⟨rfl,rfl,rfl,by rw[size_setRow];exact Ao _⟩ (fun k _ Dy=>setRow_other w b k _ (fun e=>Dy (by rw[e]))) (fun b' e=>by cases e;exact⟨hl,e3⟩) (fun _ _ h=>.inl h)
             (fun b' o hs=>hs.elim .inl (fun hs=>.inr ⟨by rw[size_setRow,hs.1];exact ci,.inr ⟨hl,by rw[hs.1];exact e3⟩⟩))
             (fun b' o e hs=>by
              cases e
              refine⟨?_,fun es ck he=>by rw[e4]at he;cases he⟩;rw[F8 Fr,F8 e4];exact p3 o (e6 o hs)) (fun b' _ e=>by
              rw[e3]at e;cases e;exact⟨by rw[size_setRow];exact ci,.inl ⟨hl,e3⟩⟩) (by simp) (fun _=>⟨rfl,by omega,fun e=>(by rw[t1]at e;cases e),fun e=>by omega⟩) (fun hg Jb=>by
              obtain⟨u1,u2,u3,u4⟩:=BM g r (.slice (some ⟨b,off,none⟩) (es.length+es2.length) cap) (es.length+es2.length) (g.tk r) (g.own r) (g.more b (off+(es.length+es2.length)*GW));exact⟨u3.trans t1,u2,_,cap,u1,  .inr ⟨JV,b,E,_,off,rfl,u4.trans e3,Fr,by rw[HZ];exact p1,fun o ho=>by
               rcases ho with ho | ⟨_,ho⟩
               ·have h1:=e6 o ho;have h2:es.length*GW≤(es.length+es2.length)*GW:=Bg _ (by omega);omega
               ·exact ho⟩⟩)
            have Ez:=BI.slice_off (g:=g.upd r (.slice (some ⟨b,off,none⟩) (es.length+es2.length) cap) (es.length+es2.length) (g.tk r) (g.own r) (g.more b (off+(es.length+es2.length)*GW))) (U:=AM (AW h r (.tok GW (es.length+es2.length)))) (cap:=cap) (es:=es++es2) Fr GJ (by rw[Ad];exact JV) (by
             rw[Ad,show new.toArray.toList=new from rfl,p2];exact hrl.mono k2.keeps (fun _ h=>h) (fun _ h=>h.elim)) (fun o ho=>.inr ⟨rfl,by rw[Ad]at ho;exact Nat.add_lt_add_left ho off⟩)
            rw[Ad]at Ez;exact⟨_,_,_,_,_,Dd,hk,k1,k2,.tok _ r GW _ _ Ez GJ (by unfold AM;rw[Bd];simp) (by simp[Gh.upd,t1]) (by simp[Gh.upd]) (fun _=>by simp[Gh.upd])⟩
         ·have gw:cap<es.length+es2.length:=by omega
          have ha:a=none→cap=0:=by
           rintro rfl
           rcases a3 with ⟨e1,_⟩ | ⟨_,b,_,_,_,e2,_⟩
           ·obtain⟨p1,p2,a',c',p3,p4⟩:=o1;cases p3;rcases p4 with h | ⟨b',h,_⟩
            ·omega
            ·cases h
           ·cases e2
          obtain⟨nc,rest,r1,r2,r3⟩:=HP hT w (ty:=ty) ht Ed hz (by rw[←QN];exact o1) rfl ha ⟨m1,m2,a2,c2,rfl,m4⟩ rfl (by omega) gw q3 q4;have Fr:=HF w.drew (.cells (olds++news++rest).toArray e (0,0)) (b:=w.heap.size) rfl
          obtain⟨k1,k2⟩:=hI.upd r (.tok GW (es.length+es2.length)) (.slice (some ⟨w.heap.size,0,none⟩) (es.length+es2.length) nc) (es.length+es2.length) (g.tk r) (some w.heap.size) (g.more w.heap.size ((es.length+es2.length)*GW))
           (w.drew.alloc (.cells (olds++news++rest).toArray e (0,0))) none
           ⟨rfl,rfl,rfl,by rw[World.size_alloc];exact Nat.le_succ _⟩ (fun k K3 _=>by rw[heap_alloc_old _ _ (by exact K3)];rfl) (fun b' e=>by cases e) (fun _ _ h=>.inl h)
           (fun b' o hs=>hs.elim .inl (fun hs=>.inr ⟨by rw[World.size_alloc,hs.1];exact LO _,.inl (by rw[hs.1];exact Ao _)⟩))
           (fun b' o e=>by cases e) (fun b' _ e=>by cases e;exact⟨by rw[World.size_alloc];exact LO _,.inr (Ao _)⟩) (by simp) (fun _=>⟨rfl,by omega,fun e=>(by rw[t1]at e;cases e),fun e=>by omega⟩) (fun hg Jb=>by
            obtain⟨u1,u2,u3,u4⟩:=BM g r (.slice (some ⟨w.heap.size,0,none⟩) (es.length+es2.length) nc) (es.length+es2.length) (g.tk r) (some w.heap.size) (g.more w.heap.size ((es.length+es2.length)*GW));exact⟨u3.trans t1,u2,_,nc,u1,.inr ⟨r2,w.heap.size,e,_,0,rfl,u4,Fr,by rw[HZ,QN,Bc];exact r3,fun o ho=>by
             rcases ho with ho | ⟨_,ho⟩
             ·have:=hI.slt _ _ ho;omega
             ·omega⟩⟩)
          have Ez:=BI.slice_row (g:=g.upd r (.slice (some ⟨w.heap.size,0,none⟩) (es.length+es2.length) nc) (es.length+es2.length) (g.tk r) (some w.heap.size) (g.more w.heap.size ((es.length+es2.length)*GW))) (U:=AM (AW h r (.tok GW (es.length+es2.length)))) (cap:=nc) (es:=es++es2) Fr GJ (by rw[Ad];exact r2) (by
           rw[Ad,show(olds++news++rest).toArray.toList=olds++news++rest from rfl,Gp (by rw[Ad,o1.1,m1,QN,FU])];exact hrl.mono k2.keeps (fun _ h=>h) (fun _ h=>h.elim)) (fun o ho=>.inr ⟨rfl,by rw[Ad]at ho;exact ho⟩)
          rw[Ad]at Ez;exact⟨_,_,_,_,_,r1,hk,k1,k2,.tok _ r GW _ _ Ez GJ (by unfold AM;rw[Bd];simp) (by simp[Gh.upd,t1]) (by simp[Gh.upd]) (fun _=>by simp[Gh.upd])⟩
      ·exact hk.elim
     ·exact hk.elim
    ·rename_i r n;have ho:=hI.objs r;split at hk
     ·rename_i sz es e0;split at hk
      ·rename_i QN;obtain QN:=AU QN;obtain⟨⟨q1,q2,q3,q4⟩,hk⟩:=hk;rw[QN]at q1;obtain⟨news,n1,n2⟩:=h6 (FY q1);obtain⟨m1,m2,a2,c2,rfl,m4⟩:=n1;obtain⟨hv,olds,o1,o2⟩:=UH hI e0 hs q2.symm;have Js:=ho;rw[e0]at ho;obtain⟨t1,l1,al,a3⟩:=ho;have hl:(h r).live:=by rw[e0];trivial
       subst hv;have GJ:∀c∈es++es2,c.length=sz:=fun c hc=>(A5.1 hc).elim (al c) (fun h=>(FY q1 c h).trans QN.symm);have hrl:=o2.app n2;rw[←Cc]at hrl;obtain⟨a,cap,hρ,aL,ha⟩:∃a cap,g.ρ r=.slice a es.length cap∧es.length≤cap∧(a=none→cap=0):=by
        rcases a3 with ⟨rfl,e2,e3⟩ | ⟨b,cap,E,F6,e1,e2,e3,e4,e5,e6,e7⟩
        ·exact⟨none,0,e2,Ao _,fun _=>rfl⟩
        ·exact⟨_,cap,e1,e3,fun e=>by cases e⟩
       by_cases hm:es2.length=0
       ·obtain rfl:=AJ hm;rw[e0]at Js
        obtain⟨k1,k2⟩:=hI.upd r (.arr sz (es++[])) (g.ρ r) (g.ln r) (g.tk r) (g.own r) g.S w none ⟨rfl,rfl,rfl,Ao _⟩ (fun _ _ _=>rfl) (fun b e=>by cases e) (fun _ _ h=>h) (fun _ _ h=>.inl h) (fun b o e=>by cases e)
         (fun b _ e=>⟨(hI.loc r b hl e).1,.inl ⟨hl,e⟩⟩) (by simp) (fun _=>⟨rfl,Ao _,fun _=>rfl,fun _=>rfl⟩) (fun hg Jb=>by
          obtain⟨u1,u2,u3,u4⟩:=BM g r (g.ρ r) (g.ln r) (g.tk r) (g.own r) g.S;rw[CY];exact Js.same Jb (fun i hi=>DW (by simp) i hi) hg u1 u2 u3 u4 (fun b _ _=>⟨rfl,fun _ h=>h⟩))
        refine⟨g.ρ r,w,_,_,_,?_,hk,k1,k2,?_⟩
        ·rw[hρ];exact IK hT w ht Ed a a2 es.length cap c2 aL
        ·have:=hs.le k2
         rw[←q2]at this;exact this
       ·by_cases JV:es.length+es2.length≤cap
        ·rcases a3 with ⟨rfl,e2,e3⟩ | ⟨b,Oo,E,F6,e1,e2,e3,e4,e5,e6,e7⟩
         ·rw[e2]at hρ;cases hρ;omega
         ·rw[e1]at hρ;simp only[Value.slice.injEq,true_and]at hρ;obtain⟨rfl,rfl⟩:=hρ;rcases m4 with h | ⟨ba,rfl,IR⟩
          ·omega
          ·obtain⟨i,z,i1,i2,i3,i4,i5⟩:=Hv hT Ed;have XH:(es.length+es2.length)*sz≤Oo*sz:=Bg _ JV;have PL:news.length=es2.length*sz:=by rw[QN];exact m1
           have Zl:i.size=sz:=i3.trans QN.symm;have Dd:=Qh (P:=P) t ty e i (hT.slice ht) i1 b es.length Oo F6 e4 ba es2.length c2 news (by rw[Zl];exact PL) IR m2 JV (by rw[Zl,PL,←FU,e5];exact XH);rw[Zl]at Dd;have GP:∀j u,olds[j]?=some u→w.cell? ⟨b,j,none⟩=some u:=by
            obtain⟨p1,p2,a',c',p3,p4⟩:=o1;rw[e1]at p3;cases p3;intro j u hj;rcases p4 with h | ⟨b',h,h'⟩
            ·rw[h,Ks]at p1;rw[AJ p1]at hj;simp at hj
            ·cases h
             have:=h' j u hj
             rwa [Addr.add_lit,Bc]at this
           obtain⟨p1,p2,p3⟩:=iW e4 e5 e3 JV PL o1.1 GP;generalize hnewd:F6.toList.take (es.length*sz)++news++F6.toList.drop (es.length*sz+news.length)=new at Dd p1 p2 p3;have Fr:=setRow_heap w b F6 new.toArray E (0,0) e4;have ci:=(hI.loc r b hl e2).1
           obtain⟨k1,k2⟩:=hI.upd r (.arr sz (es++es2)) (.slice (some ⟨b,0,none⟩) (es.length+es2.length) Oo) (es.length+es2.length) (g.tk r) (g.own r) g.S (w.setRow b new.toArray) (some b)
            ⟨rfl,rfl,rfl,by rw[size_setRow];exact Ao _⟩ (fun k _ Dy=>setRow_other w b k _ (fun e=>Dy (by rw[e]))) (fun b' e=>by cases e;exact⟨hl,e2⟩) (fun _ _ h=>h) (fun _ _ h=>.inl h)
            (fun b' o e hs=>by cases e;exact absurd hs (e7 o)) (fun b' _ e=>by
             rw[e2]at e;cases e;exact⟨by rw[size_setRow];exact ci,.inl ⟨hl,e2⟩⟩) (by simp) (fun _=>⟨rfl,by omega,fun e=>(by rw[t1]at e;cases e),fun e=>by omega⟩) (fun hg Jb=>by
             obtain⟨u1,u2,u3,u4⟩:=BM g r (.slice (some ⟨b,0,none⟩) (es.length+es2.length) Oo) (es.length+es2.length) (g.tk r) (g.own r) g.S;refine⟨u3.trans t1,by rw[u2,Ad],GJ,.inr ⟨b,Oo,E,_,by rw[u1,Ad],u4.trans e2,by rw[Ad];exact JV,Fr,by rw[HZ];exact p1,?_,e7⟩⟩;rw[Ad,show new.toArray.toList=new from rfl,p2];exact hrl.mono Jb (fun _ h=>h) (fun _ h=>h.elim))
           rw[e1];exact⟨_,_,_,_,_,Dd,hk,k1,k2,.msl _ r _ _ _ (by unfold AM;rw[Bd];simp) (by simp[Gh.upd,t1]) (by simp[Gh.upd]) (.inr ⟨_,rfl⟩) (fun _=>by simp[Gh.upd])⟩
        ·have gw:cap<es.length+es2.length:=by omega
         obtain⟨nc,rest,r1,r2,r3⟩:=HP hT w (ty:=ty) ht Ed hz (by rw[←QN];exact o1) hρ ha ⟨m1,m2,a2,c2,rfl,m4⟩ rfl (by omega) gw q3 q4;have Fr:=HF w.drew (.cells (olds++news++rest).toArray e (0,0)) (b:=w.heap.size) rfl
         obtain⟨k1,k2⟩:=hI.upd r (.arr sz (es++es2)) (.slice (some ⟨w.heap.size,0,none⟩) (es.length+es2.length) nc) (es.length+es2.length) (g.tk r) (some w.heap.size) g.S
          (w.drew.alloc (.cells (olds++news++rest).toArray e (0,0))) none
          ⟨rfl,rfl,rfl,by rw[World.size_alloc];exact Nat.le_succ _⟩ (fun k K3 _=>by rw[heap_alloc_old _ _ (by exact K3)];rfl) (fun b' e=>by cases e) (fun _ _ h=>h) (fun _ _ h=>.inl h)
          (fun b' o e=>by cases e) (fun b' _ e=>by cases e;exact⟨by rw[World.size_alloc];exact LO _,.inr (Ao _)⟩) (by simp) (fun _=>⟨rfl,by omega,fun e=>(by rw[t1]at e;cases e),fun e=>by omega⟩) (fun hg Jb=>by
           obtain⟨u1,u2,u3,u4⟩:=BM g r (.slice (some ⟨w.heap.size,0,none⟩) (es.length+es2.length) nc) (es.length+es2.length) (g.tk r) (some w.heap.size) g.S;refine⟨u3.trans t1,by rw[u2,Ad],GJ,.inr ⟨w.heap.size,nc,e,_,by rw[u1,Ad],u4,by rw[Ad];exact r2,Fr,by rw[HZ,QN];exact r3,?_,fun o ho=>by have:=hI.slt _ _ ho;omega⟩⟩;rw[Ad,show(olds++news++rest).toArray.toList=olds++news++rest from rfl,Gp (by rw[Ad,o1.1,m1,QN,FU])];exact hrl.mono Jb (fun _ h=>h) (fun _ h=>h.elim))
         exact⟨_,_,_,_,_,r1,hk,k1,k2,.msl _ r _ _ _ (by unfold AM;rw[Bd];simp) (by simp[Gh.upd,t1]) (by simp[Gh.upd]) (.inr ⟨_,rfl⟩) (fun _=>by simp[Gh.upd])⟩
      ·exact hk.elim
     ·exact hk.elim
    ·exact hk.elim
 ·exact hk.elim
end
end Go.Eng

namespace Go.Eng

section
variable {P:Program}{w0:World}{g0:Gh}{h0 h:Nat→HO}{g:Gh}{w:World}(hI:Dx w0 g0 h0 h g w)
include hI

theorem NU{d sz n:Nat}{es:List (List AV)}{a:Option Addr}(hd:h d=.free)(hl:∀c∈es,c.length=sz)(hn:es.length=n)(hr:BI g w Fj (.slice .none es) (.slice a n n)) :
  ∃g',Dx w0 g0 h0 (AW h d (.tok sz n)) g' w∧Le h g w (AW h d (.tok sz n)) g' w∧BI g' w (AM (AW h d (.tok sz n))) (.slice (.id d sz) es) (.slice a n n):=by
 obtain⟨k1,k2⟩:=hI.upd d (.tok sz n) (.slice a n n) n true none g.S w none ⟨rfl,rfl,rfl,Ao _⟩ (fun _ _ _=>rfl) (fun b e=>by cases e) (fun _ _ h=>h) (fun _ _ h=>.inl h) (fun b o e=>by cases e) (fun b _ e=>by cases e) (by simp)
  (fun hu=>absurd hd hu) (fun _ _=>by
   obtain⟨u1,u2,u3,u4⟩:=BM g d (.slice a n n) n true none g.S;exact⟨u3,u2,a,n,u1,.inl ⟨rfl,u4⟩⟩)
 exact⟨_,k1,k2,.tok _ d sz es _ (((hr.up (AM h)).le k2)) hl (by unfold AM;rw[Bd];simp) (by simp[Gh.upd]) (by simp[Gh.upd,hn]) (fun _=>by simp[Gh.upd])⟩

theorem YT{cx:Cx}{d:Option Nat}{x:AV}{vx:Value}{K:HK}(hx:BI g w (AM h) x vx)(hk:Om cx d h x K):∃g' av h',K av h'∧Dx w0 g0 h0 h' g' w∧Le h g w h' g' w∧BI g' w (AM h') av vx:=by
 have plain:K x h→∃g' av h',K av h'∧Dx w0 g0 h0 h' g' w∧Le h g w h' g' w∧BI g' w (AM h') av vx:=fun hk=>⟨g,x,h,hk,hI,.refl _ _ _,hx⟩;unfold Om at hk;split at hk
 ·exact plain hk
 ·rename_i d;split at hk
  ·rename_i sz _;split at hk
   ·refine⟨g,zY x,h,hk,hI,.refl _ _ _,?_⟩;cases x with
    |slice tk es=>exact(BI.slice_none hx).up _
    |_=>exact hx
   ·split at hk
    ·split at hk
     ·rename_i hd;obtain rfl:=hx.v_eq;obtain⟨g',k1,k2,k3⟩:=NU hI (sz:=sz) (es:=[]) (a:=none) hd (by simp) rfl (.snil _ _ _);exact⟨g',_,_,hk,k1,k2,k3⟩
     ·exact hk.elim
    ·exact plain hk
  ·split at hk
   ·rename_i sz _;split at hk
    ·split at hk
     ·rename_i hd;obtain rfl:=hx.v_eq
      obtain⟨k1,k2⟩:=hI.upd d (.arr sz []) (.slice none 0 0) 0 true none g.S w none ⟨rfl,rfl,rfl,Ao _⟩ (fun _ _ _=>rfl) (fun b e=>by cases e) (fun _ _ h=>h) (fun _ _ h=>.inl h) (fun b o e=>by cases e) (fun b _ e=>by cases e) (by simp)
       (fun hu=>absurd hd hu) (fun _ _=>by
        obtain⟨u1,u2,u3,u4⟩:=BM g d (.slice none 0 0) 0 true none g.S;exact⟨u3,u2,by simp,.inl ⟨rfl,u1,u4⟩⟩)
      exact⟨_,_,_,hk,k1,k2,.msl _ d 0 none 0 (by unfold AM;rw[Bd];simp) (by simp[Gh.upd]) (AL _) (.inl rfl) (fun _=>by simp[Gh.upd])⟩
     ·exact hk.elim
    ·exact plain hk
   ·exact plain hk

theorem X4{T:GQ}{mku:List Nat}{d:Option Nat}{ty:Nat}{K:HK}(hk:KK T mku d h ty K):Ob P w0 g0 h0 h g w (Instr.makeMap ty none) K:=by
 unfold KK at hk;split at hk
 ·exact hk.elim
 ·rename_i d;split at hk
  ·rename_i hd;split at hk
   ·split at hk
    ·rename_i sh _;split at hk
     ·obtain⟨k1,k2⟩:=hI.newOwn hd (.mapU sh []) (.map #[] 0) (.map (some w.heap.size)) 0 false w ⟨rfl,rfl,rfl,rfl⟩ (by simp) (fun hg Jb=>by
       obtain⟨u1,u2,u3,u4⟩:=BM g d (.map (some w.heap.size)) 0 false (some w.heap.size) g.S;exact⟨u3,w.heap.size,#[],0,u4,u1,HF w _ rfl,⟨rfl,by simp,by simp,by simp,by simp,by simp⟩,by simp,fun o ho=>by have:=hI.slt _ _ ho;omega⟩)
      refine⟨_,_,_,_,_,?_,hk,k1,k2,.mref _ d w.heap.size (by unfold AM;rw[Bd];simp) ?_ ?_⟩
      ·simp[Instr.makeMap]
      ·simp[Gh.upd]
      ·simp[Gh.upd]
     ·obtain⟨k1,k2⟩:=hI.newOwn hd (.map sh []) (.map #[] 0) (.map (some w.heap.size)) 0 false w ⟨rfl,rfl,rfl,rfl⟩ (by simp) (fun hg Jb=>by
       obtain⟨u1,u2,u3,u4⟩:=BM g d (.map (some w.heap.size)) 0 false (some w.heap.size) g.S;exact⟨u3,w.heap.size,#[],0,u4,u1,HF w _ rfl,⟨rfl,by simp,by simp,by simp,by simp,by simp⟩,by simp,fun o ho=>by have:=hI.slt _ _ ho;omega⟩)
      refine⟨_,_,_,_,_,?_,hk,k1,k2,.mref _ d w.heap.size (by unfold AM;rw[Bd];simp) ?_ ?_⟩
      ·simp[Instr.makeMap]
      ·simp[Gh.upd]
      ·simp[Gh.upd]
    ·exact hk.elim
   ·exact hk.elim
  ·exact hk.elim

omit hI in
theorem BI.sub{es:List (List AV)}{sz l m:Nat}{x:Value}{a:Option Addr}{n cap:Nat}(hr:BI g w Fj (.slice .none es) x)(hx:x=.slice a n cap)(hl:∀c∈es,c.length=sz)(h1:l≤m)(h2:m≤es.length)(c' : Nat)(hc:m-l≤c')(a' : Option Addr)
  (ha:a'=a.map (·.add (l*sz))∨(m=l∧a'=a)):BI g w Fj (.slice .none ((es.take m).drop l)) (.slice a' (m-l) c'):=by
 subst hx;have CW:((es.take m).drop l).length=m-l:=by rw[B6,AK];omega
 by_cases h0:m-l=0
 ·have:(es.take m).drop l=[]:=AJ (by omega)
  rw[this,h0];exact .snil _ _ _
 ·cases hr with
  |snil=>simp at h2;omega
  |slice _ _ b off GW cap val nM PK Di Ez =>
   have hz:GW=sz:=by
    have:(0:Nat)<es.length:=by omega
    have h3:=PK 0 es[0] (AD this);rw[←h3];exact hl _ (Aj this)
   subst hz;have ha' : a'=some ⟨b,off+l*GW,none⟩:=by
    rcases ha with h | ⟨h,_⟩
    ·rw[h];simp[Addr.add_lit]
    ·omega
   subst ha';rw[←CW];have EN:∀(i:Nat) (cs:List AV),((es.take m).drop l)[i]?=some cs→es[l+i]?=some cs:=fun i cs h=>by
    rw[DE]at h
    by_cases hi:l+i<m
    ·rwa [B8 hi]at h
    ·rw[A4 (by rw[AK];omega)]at h;cases h
   refine .slice _ _ b (off+l*GW) GW c' (fun i j=>val (l+i) j) (by rw[CW];exact hc) (fun i cs h=>PK _ _ (EN i cs h)) (fun i cs j av h1 h2=>?_) (fun i cs j av h1 h2=>Ez _ _ _ _ (EN i cs h1) h2)
   have:=Di _ _ _ _ (EN i cs h1) h2
   rwa [show off+(l+i)*GW+j=off+l*GW+i*GW+j by rw[FU];omega]at this

omit hI in
theorem KQ{t:Nat→AV}{ρ:Operand→Value}(ht:∀x:Operand,BI g w (AM h) (ev t x) (ρ x)){o:Option Operand}{i:Option Int}(hk:Ca t o=some i):o.map ρ=i.map fun n=>.int .i64 n:=by
 cases o with
 |none=>cases hk;rfl
 |some x =>
  unfold Ca at hk;dsimp only at hk;split at hk
  ·rename_i n e;cases hk
   have:=ht x
   rw[e]at this;simp[this.v_eq]
  ·cases hk
omit hI in
theorem TT(b:Bool)(len cap:Nat)(lo hi mx:Option Int)(kF:mx=none∨hi≠none)(h0:0≤lo.getD 0)(h1:lo.getD 0≤hi.getD len)(h2:hi.getD len≤mx.getD cap)(h3:mx.getD cap≤cap) :
  (Instr.sliceBounds b len cap (lo.map fun n=>.int .i64 n) (hi.map fun n=>.int .i64 n) (mx.map fun n=>.int .i64 n)).run P w=.ok ((lo.getD 0).toNat,(hi.getD len).toNat,(mx.getD cap).toNat) w:=by
 have e1:∀n:Int,0≤n→(n.toNat:Int)=n:=fun n hn=>Int.toNat_of_nonneg hn;cases mx with
 |none =>
  cases hi with
  |none =>
   cases lo with
   |none=>simp[Instr.sliceBounds]
   |some l =>
    simp only[CM,Ew]at h0 h1 h2;simp[Instr.sliceBounds,run_sliceBound,h0,h1]
  |some hh =>
   simp only[CM,Ew]at h1 h2;have ru:0≤hh:=by omega
   cases lo with
   |none=>simp[Instr.sliceBounds,run_sliceBound,ru,h2]
   |some l =>
    simp only[CM]at h0 h1;simp[Instr.sliceBounds,run_sliceBound,h0,h1,h2,ru,e1]
 |some m =>
  cases hi with
  |none=>simp at kF
  |some hh =>
   simp only[CM]at h1 h2 h3;have ru:0≤hh:=by omega
   have aN:0≤m:=by omega
   cases lo with
   |none=>simp[Instr.sliceBounds,run_sliceBound,h2,h3,ru,aN,e1]
   |some l =>
    simp only[CM]at h0 h1;simp[Instr.sliceBounds,run_sliceBound,h0,h1,h2,h3,ru,aN,e1]

omit hI in
theorem Fu{T:GQ}(hT:Cu P T){ty e k:Nat}(ht:(T ty).d=.slice e)(hk:(T e).size=k+1)(a:Option Addr)(len cap:Nat)(lo hi mx:Option Int)(kF:mx=none∨hi≠none)(h0:0≤lo.getD 0)(h1:lo.getD 0≤hi.getD len)(h2:hi.getD len≤mx.getD cap)(h3:mx.getD cap≤cap) :
  (Instr.sliceAt ty (.slice a len cap) (lo.map fun n=>.int .i64 n) (hi.map fun n=>.int .i64 n) (mx.map fun n=>.int .i64 n)).run P w =
   .ok (.slice (if(mx.getD cap).toNat=(lo.getD 0).toNat then a else a.map (·.add ((lo.getD 0).toNat*(T e).size))) ((hi.getD len).toNat-(lo.getD 0).toNat) ((mx.getD cap).toNat-(lo.getD 0).toNat)) w:=by
 have hu:=hT.slice ht;have hb:=TT (P:=P) (w:=w) true len cap lo hi mx kF h0 h1 h2 h3;simp only[Instr.sliceAt,Sem.run_bind,run_underlying hu,Result.andThen_ok,Instr.slice,hb,hT.size1 w hk,Sem.run_pure];rw[hk]

theorem Dx.moveO(r r2:Nat)(Dy:r2≠r)(hf:h r2=.free)(hl:(h r).live){ob:Option Nat}(ho:∀c,ob=some c→g.own r=some c)(o' : HO)(x:Value)(n:Nat)(t:Bool)(hn:o'≠.free)
  (Js:E0 g w (g.upd r2 x n t ob g.S) w→Ec (g.upd r2 x n t ob g.S) w (AM (AW (AW h r .dead) r2 o')) r2 o') :
  Dx w0 g0 h0 (AW (AW h r .dead) r2 o') (g.upd r2 x n t ob g.S) w∧Le h g w (AW (AW h r .dead) r2 o') (g.upd r2 x n t ob g.S) w:=by
 have dY:J6 g (g.upd r2 x n t ob g.S) (AM h):=by
  intro i hi;have e:i≠r2:=fun e=>hi (by rw[e];exact hf);refine⟨by simp[Gh.upd,e],by simp[Gh.upd,e],fun _=>by simp[Gh.upd,e],fun _=>by simp[Gh.upd,e]⟩
 have hK:E0 g w (g.upd r2 x n t ob g.S) w:=fun b o hb=>⟨hb,rfl,fun _ _ h=>h⟩;have KH:∀i,AM h i→AM (AW (AW h r .dead) r2 o') i:=fun i hi=>DW hn i (DW (by simp) i hi);have key:∀i,i≠r2→(AW (AW h r .dead) r2 o' i).live→i≠r∧(h i).live:=fun i h2 hl=>by
  rw[B9 _ _ _ _ h2]at hl
  by_cases e:i=r
  ·subst e;rw[Bd]at hl;exact hl.elim
  ·rw[B9 _ _ _ _ e]at hl;exact⟨e,hl⟩
 have own:∀i,i≠r2→(g.upd r2 x n t ob g.S).own i=g.own i:=fun i e=>by simp[Gh.upd,e]
 have TC:(g.upd r2 x n t ob g.S).own r2=ob:=by simp[Gh.upd]
 refine⟨⟨hI.os,hI.tape,hI.output,hI.size,hI.frame,hI.slt,fun i=>?_,fun i j c hi hj ei ej=>?_,fun i c hi ei=>?_,hI.sg,hI.glob.keep hK⟩,dY,KH,hK⟩
 ·by_cases e:i=r2
  ·subst e;rw[Bd];exact Js hK
  ·rw[B9 _ _ _ _ e]
   by_cases e1:i=r
   ·subst e1;rw[Bd];trivial
   ·rw[B9 _ _ _ _ e1];exact(hI.objs i).same hK KH dY (by simp[Gh.upd,e]) (by simp[Gh.upd,e]) (by simp[Gh.upd,e]) (by simp[Gh.upd,e]) (fun b hl hb=>⟨rfl,fun k hk=>hk⟩)
 ·by_cases e1:i=r2<;>by_cases e2:j=r2
  ·exact e1.trans e2.symm
  ·subst e1;rw[TC]at ei;rw[own j e2]at ej;obtain⟨a1,a2⟩:=key j e2 hj;exact absurd (hI.inj j r _ a2 hl ej (ho _ ei)) a1
  ·subst e2;rw[TC]at ej;rw[own i e1]at ei;obtain⟨a1,a2⟩:=key i e1 hi;exact absurd (hI.inj i r _ a2 hl ei (ho _ ej)) a1
  ·rw[own i e1]at ei;rw[own j e2]at ej;exact hI.inj i j c (key i e1 hi).2 (key j e2 hj).2 ei ej
 ·by_cases e1:i=r2
  ·subst e1;rw[TC]at ei;exact hI.loc r _ hl (ho _ ei)
  ·rw[own i e1]at ei;exact hI.loc i c (key i e1 hi).2 ei

theorem Yw{cx:Cx}(hT:Cu P cx.T){d:Option Nat}{ty:Nat}{x:AV}{vx:Value}{t:Nat→AV}{ρ:Operand→Value}(ht:∀x:Operand,BI g w (AM h) (ev t x) (ρ x)){lo hi mx:Option Operand}{K:HK}(hx:BI g w (AM h) x vx)
  (hk:KU cx d h ty x (Ca t lo) hi mx K):Ob P w0 g0 h0 h g w (Instr.sliceAt ty vx (lo.map ρ) (hi.map ρ) (mx.map ρ)) K:=by
 unfold KU at hk;split at hk
 ·rename_i d HG e1;rw[KQ ht e1];split at hk
  ·rename_i e hs;split at hk
   ·exact hk.elim
   ·rename_i k Ed;split at hk
    ·rename_i r sz es;split at hk
     ·rename_i GW n e0;split at hk
      ·rename_i hd;split at hk
       ·rename_i q1 q2;obtain rfl:=AU q1;have q2:=AU q2;obtain⟨⟨rfl,h1,h2⟩,hk⟩:=hk;have hl:(h r).live:=by rw[e0];trivial
        have Dy:KB cx d≠r:=fun e=>by rw[e,e0]at hd;cases hd
        have ho:=hI.objs r;rw[e0]at ho;obtain⟨t1,l1,a,cap,a1,a3⟩:=ho;have hr:=hx.slice_none;cases hx with
        |tok _ _ _ _ _ Wj Rz hu ht' hn Mk =>
         have hv:=Mk l1.symm;rw[a1]at hv;subst hv;have aL:es.length≤cap:=by rcases a3 with ⟨e1,_⟩ | ⟨e1,_⟩<;>omega
         have Dd:=Fu (P:=P) (w:=w) hT hs Ed a es.length cap (some HG) none none (.inl rfl) h1 h2 (by simp only[Ew];omega) (by simp);simp only[CM,Ew,A6]at Dd;have CW:(es.drop HG.toNat).length=es.length-HG.toNat:=B6;have gG:=BI.sub (c':=cap-HG.toNat) hr rfl Rz (l:=HG.toNat) (m:=es.length) (by omega) (Ao _) (by omega) (if cap=HG.toNat then a else a.map (·.add (HG.toNat*(cx.T e).size))) (by
          split
          ·exact .inr ⟨by omega,rfl⟩
          ·rw[q2];exact .inl rfl)
         rw[Do]at gG
         have fin:∀ob:Option Nat,(∀c,ob=some c→g.own r=some c)→(es.length-HG.toNat=cap-HG.toNat∧ob=none∨es.length-HG.toNat≤cap-HG.toNat∧∃b E vs off,(if cap=HG.toNat then a else a.map (·.add (HG.toNat*(cx.T e).size)))=some ⟨b,off,none⟩∧ob=some b∧w.heap[b]?=some (.cells vs E (0,0))∧vs.size=off+(cap-HG.toNat)*GW∧∀o,g.S b o→o<off+(es.length-HG.toNat)*GW) →
           Ob P w0 g0 h0 h g w (Instr.sliceAt ty (.slice a es.length cap) ((some HG).map fun n=>.int .i64 n) ((none:Option Operand).map ρ) ((none:Option Operand).map ρ)) K:=fun ob ho n8=>by
          obtain⟨k1,k2⟩:=hI.moveO r (KB cx d) Dy hd hl ho (.tok GW (es.drop HG.toNat).length) (.slice (if cap=HG.toNat then a else a.map (·.add (HG.toNat*(cx.T e).size))) (es.length-HG.toNat) (cap-HG.toNat)) (es.length-HG.toNat) true (by simp) (fun Jb=>by
           obtain⟨u1,u2,u3,u4⟩:=BM g (KB cx d) (.slice (if cap=HG.toNat then a else a.map (·.add (HG.toNat*(cx.T e).size))) (es.length-HG.toNat) (cap-HG.toNat)) (es.length-HG.toNat) true ob g.S;refine⟨u3,u2.trans CW.symm,_,_,by rw[CW];exact u1,?_⟩;rw[CW,u4];exact n8)
          exact⟨_,w,_,_,_,Dd,hk,k1,k2,.tok _ _ _ _ _ (((gG.mono k2.keeps (fun _ h=>h) (fun _ h=>h.elim))).up _) (fun c hc=>Rz c (In hc)) (by unfold AM;rw[Bd];simp) (by simp[Gh.upd]) (by simp[Gh.upd]) (fun _=>by simp[Gh.upd])⟩
         rcases a3 with ⟨e1,e2⟩ | ⟨e1,b,E,vs,off,rfl,e3,e4,e5,e6⟩
         ·exact fin none (fun c h=>by cases h) (.inl ⟨by omega,rfl⟩)
         ·by_cases hc:cap=HG.toNat
          ·exact fin none (fun c h=>by cases h) (.inl ⟨by omega,rfl⟩)
          ·refine fin (some b) (fun c h=>by cases h;exact e3) (.inr ⟨by omega,b,E,vs,off+HG.toNat*GW,?_,rfl,e4,?_,fun o ho=>?_⟩)
           ·rw[Ar hc];simp[Addr.add_lit,q2]
           ·rw[e5,Nat.sub_mul]
            have:=Bg GW (show HG.toNat≤cap by omega)
            omega
           ·have:=e6 o ho
            rw[Nat.sub_mul]
            have:=Bg GW (show HG.toNat≤es.length by omega)
            omega
       ·exact hk.elim
      ·exact hk.elim
     ·exact hk.elim
    ·exact hk.elim
  ·exact hk.elim
 ·exact hk.elim

omit hI in
theorem SE{sz:Nat}:∀{es:List (List AV)},(∀cs∈es,cs.length=sz)→∀k,(es.take k).flatten=es.flatten.take (k*sz)
 | [],_,k=>by simp
 |c::es,hl,0=>by simp
 |c::es,hl,k+1=>by
  have h1:=hl c (Ab ..);have h2:c.length≤k*sz+sz:=by omega
  rw[IU,Bq,Bq,SE (fun x hx=>hl x (Ai _ hx)) k,List.take_append,h1,D0,
   Az h2,show k*sz+sz-sz=k*sz by omega]
omit hI in
theorem CT.takeE{U:Nat→Prop}{sz k:Nat}{es:List (List AV)}{vs:List Value}(hl:∀cs∈es,cs.length=sz)(hk:k≤es.length)(h:CT g w U es.flatten (vs.take (es.length*sz))):CT g w U (es.take k).flatten (vs.take (k*sz)):=by
 have e:vs.take (k*sz)=(vs.take (es.length*sz)).take (k*sz):=by
  rw[Of,UA (Bg _ hk)]
 rw[SE hl,e];refine⟨by rw[AK (l:=vs.take (es.length*sz)),h.1,AK],fun x hx=>h.2.1 x (DT hx),fun i av x q1 q2=>?_⟩;have hi:i<k*sz:=by
  rcases BV i (k*sz)with q | q
  ·exact q
  ·rw[JH,Ar (by omega)]at q1;cases q1
 rw[JH,AB hi]at q1 q2;exact h.2.2 i av x q1 q2
theorem lD{cx:Cx}(hT:Cu P cx.T){d:Option Nat}{ty:Nat}{x:AV}{vx:Value}{t:Nat→AV}{ρ:Operand→Value}(ht:∀x:Operand,BI g w (AM h) (ev t x) (ρ x)){hi:Option Operand}{K:HK}(hx:BI g w (AM h) x vx)
  (hk:iJ cx d h ty x (Ca t hi) K):Ob P w0 g0 h0 h g w (Instr.sliceAt ty vx none (hi.map ρ) none) K:=by
 unfold iJ at hk;split at hk
 ·rename_i d LX e1;rw[KQ ht e1];split at hk
  ·rename_i e hs;split at hk
   ·exact hk.elim
   ·rename_i k Ed;split at hk
    ·rename_i r n;split at hk
     ·rename_i sz es e0;split at hk
      ·rename_i hd;split at hk
       ·rename_i q1 q3;have q1:=AU q1;obtain⟨⟨rfl,h1,h2⟩,hk⟩:=hk;have hl:(h r).live:=by rw[e0];trivial
        have Dy:KB cx d≠r:=fun e=>by rw[e,e0]at hd;cases hd
        have ho:=hI.objs r;rw[e0]at ho;obtain⟨t1,l1,al,a2⟩:=ho;have CW:(es.take LX.toNat).length=LX.toNat:=by rw[AK];omega
        cases hx with
        |msl _ _ _ a cap hu ht' XI ha Mk =>
         have hv:=Mk l1.symm;have M3:es.length≤cap:=by
          rcases a2 with ⟨b1,_,_⟩ | ⟨b,Oo,E,vs,b1,_,b3,_⟩
          ·subst b1;exact AL _
          ·rw[b1]at hv;cases hv;exact b3
         have Dd:=Fu (P:=P) (w:=w) hT hs Ed a es.length cap none (some LX) none (.inl rfl) (by simp) (by simp only[Ew,CM];exact h1) (by simp only[CM,Ew];omega) (by simp);have LG:(if cap-(0:Nat)=0 then a else a.map (·.add (0*(cx.T e).size)))=a:=by
          rw[Ks];split
          ·rfl
          ·rcases ha with e3 | ⟨b,rfl⟩
           ·cases a with
            |none=>rfl
            |some a=>simp[Addr.add]
           ·rfl
         simp only[CM,Ew,A6,Int.toNat_zero,Nat.sub_zero]at Dd LG;have key:∃a',(Instr.sliceAt ty (.slice a es.length cap) ((none:Option Int).map fun n=>.int .i64 n) ((some LX).map fun n=>.int .i64 n) ((none:Option Int).map fun n=>.int .i64 n)).run P w=.ok (.slice a' LX.toNat cap) w∧(a'=a):=⟨_,Dd,by first | exact LG | (split<;>first | rfl | exact LG | (simp_all))⟩
         obtain⟨a',Dd,rfl⟩:=key;have hval:BI (g.upd (KB cx d) (.slice a' LX.toNat cap) LX.toNat true (g.own r) g.S) w (AM (AW (AW h r .dead) (KB cx d) (.arr sz (es.take LX.toNat)))) (.msl (KB cx d) LX.toNat) (.slice a' LX.toNat cap) :=
          .msl _ _ _ _ _ (by unfold AM;rw[Bd];simp) (by simp[Gh.upd]) (by simp[Gh.upd]) (ha.elim (fun e=>.inl (by omega)) .inr) (fun _=>by simp[Gh.upd])
         obtain⟨k1,k2⟩:=hI.moveO r (KB cx d) Dy hd hl (ob:=g.own r) (fun c h=>h) (.arr sz (es.take LX.toNat)) (.slice a' LX.toNat cap) LX.toNat true (by simp) (fun Jb=>by
          obtain⟨u1,u2,u3,u4⟩:=BM g (KB cx d) (.slice a' LX.toNat cap) LX.toNat true (g.own r) g.S;refine⟨u3,u2.trans CW.symm,fun c hc=>al c (DT hc),?_⟩;rcases a2 with ⟨b1,b2,b3⟩ | ⟨b,Oo,E,vs,b1,b2,b3,b4,b5,b6,b7⟩
          ·subst b1;rw[b2]at hv;cases hv;have h0:LX.toNat=0:=by simp only[Al]at h2;omega
           exact .inl ⟨List.take_nil,by rw[u1,h0],u4.trans b3⟩
          ·rw[b1]at hv;cases hv;refine .inr ⟨b,cap,E,vs,by rw[CW];exact u1,u4.trans b2,by rw[CW];omega,b4,b5,?_,b7⟩;rw[CW];exact(CT.takeE al (by omega) b6).mono Jb (fun _ h=>h) (fun _ h=>h.elim))
         exact⟨_,w,_,_,_,Dd,hk,k1,k2,hval⟩
       ·exact hk.elim
      ·exact hk.elim
     ·exact hk.elim
    ·exact hk.elim
  ·exact hk.elim
 ·exact hk.elim

theorem Vt{cx:Cx}(hT:Cu P cx.T){d:Option Nat}{ty:Nat}{x:AV}{vx:Value}{t:Nat→AV}{ρ:Operand→Value}(ht:∀x:Operand,BI g w (AM h) (ev t x) (ρ x)){lo hi mx:Option Operand}{K:HK}(hx:BI g w (AM h) x vx)
  (hk:GD cx d h ty x (Ca t lo) (Ca t hi) (Ca t mx) K):Ob P w0 g0 h0 h g w (Instr.sliceAt ty vx (lo.map ρ) (hi.map ρ) (mx.map ρ)) K:=by
 unfold GD at hk;split at hk
 ·rename_i HG LX mD e1 e2 e3;rw[KQ ht e1,KQ ht e2,KQ ht e3];split at hk
  ·rename_i hs;split at hk
   ·rename_i s;obtain⟨⟨h1,h2,h3⟩,hk⟩:=hk;obtain rfl:=hx.v_eq;have hb:=TT (P:=P) (w:=w) false s.size s.size HG LX none (.inl rfl) h1 h2 (by simpa using h3) (by simp);refine(BZ.val (x:=.string (s.extract (HG.getD 0).toNat (LX.getD s.size).toNat)) ?_ hk).does hI;simp only[Instr.sliceAt,Sem.run_bind,run_underlying (hT.string hs),Result.andThen_ok,Instr.slice];simp only[Option.map_none,Og,Da,Ga]at hb⊢;simp only[Sem.run_bind,hb,Result.andThen_ok,Sem.run_pure]
   ·exact hk.elim
  ·rename_i e hs;split at hk
   ·exact hk.elim
   ·rename_i k Ed;split at hk
    ·rename_i tk es;have hr:=hx.slice_none;obtain⟨a,cap,hv,M3⟩:∃a cap,vx=.slice a es.length cap∧es.length≤cap:=by
      cases hr with
      |snil _ a cap=>exact⟨a,cap,rfl,AL _⟩
      |slice _ _ b off sz cap val hc=>exact⟨_,cap,rfl,hc⟩
     subst hv;split at hk
     ·obtain⟨⟨h1,h2,h3⟩,hl,hk⟩:=hk;have Dd:=Fu (P:=P) (w:=w) hT hs Ed a es.length cap HG LX none (.inl rfl) h1 h2 (by simp only[Ew];omega) (by simp);refine BZ.does hI ⟨_,_,Dd,hk,(BI.sub (c':=cap-(HG.getD 0).toNat) hr rfl hl (l:=(HG.getD 0).toNat) (m:=(LX.getD es.length).toNat) (by omega) (by omega) (by simp;omega) _ ?_).up _⟩;split
      ·rename_i e;simp only[Ew,A6]at e;exact .inr ⟨by omega,rfl⟩
      ·exact .inl rfl
     ·rename_i m;split at hk
      ·rename_i d hh;split at hk
       ·obtain⟨⟨h1,h2,rfl,h3⟩,hl,hk⟩:=hk;have Dd:=Fu (P:=P) (w:=w) hT hs Ed a es.length cap HG (some m) (some m) (.inr (by simp)) h1 h2 (by simp) (by simp only[CM];omega);simp only[CM]at Dd;have CW:((es.take m.toNat).drop (HG.getD 0).toNat).length=m.toNat-(HG.getD 0).toNat:=by rw[B6,AK];omega
        refine BZ.does hI ⟨_,_,Dd,hk,.full _ _ _ _ ((BI.sub (c':=m.toNat-(HG.getD 0).toNat) hr rfl hl (l:=(HG.getD 0).toNat) (m:=m.toNat) (by omega) (by omega) (by omega) _ ?_).up _) (fun c hc=>hl c (DT (In hc))) ⟨_,by rw[CW]⟩⟩;split
        ·rename_i e;exact .inr ⟨e,rfl⟩
        ·exact .inl rfl
       split at hk
       ·rename_i hd;obtain⟨⟨h1,h2,rfl,h3⟩,hl,hk⟩:=hk;have Dd:=Fu (P:=P) (w:=w) hT hs Ed a es.length cap HG (some m) (some m) (.inr (by simp)) h1 h2 (by simp) (by simp only[CM];omega);simp only[CM]at Dd
        obtain⟨g',k1,k2,k3⟩:=NU hI (sz:=(cx.T e).size) (n:=m.toNat-(HG.getD 0).toNat) hd (es:=(es.take m.toNat).drop (HG.getD 0).toNat) (fun c hc=>hl c (DT (In hc))) (by rw[B6,AK];omega)
         (BI.sub (c':=m.toNat-(HG.getD 0).toNat) hr rfl hl (l:=(HG.getD 0).toNat) (m:=m.toNat) (by omega) (by omega) (by omega) (if m.toNat=(HG.getD 0).toNat then a else a.map (·.add ((HG.getD 0).toNat*(cx.T e).size))) (by
          split
          ·rename_i e;exact .inr ⟨e,rfl⟩
          ·exact .inl rfl))
        exact⟨_,w,g',_,_,Dd,hk,k1,k2,k3⟩
       ·exact hk.elim
      ·exact hk.elim
    ·obtain⟨⟨h1,h2,h3⟩,h4,hk⟩:=hk;obtain rfl:=hx.v_eq;have Dd:=Fu (P:=P) (w:=w) hT hs Ed none 0 0 HG LX mD h4 (by omega) (by simp only[IB]at *;omega) (by simp only[IB]at *;omega) (by simp only[IB]at *;omega);refine BZ.does hI (BZ.val (x:=.slice none 0 0) ?_ hk);rw[Dd];simp only[h1,IB,h2,h3];simp
    ·rename_i r n;split at hk
     ·rename_i sz es e0;split at hk
      ·rename_i QN;obtain rfl:=AU QN;obtain⟨⟨h1,h2,h3,h4,h5⟩,hk⟩:=hk;have ho:=hI.objs r;rw[e0]at ho;obtain⟨t1,l1,al,a3⟩:=ho;have hl:(h r).live:=by rw[e0];trivial
       have rJ:mD=none∨LX≠none:=h5.imp id (fun q=>q.2);cases hx with
       |msl _ _ _ a cap hu ht' hn ha Mk =>
        have hv:=Mk (h1.trans l1.symm);subst h1;have kF:∀c:Nat,es.length≤c→LX.getD es.length≤mD.getD c∧mD.getD c≤c:=fun c hc=>by
         rcases h5 with h5 | ⟨h5,Dy⟩
         ·rw[h5];simp only[Ew];omega
         ·obtain⟨m,hm⟩:=Option.ne_none_iff_exists'.1 Dy;rw[h5,hm];rw[hm]at h3 h4;simp only[CM]at h3 h4⊢;omega
        rcases a3 with ⟨rfl,q2,q3⟩ | ⟨b,Oo,E,vs,q1,q2,q3,q4,q5,q6,q7⟩
        ·rw[q2]at hv;cases hv;have Dd:=Fu (P:=P) (w:=w) hT hs Ed none 0 0 HG LX mD rJ h2 h3 (kF 0 (by simp)).1 (kF 0 (by simp)).2
         obtain⟨k1,k2⟩:=hI.upd r .dead (g.ρ r) (g.ln r) (g.tk r) (g.own r) g.S w none ⟨rfl,rfl,rfl,Ao _⟩ (fun _ _ _=>rfl) (fun b e=>by cases e) (fun _ _ h=>h) (fun _ _ h=>.inl h) (fun b o e=>by cases e) (fun b hh _=>by cases hh) (by simp)
          (fun _=>⟨rfl,Ao _,fun _=>rfl,fun _=>rfl⟩) (fun _ _=>trivial)
         refine⟨_,w,_,_,_,Dd,hk,k1,k2,?_⟩;have z1:((HG.getD 0).toNat)=0:=by simp only[Al,IB]at h3 h4;omega
         have z2:((LX.getD (([]:List (List AV)).length:Int)).toNat)=0:=by simp only[Al,IB]at h3 h4⊢;omega
         simp only[List.take_nil,List.drop_nil];have z3:((LX.getD ((0:Nat):Int)).toNat)=0:=z2;rw[z1,z3];exact .snil _ _ _
        ·rw[q1]at hv;cases hv;have Dd:=Fu (P:=P) (w:=w) hT hs Ed (some ⟨b,0,none⟩) es.length cap HG LX mD rJ h2 h3 (kF _ q3).1 (kF _ q3).2;have ci:=(hI.loc r b hl q2).1
         obtain⟨k1,k2⟩:=hI.upd r .dead (g.ρ r) (g.ln r) (g.tk r) (g.own r) (g.more b (es.length*(cx.T e).size)) w none ⟨rfl,rfl,rfl,Ao _⟩ (fun _ _ _=>rfl) (fun b e=>by cases e) (fun _ _ h=>.inl h)
          (fun b' o hs=>hs.elim .inl (fun hs=>.inr ⟨by rw[hs.1];exact ci,.inr ⟨hl,by rw[hs.1];exact q2⟩⟩)) (fun b o e=>by cases e) (fun b hh _=>by cases hh) (by simp)
          (fun _=>⟨rfl,Ao _,fun _=>rfl,fun _=>rfl⟩) (fun _ _=>trivial)
         have Ez:=BI.slice_row (g:=g.upd r (g.ρ r) (g.ln r) (g.tk r) (g.own r) (g.more b (es.length*(cx.T e).size))) (U:=Fj) q4 al q3 (q6.mono k2.keeps (fun _ h=>h) (fun _ h=>h.elim)) (fun o ho=>.inr ⟨rfl,ho⟩);have Ab9:=kF _ q3;refine⟨_,w,_,_,_,Dd,hk,k1,k2,(BI.sub (c':=(mD.getD cap).toNat-(HG.getD 0).toNat) Ez rfl al (l:=(HG.getD 0).toNat) (m:=(LX.getD es.length).toNat) (by omega) (by omega) (by omega) _ ?_).up _⟩;split
         ·rename_i e;exact .inr ⟨by omega,rfl⟩
         ·exact .inl rfl
      ·exact hk.elim
     ·exact hk.elim
    ·exact hk.elim
  ·exact hk.elim
 ·exact hk.elim

theorem Ut{cx:Cx}(hT:Cu P cx.T){d:Option Nat}{ty:Nat}{n c:AV}{vn vc:Value}{K:HK}(hn:BI g w (AM h) n vn)(hc:BI g w (AM h) c vc)(hk:Jw cx d h ty n c K) :
  Ob P w0 g0 h0 h g w (Instr.makeSlice ty vn vc) K:=by
 unfold Jw at hk;split at hk
 ·rename_i e n c hs;obtain rfl:=hn.v_eq;obtain rfl:=hc.v_eq;split at hk
  ·rename_i Ul;split at hk
   ·rename_i Un;have Un:=AU Un;split at hk
    ·exact hk.elim
    ·rename_i k Ed;obtain⟨⟨h1,h2,h3,h4⟩,hk⟩:=hk;obtain⟨i,z,i1,i2,i3,i4,i5⟩:=Hv hT Ed;have rY:(cx.T e).zc≠[]:=fun e0=>by rw[e0]at Un;rw[Ed]at Un;cases Un
     have wn:IntKind.i64.wrap n=n:=MY ⟨by omega,by omega⟩;have wc:IntKind.i64.wrap c=c:=MY ⟨by omega,by omega⟩;have GJ:∀l:List AV,(∀a∈l,one a=true)→H7 l=true:=by
      intro l
      induction l with
      |nil=>intro _;rfl
      |cons a l ih=>intro h;simp[H7,h a (List.mem_cons_self ..),ih (fun b hb=>h b (List.mem_cons_of_mem _ hb))]
     have wR:((Array.range (c.toNat*(cx.T e).size)).map fun k=>z.cells[k % z.cells.size]!).toList=(List.replicate c.toNat (cx.T e).zc).flatten:=by
      rw[JZ c.toNat _ rY,Un,i5];have e6:z.cells.size=(cx.T e).size:=by rw[←Un,i5];simp
      simp[e6,Array.getElem!_eq_getD]
     have hzs:(cx.T e).zc.length=(cx.T e).size:=Un;have ml:∀c'∈List.replicate c.toNat (cx.T e).zc,c'.length=(cx.T e).size:=fun c' hc=>by rw[Eg hc];exact Un
     have ww : ∀c'∈List.replicate n.toNat ((cx.T e).zc.map AV.v),c'.length=(cx.T e).size:=fun c' hc=>by rw[Eg hc,Bx];exact Un
     have wx:∀c'∈List.replicate n.toNat (cx.T e).zc,c'.length=(cx.T e).size:=fun c' hc=>by rw[Eg hc];exact Un
     obtain⟨g',av,h',q1,q2,q3,q4⟩:=JX hI hk (vs:=(Array.range (c.toNat*(cx.T e).size)).map fun k=>z.cells[k % z.cells.size]!) (cap:=c.toNat) e ww (by rw[Gb];omega) (by simp) (by
      rw[wR,Gb];have e1:(List.replicate n.toNat ((cx.T e).zc.map AV.v)).flatten=(List.replicate n.toNat (cx.T e).zc).flatten.map AV.v:=by
       rw[List.map_flatten,List.map_replicate]
      have e2:(List.replicate c.toNat (cx.T e).zc).flatten.take (n.toNat*(cx.T e).size)=(List.replicate n.toNat (cx.T e).zc).flatten:=by
       obtain⟨m,hm⟩:∃m,c.toNat=n.toNat+m:=⟨c.toNat-n.toNat,by omega⟩;rw[hm,←List.replicate_append_replicate,Cc,Gp (by rw[Ey wx,Gb])]
      rw[e1,e2];refine CT.vals (GJ _ (fun a ha=>?_));obtain⟨x,hx,rfl⟩:=Aq.1 ha;obtain⟨l,hl,hx⟩:=E9.1 hx;rw[Eg hl]at hx;exact Mz Ul _ (Aq.2 ⟨x,hx,rfl⟩)) w ⟨rfl,rfl,rfl,rfl⟩
     rw[Gb]at q4;refine⟨_,_,g',av,h',?_,q1,q2,q3,q4⟩;have vZ:¬((cx.T e).bytes*c>2 ^ 48):=by rw[Int.mul_comm];omega
     have gl:((decide (c<0)||decide (((cx.T e).bytes:Int)*c>2 ^ 48))||decide (n<0)||decide (n>c))=false:=by
      simp only[Bool.or_eq_false_iff,JQ];exact⟨⟨⟨by omega,vZ⟩,by omega⟩,by omega⟩
     simp only[Instr.makeSlice,Sem.run_bind,run_underlying (hT.slice hs),Result.andThen_ok,asInt,asIntOf,Sem.run_pure,typeInfo,run_program,i1,i4,wn,wc,gl,Da,Ga,run_askRoom,hT.size1 w Ed]
     by_cases hz:c.toNat*(k+1)=0
     ·have nN:c.toNat=0:=by
       rcases Nat.mul_eq_zero.1 hz with h | h
       ·exact h
       ·cases h
      rw[nN];simp only[Ks,NM];simp only[show Array.range 0=#[]from rfl,Array.map_empty];simp[newRow]
     ·simp only[Ar hz,Sem.run_bind,zeroValue,typeInfo,run_program,i1,i2,Result.andThen_ok,Sem.run_pure];rw[Ed];simp[newRow]
   ·exact hk.elim
  ·exact hk.elim
 ·exact hk.elim
end
end Go.Eng
