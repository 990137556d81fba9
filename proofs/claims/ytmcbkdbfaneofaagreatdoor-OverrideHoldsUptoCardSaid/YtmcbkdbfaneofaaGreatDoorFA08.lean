/- Lemmas for the claims of this seat, without a condition: part 8 (EngR, EngS). -/
import Derived.Test.YtmcbkdbfaneofaaGreatDoorFA07
namespace Go.Eng
theorem CH.app{g:Gh}{w:World}{U:Nat→Prop}{Ua bs:List AV}{xs ys:List Value}(h:CH g w U Ua xs)(k:CH g w U bs ys):CH g w U (Ua++bs) (xs++ys):=by
 refine⟨by simp[h.1,k.1],fun x hx=>(A8.1 hx).elim (h.2.1 x) (k.2.1 x),fun i av x h1 h2=>?_⟩
 by_cases hi:i<Ua.length
 ·rw[AX hi]at h1;rw[AX (by rw[h.1];exact hi)]at h2;exact h.2.2 i av x h1 h2
 ·rw[A4 (by omega)]at h1;rw[A4 (by rw[h.1];omega),h.1]at h2;exact k.2.2 _ av x h1 h2
section
variable {P:Program}{w0:World}{g0:Gh}{h0 h:Nat→HO}{g:Gh}{w:World}(hI:DM w0 g0 h0 h g w)
include hI
omit hI in
theorem Qc(t ty e:TypeId)(i:TypeInfo)(ht:P.underlying t=some (.slice e))(hi:P.info? e=some i){E:TypeId}
  (g NX ZT:Nat) (FC:Array Value) (hg:w.heap[g]?=some (.cells FC E (0,0)))
  (a:Addr) (m c:Nat) (news:List Value) (hl:news.length=m*i.size) (IP:∀j u,news[j]?=some u→w.cell? (a.add j)=some u) (h1:∀u∈news,u.oneCell'=true)
  (JO:NX+m≤ZT) (Zf:NX*i.size+news.length≤FC.size) :
  (Builtin.append_ #[t,t] ty #[.slice (some ⟨g,0,none⟩) NX ZT,.slice (some a) m c]).run P w =
   .ok (.slice (some ⟨g,0,none⟩) (NX+m) ZT) (w.setRow g (FC.toList.take (NX*i.size)++news++FC.toList.drop (NX*i.size+news.length)).toArray):=by
 have hf:=run_firstCells_some (P:=P) w i.size m a m c news hl IP;have Jh:=run_storeCells_at P g (NX*i.size) E news 0 FC w hg (by simpa using Zf) h1;simp only[DC]at Jh;simp[Builtin.append_,run_underlying ht,sizeOf,typeInfo,hi,Builtin.lenOf,JO,hf,Addr.add_lit,Jh]
omit hI in
theorem TL(t ty e:TypeId)(i:TypeInfo)(ht:P.underlying t=some (.slice e))(hi:P.info? e=some i){E:TypeId}
  (g off NX ZT:Nat) (FC:Array Value) (hg:w.heap[g]?=some (.cells FC E (0,0)))
  (a:Addr) (m c:Nat) (news:List Value) (hl:news.length=m*i.size) (IP:∀j u,news[j]?=some u→w.cell? (a.add j)=some u) (h1:∀u∈news,u.oneCell'=true)
  (JO:NX+m≤ZT) (Zf:off+NX*i.size+news.length≤FC.size) :
  (Builtin.append_ #[t,t] ty #[.slice (some ⟨g,off,none⟩) NX ZT,.slice (some a) m c]).run P w =
   .ok (.slice (some ⟨g,off,none⟩) (NX+m) ZT) (w.setRow g (FC.toList.take (off+NX*i.size)++news++FC.toList.drop (off+NX*i.size+news.length)).toArray):=by
 have hf:=run_firstCells_some (P:=P) w i.size m a m c news hl IP;have Jh:=run_storeCells_at P g (off+NX*i.size) E news 0 FC w hg (by simpa using Zf) h1;simp only[DC]at Jh;simp[Builtin.append_,run_underlying ht,sizeOf,typeInfo,hi,Builtin.lenOf,JO,hf,Addr.add_lit,Jh]
omit hI in
theorem lB{b off n m sz cap:Nat}{FC:Array Value}{E:TypeId}{olds news:List Value}(hb:w.heap[b]?=some (.cells FC E (0,0)))(XA:FC.size=off+cap*sz)(hn:n≤cap)(hm:n+m≤cap)(hnl:news.length=m*sz)(hol:olds.length=n*sz)
  (GE:∀j u,olds[j]?=some u→w.cell? ⟨b,off+j,none⟩=some u) :
  (FC.toList.take (off+n*sz)++news++FC.toList.drop (off+n*sz+news.length)).length=off+cap*sz ∧
  ((FC.toList.take (off+n*sz)++news++FC.toList.drop (off+n*sz+news.length)).drop off).take ((n+m)*sz)=olds++news ∧
  ∀o,o<off+n*sz→(FC.toList.take (off+n*sz)++news++FC.toList.drop (off+n*sz+news.length)).toArray[o]?=FC[o]?:=by
 have hcl:FC.toList.length=off+cap*sz:=by rw[B5];exact XA
 have ST:(n+m)*sz≤cap*sz:=Bh _ hm;have gc:n*sz≤cap*sz:=Bh _ hn;rw[Fc]at ST;have Ky:(FC.toList.take (off+n*sz)).drop off=olds:=by
  apply CE;intro j
  by_cases hj:j<n*sz
  ·rw[BT,BI (by omega)];have hx:olds[j]?=some olds[j]:=AA (by omega)
   have:=GE j _ hx
   rw[FF hb]at this;rw[A2,this,hx]
  ·rw[A6 (by rw[Ar,AJ];omega),A6 (by omega)]
 have oc:(FC.toList.take (off+n*sz)).length=off+n*sz:=by rw[AJ];omega
 refine⟨?_,?_,fun o ho=>?_⟩
 ·rw[Ad,Ad,oc,Ar,hcl,hnl];omega
 ·rw[AP,List.drop_append_of_le_length (by rw[oc];omega),Ky,←AP,Hp (by rw[Ad,hol,hnl,Fc])]
 ·rw[F0,AP,AX (by rw[oc];exact ho),BI ho,A2]
omit hI in
theorem iL{b n m sz cap:Nat}{FC:Array Value}{E:TypeId}{olds news:List Value}(hb:w.heap[b]?=some (.cells FC E (0,0)))(XA:FC.size=cap*sz)(hn:n≤cap)(hm:n+m≤cap)(hnl:news.length=m*sz)(hol:olds.length=n*sz)
  (GE:∀j u,olds[j]?=some u→w.cell? ⟨b,j,none⟩=some u) :
  (FC.toList.take (n*sz)++news++FC.toList.drop (n*sz+news.length)).length=cap*sz ∧
  (FC.toList.take (n*sz)++news++FC.toList.drop (n*sz+news.length)).take ((n+m)*sz)=olds++news ∧
  ∀o,o<n*sz→(FC.toList.take (n*sz)++news++FC.toList.drop (n*sz+news.length)).toArray[o]?=FC[o]?:=by
 have hcl:FC.toList.length=cap*sz:=by rw[B5];exact XA
 have ST:(n+m)*sz≤cap*sz:=Bh _ hm;have gc:n*sz≤cap*sz:=Bh _ hn;rw[Fc]at ST;have Ky:FC.toList.take (n*sz)=olds:=by
  apply CE;intro j
  by_cases hj:j<n*sz
  ·rw[BI hj];have hx:olds[j]?=some olds[j]:=AA (by omega)
   have:=GE j _ hx
   rw[FF hb]at this;rw[A2,this,hx]
  ·rw[A6 (by rw[AJ];omega),A6 (by omega)]
 have oc:(FC.toList.take (n*sz)).length=n*sz:=by rw[AJ];omega
 refine⟨?_,?_,fun o ho=>?_⟩
 ·rw[Ad,Ad,oc,Ar,hcl,hnl];omega
 ·rw[Ky,Hp (by rw[Ad,hol,hnl,Fc])]
 ·rw[F0,AP,AX (by rw[oc];exact ho),BI ho,A2]
theorem UE{r n sz:Nat}{es:List (List AV)}{x:Value}(he:h r=.arr sz es)(hx:BJ g w (AR h) (.msl r n) x)(hn:n=es.length) :
  x=g.ρ r∧∃news,N9 w x es.length sz news∧CH g w Fm es.flatten news:=by
 have ho:=hI.objs r;rw[he]at ho;obtain⟨t1,l1,al,a1⟩:=ho;cases hx with
 |msl _ _ _ a cap hu ht XG ha LF =>
  have e:=LF (hn.trans l1.symm);refine⟨e,?_⟩;rw[e];rcases a1 with ⟨rfl,e2,e3⟩ | ⟨b,LE,E,vs,e1,e2,e3,e4,e5,e6,e7⟩
  ·exact⟨[],⟨by simp,by simp,none,0,e2,.inl rfl⟩,by simp,by simp,fun i av x h1 h2=>by simp at h2⟩
  ·have XA:vs.toList.length=LE*sz:=by rw[B5];exact e5
   have Hl:es.length*sz≤vs.toList.length:=by rw[XA];exact Bh _ e3
   refine⟨vs.toList.take (es.length*sz),⟨by rw[AJ,Nat.min_eq_left Hl],e6.2.1,_,_,e1,.inr ⟨_,rfl,fun j u hj=>?_⟩⟩,e6⟩;rw[Addr.add_lit,Bi,FF e4];have DL:=(At.1 hj).1;rw[AJ]at DL;rw[BI (by omega),A2]at hj;exact hj
theorem ca{sz:Nat}{x:AV}{vx:Value}{K:List (List AV)→Prop}(hx:BJ g w (AR h) x vx)(hk:K4 h x K) :
  ∃es,K es∧((∀c∈es,c.length=sz)→∃news,N9 w vx es.length sz news∧CH g w Fm es.flatten news):=by
 unfold K4 at hk;split at hk
 ·exact⟨_,hk,fun hl=>N9.of_rep hx.slice_none hl⟩
 ·obtain rfl:=hx.v_eq;exact⟨[],hk,fun _=>⟨[],⟨by simp,by simp,none,0,rfl,.inl rfl⟩,by simp,by simp,fun i av x h1 h2=>by simp at h2⟩⟩
 ·rename_i r n;split at hk
  ·rename_i Gq es e;obtain⟨hn,hk⟩:=hk;refine⟨es,hk,fun hl=>?_⟩;obtain⟨_,news,n1,n2⟩:=UE hI e hx hn;refine⟨news,?_,n2⟩
   have:news.length=es.length*sz:=by rw[n2.1,Dh hl]
   exact⟨this,n1.2.1,n1.2.2⟩
  ·exact hk.elim
 ·exact hk.elim
theorem cX{cx:Cx}{d:Option Nat}{sz:Nat}{K:HK}(hk:EC cx d h sz [] K) :
  ∃g' av h',K av h'∧DM w0 g0 h0 h' g' w∧Le h g w h' g' w∧BJ g' w (AR h') av (.slice none 0 0):=by
 have base:∀(d:Nat) (o' : HO),h d=.free→o'≠.free→(∀g' : Gh,g'.ρ d=.slice none 0 0→g'.ln d=0→g'.tk d=true→g'.own d=none→Ej g' w (AR (AW h d o')) d o') →
   DM w0 g0 h0 (AW h d o') (g.upd d (.slice none 0 0) 0 true none g.S) w∧Le h g w (AW h d o') (g.upd d (.slice none 0 0) 0 true none g.S) w:=by
  intro d o' hd DE Jg;refine hI.upd d o' _ _ _ _ _ w none ⟨rfl,rfl,rfl,Ak _⟩ (fun _ _ _=>rfl) (fun b e=>by cases e) (fun _ _ h=>h) (fun _ _ h=>.inl h) (fun b o e=>by cases e) (fun b _ e=>by cases e) DE (fun hu=>absurd hd hu) (fun _ _=>?_);obtain⟨u1,u2,u3,u4⟩:=BB g d (.slice none 0 0) 0 true none g.S;exact Jg _ u1 u2 u3 u4
 unfold EC at hk;split at hk
 ·exact hk.elim
 ·rename_i d;generalize Kv cx d=d1 at hk;split at hk
  ·rename_i hd;split at hk
   ·obtain⟨k1,k2⟩:=base d1 (.arr sz []) hd (by simp) (fun g' u1 u2 u3 u4=>⟨u3,u2,by simp,.inl ⟨rfl,u1,u4⟩⟩);exact⟨_,_,_,hk,k1,k2,.msl _ d1 0 none 0 (by unfold AR;rw[Bd];simp) (by simp[Gh.upd]) (AL _) (.inl rfl) (fun _=>by simp[Gh.upd])⟩
   ·obtain⟨k1,k2⟩:=base d1 (.tok sz 0) hd (by simp) (fun g' u1 u2 u3 u4=>⟨u3,u2,none,0,u1,.inl ⟨rfl,u4⟩⟩);exact⟨_,_,_,hk,k1,k2,.tok _ d1 sz [] _ (.snil _ _ _) (by simp) (by unfold AR;rw[Bd];simp) (by simp[Gh.upd]) (AL _) (fun _=>by simp[Gh.upd])⟩
  ·exact hk.elim
theorem YH{cx:Cx}(hT:CB P cx.T){d:Option Nat}{t ty:Nat}{s x:AV}{vs vx:Value}{K:HK}(hs:BJ g w (AR h) s vs)(hx:BJ g w (AR h) x vx)(hk:Ie cx d h t s x K) :
  N4 P w0 g0 h0 h g w (Builtin.append_ #[t,t] ty #[vs,vx]) K:=by
 unfold Ie at hk;split at hk
 ·rename_i e ht;split at hk
  ·exact hk.elim
  ·rename_i hz;have hz:=AO hz;split at hk
   ·exact hk.elim
   ·rename_i k EK;have h5:=ca hI (sz:=(cx.T e).size) hx hk
    clear hk
    obtain⟨es2,hk,h6⟩:=h5;split at hk
    ·obtain⟨⟨q1,q2,q3⟩,hk⟩:=hk;obtain rfl:=hs.v_eq;obtain⟨news,n1,n2⟩:=h6 (FQ q1);obtain⟨m1,m2,a,c,rfl,m4⟩:=n1
     by_cases hm:es2.length=0
     ·obtain rfl:=AC hm;obtain⟨g',av,h',k1,k2,k3,k4⟩:=cX hI hk;exact⟨_,w,g',av,h',IJ hT w ht EK none a 0 0 c (Ak _),k1,k2,k3,k4⟩
     ·obtain⟨nc,rest,r1,r2,r3⟩:=HL hT w (ty:=ty) ht EK hz (olds:=[]) (a:=none) (n:=0) (cap:=0) ⟨by simp,by simp,none,0,rfl,.inl rfl⟩ rfl (fun _=>rfl) ⟨m1,m2,a,c,rfl,m4⟩ rfl (by omega) (by omega) (by rw[Bi];exact q2) (by omega);obtain⟨g',av,h',k1,k2,k3,k4⟩:=JS hI hk (vs:=([]++news++rest).toArray) (cap:=nc) e (FQ q1) (by omega) (by simpa using r3) (by
       rw[Ei,show(news++rest).toArray.toList=news++rest from rfl,Hp m1];exact n2) w.drew ⟨rfl,rfl,rfl,rfl⟩
      rw[Bi]at r1;exact⟨_,_,g',av,h',r1,k1,k2,k3,k4⟩
    ·rename_i Gq es;split at hk
     ·rename_i QN;obtain QN:=AO QN;obtain⟨⟨q1,q2,q3,q4⟩,hk⟩:=hk;obtain⟨news,n1,n2⟩:=h6 (FQ q1);obtain⟨m1,m2,a2,c2,rfl,m4⟩:=n1;cases hs with
      |full _ _ _ _ hr WJ LF =>
       obtain⟨a,rfl⟩:=LF;have FX:∀c∈es++es2,c.length=(cx.T e).size:=fun c hc=>(A8.1 hc).elim (fun h=>(WJ c h).trans QN) (FQ q1 c);obtain⟨olds,o1,o2⟩:=N9.of_rep hr (sz:=(cx.T e).size) (fun c hc=>(WJ c hc).trans QN);have WK:=o2.app n2;rw[←CL]at WK;have ha:a=none→es.length=0:=by
        rintro rfl
        obtain⟨p1,p2,a',c',p3,p4⟩:=o1;cases p3;rcases p4 with h | ⟨b',h,_⟩
        ·exact h
        ·cases h
       obtain⟨nc,rest,r1,r2,r3⟩:=HL hT w (ty:=ty) ht EK hz o1 rfl ha ⟨m1,m2,a2,c2,rfl,m4⟩ rfl q2 (by omega) q3 q4;obtain⟨g',av,h',k1,k2,k3,k4⟩:=JS hI hk (vs:=(olds++news++rest).toArray) (cap:=nc) e FX (by rw[Ad];exact r2) (by rw[Ft];exact r3) (by
        rw[show(olds++news++rest).toArray.toList=olds++news++rest from rfl,Hp (by rw[Ad,Ad,o1.1,m1,Fc])];exact WK) w.drew ⟨rfl,rfl,rfl,rfl⟩
       rw[Ad]at k4;exact⟨_,_,g',av,h',r1,k1,k2,k3,k4⟩
     ·exact hk.elim
    ·rename_i r Gq es;have ho:=hI.objs r;split at hk
     ·rename_i sz n e0;rw[e0]at ho;split at hk
      ·rename_i QN vL;obtain rfl:=AO vL;obtain QN:=AO QN;obtain⟨⟨q1,q2,q3,q4⟩,hk⟩:=hk;rw[QN]at q1;obtain⟨news,n1,n2⟩:=h6 (FQ q1);obtain⟨m1,m2,a2,c2,rfl,m4⟩:=n1;obtain⟨t1,l1,a,cap,a1,a3⟩:=ho;have hl:(h r).live:=by rw[e0];trivial
       have FX:∀c∈es++es2,es.length=n→True:=fun _ _ _=>trivial;cases hs with
       |tok _ _ _ _ _ hr WJ hu ht' hn LF =>
        have hv:=LF (q2.trans l1.symm);rw[a1]at hv;subst hv;subst q2;have FX:∀c∈es++es2,c.length=Gq:=fun c hc=>(A8.1 hc).elim (WJ c) (fun h=>(FQ q1 c h).trans QN.symm);obtain⟨olds,o1,o2⟩:=N9.of_rep hr WJ;have WK:=o2.app n2;rw[←CL]at WK;have aC:es.length≤cap:=by rcases a3 with ⟨e1,_⟩ | ⟨e1,_⟩<;>omega
        by_cases hm:es2.length=0
        ·obtain rfl:=AC hm;have Jg:=hI.objs r;rw[e0]at Jg
         obtain⟨k1,k2⟩:=hI.upd r (.tok Gq (es.length+([]:List (List AV)).length)) (g.ρ r) (g.ln r) (g.tk r) (g.own r) g.S w none ⟨rfl,rfl,rfl,Ak _⟩ (fun _ _ _=>rfl) (fun b e=>by cases e) (fun _ _ h=>h) (fun _ _ h=>.inl h) (fun b o e=>by cases e)
          (fun b _ e=>⟨(hI.loc r b hl e).1,.inl ⟨hl,e⟩⟩) (by simp) (fun _=>⟨rfl,Ak _,fun _=>rfl,fun _=>rfl⟩) (fun hg HS=>by
           obtain⟨u1,u2,u3,u4⟩:=BB g r (g.ρ r) (g.ln r) (g.tk r) (g.own r) g.S;rw[AD,DC];exact Jg.same HS (fun i hi=>DS (by simp) i hi) hg u1 u2 u3 u4 (fun b _ _=>⟨rfl,fun _ h=>h⟩))
         refine⟨_,w,_,_,_,IJ hT w ht EK a a2 es.length cap c2 aC,hk,k1,k2,?_⟩;rw[B2];exact(BJ.tok (AR h) r Gq es _ hr WJ hu ht' hn LF).le k2
        ·by_cases JO:es.length+es2.length≤cap
         ·rcases a3 with ⟨e1,_⟩ | ⟨e1,b,E,FC,off,rfl,e3,e4,e5,e6⟩
          ·omega
          ·rcases m4 with h | ⟨ba,rfl,IP⟩
           ·omega
           ·obtain⟨i,z,i1,i2,i3,i4,i5⟩:=Hr hT EK;have ST:(es.length+es2.length)*Gq≤cap*Gq:=Bh _ JO;have mh:news.length=es2.length*Gq:=by rw[QN];exact m1
            have Zh:i.size=Gq:=i3.trans QN.symm;have CP:=TL (P:=P) t ty e i (hT.slice ht) i1 b off es.length cap FC e4 ba es2.length c2 news (by rw[Zh];exact mh) IP m2 JO (by rw[Zh,mh,e5];rw[Fc]at ST;omega);rw[Zh]at CP;have GE:∀j u,olds[j]?=some u→w.cell? ⟨b,off+j,none⟩=some u:=by
             obtain⟨p1,p2,a',c',p3,p4⟩:=o1;cases p3;intro j u hj;rcases p4 with h | ⟨b',h,h'⟩
             ·rw[h,Ko]at p1;rw[AC p1]at hj;simp at hj
             ·cases h
              have:=h' j u hj
              rwa [Addr.add_lit]at this
            obtain⟨p1,p2,p3⟩:=lB e4 e5 e1 JO mh o1.1 GE;generalize hnewd:FC.toList.take (off+es.length*Gq)++news++FC.toList.drop (off+es.length*Gq+news.length)=new at CP p1 p2 p3;have ES:=setRow_heap w b FC new.toArray E (0,0) e4;have cr:=(hI.loc r b hl e3).1
            obtain⟨k1,k2⟩:=hI.upd r (.tok Gq (es.length+es2.length)) (.slice (some ⟨b,off,none⟩) (es.length+es2.length) cap) (es.length+es2.length) (g.tk r) (g.own r) (g.more b (off+(es.length+es2.length)*Gq)) (w.setRow b new.toArray) (some b)
             ⟨rfl,rfl,rfl,by rw[size_setRow];exact Ak _⟩ (fun k _ DE=>setRow_other w b k _ (fun e=>DE (by rw[e]))) (fun b' e=>by cases e;exact⟨hl,e3⟩) (fun _ _ h=>.inl h)
             (fun b' o hs=>hs.elim .inl (fun hs=>.inr ⟨by rw[size_setRow,hs.1];exact cr,.inr ⟨hl,by rw[hs.1];exact e3⟩⟩))
             (fun b' o e hs=>by
              cases e
              refine⟨?_,fun es ck he=>by rw[e4]at he;cases he⟩;rw[FF ES,FF e4];exact p3 o (e6 o hs)) (fun b' _ e=>by
              rw[e3]at e;cases e;exact⟨by rw[size_setRow];exact cr,.inl ⟨hl,e3⟩⟩) (by simp) (fun _=>⟨rfl,by omega,fun e=>(by rw[t1]at e;cases e),fun e=>by omega⟩) (fun hg HS=>by
              obtain⟨u1,u2,u3,u4⟩:=BB g r (.slice (some ⟨b,off,none⟩) (es.length+es2.length) cap) (es.length+es2.length) (g.tk r) (g.own r) (g.more b (off+(es.length+es2.length)*Gq));exact⟨u3.trans t1,u2,_,cap,u1,  .inr ⟨JO,b,E,_,off,rfl,u4.trans e3,ES,by rw[Ft];exact p1,fun o ho=>by
               rcases ho with ho | ⟨_,ho⟩
               ·have h1:=e6 o ho;have h2:es.length*Gq≤(es.length+es2.length)*Gq:=Bh _ (by omega);omega
               ·exact ho⟩⟩)
            have D6:=BJ.slice_off (g:=g.upd r (.slice (some ⟨b,off,none⟩) (es.length+es2.length) cap) (es.length+es2.length) (g.tk r) (g.own r) (g.more b (off+(es.length+es2.length)*Gq))) (U:=AR (AW h r (.tok Gq (es.length+es2.length)))) (cap:=cap) (es:=es++es2) ES FX (by rw[Ad];exact JO) (by
             rw[Ad,show new.toArray.toList=new from rfl,p2];exact WK.mono k2.keeps (fun _ h=>h) (fun _ h=>h.elim)) (fun o ho=>.inr ⟨rfl,by rw[Ad]at ho;exact Nat.add_lt_add_left ho off⟩)
            rw[Ad]at D6;exact⟨_,_,_,_,_,CP,hk,k1,k2,.tok _ r Gq _ _ D6 FX (by unfold AR;rw[Bd];simp) (by simp[Gh.upd,t1]) (by simp[Gh.upd]) (fun _=>by simp[Gh.upd])⟩
         ·have fW:cap<es.length+es2.length:=by omega
          have ha:a=none→cap=0:=by
           rintro rfl
           rcases a3 with ⟨e1,_⟩ | ⟨_,b,_,_,_,e2,_⟩
           ·obtain⟨p1,p2,a',c',p3,p4⟩:=o1;cases p3;rcases p4 with h | ⟨b',h,_⟩
            ·omega
            ·cases h
           ·cases e2
          obtain⟨nc,rest,r1,r2,r3⟩:=HL hT w (ty:=ty) ht EK hz (by rw[←QN];exact o1) rfl ha ⟨m1,m2,a2,c2,rfl,m4⟩ rfl (by omega) fW q3 q4;have ES:=HA w.drew (.cells (olds++news++rest).toArray e (0,0)) (b:=w.heap.size) rfl
          obtain⟨k1,k2⟩:=hI.upd r (.tok Gq (es.length+es2.length)) (.slice (some ⟨w.heap.size,0,none⟩) (es.length+es2.length) nc) (es.length+es2.length) (g.tk r) (some w.heap.size) (g.more w.heap.size ((es.length+es2.length)*Gq))
           (w.drew.alloc (.cells (olds++news++rest).toArray e (0,0))) none
           ⟨rfl,rfl,rfl,by rw[World.size_alloc];exact Nat.le_succ _⟩ (fun k J6 _=>by rw[heap_alloc_old _ _ (by exact J6)];rfl) (fun b' e=>by cases e) (fun _ _ h=>.inl h)
           (fun b' o hs=>hs.elim .inl (fun hs=>.inr ⟨by rw[World.size_alloc,hs.1];exact GQ _,.inl (by rw[hs.1];exact Ak _)⟩))
           (fun b' o e=>by cases e) (fun b' _ e=>by cases e;exact⟨by rw[World.size_alloc];exact GQ _,.inr (Ak _)⟩) (by simp) (fun _=>⟨rfl,by omega,fun e=>(by rw[t1]at e;cases e),fun e=>by omega⟩) (fun hg HS=>by
            obtain⟨u1,u2,u3,u4⟩:=BB g r (.slice (some ⟨w.heap.size,0,none⟩) (es.length+es2.length) nc) (es.length+es2.length) (g.tk r) (some w.heap.size) (g.more w.heap.size ((es.length+es2.length)*Gq));exact⟨u3.trans t1,u2,_,nc,u1,.inr ⟨r2,w.heap.size,e,_,0,rfl,u4,ES,by rw[Ft,QN,Bi];exact r3,fun o ho=>by
             rcases ho with ho | ⟨_,ho⟩
             ·have:=hI.slt _ _ ho;omega
             ·omega⟩⟩)
          have D6:=BJ.slice_row (g:=g.upd r (.slice (some ⟨w.heap.size,0,none⟩) (es.length+es2.length) nc) (es.length+es2.length) (g.tk r) (some w.heap.size) (g.more w.heap.size ((es.length+es2.length)*Gq))) (U:=AR (AW h r (.tok Gq (es.length+es2.length)))) (cap:=nc) (es:=es++es2) ES FX (by rw[Ad];exact r2) (by
           rw[Ad,show(olds++news++rest).toArray.toList=olds++news++rest from rfl,Hp (by rw[Ad,o1.1,m1,QN,Fc])];exact WK.mono k2.keeps (fun _ h=>h) (fun _ h=>h.elim)) (fun o ho=>.inr ⟨rfl,by rw[Ad]at ho;exact ho⟩)
          rw[Ad]at D6;exact⟨_,_,_,_,_,r1,hk,k1,k2,.tok _ r Gq _ _ D6 FX (by unfold AR;rw[Bd];simp) (by simp[Gh.upd,t1]) (by simp[Gh.upd]) (fun _=>by simp[Gh.upd])⟩
      ·exact hk.elim
     ·exact hk.elim
    ·rename_i r n;have ho:=hI.objs r;split at hk
     ·rename_i sz es e0;split at hk
      ·rename_i QN;obtain QN:=AO QN;obtain⟨⟨q1,q2,q3,q4⟩,hk⟩:=hk;rw[QN]at q1;obtain⟨news,n1,n2⟩:=h6 (FQ q1);obtain⟨m1,m2,a2,c2,rfl,m4⟩:=n1;obtain⟨hv,olds,o1,o2⟩:=UE hI e0 hs q2.symm;have Jg:=ho;rw[e0]at ho;obtain⟨t1,l1,al,a3⟩:=ho;have hl:(h r).live:=by rw[e0];trivial
       subst hv;have FX:∀c∈es++es2,c.length=sz:=fun c hc=>(A8.1 hc).elim (al c) (fun h=>(FQ q1 c h).trans QN.symm);have WK:=o2.app n2;rw[←CL]at WK;obtain⟨a,cap,hρ,aC,ha⟩:∃a cap,g.ρ r=.slice a es.length cap∧es.length≤cap∧(a=none→cap=0):=by
        rcases a3 with ⟨rfl,e2,e3⟩ | ⟨b,cap,E,FC,e1,e2,e3,e4,e5,e6,e7⟩
        ·exact⟨none,0,e2,Ak _,fun _=>rfl⟩
        ·exact⟨_,cap,e1,e3,fun e=>by cases e⟩
       by_cases hm:es2.length=0
       ·obtain rfl:=AC hm;rw[e0]at Jg
        obtain⟨k1,k2⟩:=hI.upd r (.arr sz (es++[])) (g.ρ r) (g.ln r) (g.tk r) (g.own r) g.S w none ⟨rfl,rfl,rfl,Ak _⟩ (fun _ _ _=>rfl) (fun b e=>by cases e) (fun _ _ h=>h) (fun _ _ h=>.inl h) (fun b o e=>by cases e)
         (fun b _ e=>⟨(hI.loc r b hl e).1,.inl ⟨hl,e⟩⟩) (by simp) (fun _=>⟨rfl,Ak _,fun _=>rfl,fun _=>rfl⟩) (fun hg HS=>by
          obtain⟨u1,u2,u3,u4⟩:=BB g r (g.ρ r) (g.ln r) (g.tk r) (g.own r) g.S;rw[B2];exact Jg.same HS (fun i hi=>DS (by simp) i hi) hg u1 u2 u3 u4 (fun b _ _=>⟨rfl,fun _ h=>h⟩))
        refine⟨g.ρ r,w,_,_,_,?_,hk,k1,k2,?_⟩
        ·rw[hρ];exact IJ hT w ht EK a a2 es.length cap c2 aC
        ·have:=hs.le k2
         rw[←q2]at this;exact this
       ·by_cases JO:es.length+es2.length≤cap
        ·rcases a3 with ⟨rfl,e2,e3⟩ | ⟨b,LE,E,FC,e1,e2,e3,e4,e5,e6,e7⟩
         ·rw[e2]at hρ;cases hρ;omega
         ·rw[e1]at hρ;simp only[Value.slice.injEq,true_and]at hρ;obtain⟨rfl,rfl⟩:=hρ;rcases m4 with h | ⟨ba,rfl,IP⟩
          ·omega
          ·obtain⟨i,z,i1,i2,i3,i4,i5⟩:=Hr hT EK;have ST:(es.length+es2.length)*sz≤LE*sz:=Bh _ JO;have mh:news.length=es2.length*sz:=by rw[QN];exact m1
           have Zh:i.size=sz:=i3.trans QN.symm;have CP:=Qc (P:=P) t ty e i (hT.slice ht) i1 b es.length LE FC e4 ba es2.length c2 news (by rw[Zh];exact mh) IP m2 JO (by rw[Zh,mh,←Fc,e5];exact ST);rw[Zh]at CP;have GE:∀j u,olds[j]?=some u→w.cell? ⟨b,j,none⟩=some u:=by
            obtain⟨p1,p2,a',c',p3,p4⟩:=o1;rw[e1]at p3;cases p3;intro j u hj;rcases p4 with h | ⟨b',h,h'⟩
            ·rw[h,Ko]at p1;rw[AC p1]at hj;simp at hj
            ·cases h
             have:=h' j u hj
             rwa [Addr.add_lit,Bi]at this
           obtain⟨p1,p2,p3⟩:=iL e4 e5 e3 JO mh o1.1 GE;generalize hnewd:FC.toList.take (es.length*sz)++news++FC.toList.drop (es.length*sz+news.length)=new at CP p1 p2 p3;have ES:=setRow_heap w b FC new.toArray E (0,0) e4;have cr:=(hI.loc r b hl e2).1
           obtain⟨k1,k2⟩:=hI.upd r (.arr sz (es++es2)) (.slice (some ⟨b,0,none⟩) (es.length+es2.length) LE) (es.length+es2.length) (g.tk r) (g.own r) g.S (w.setRow b new.toArray) (some b)
            ⟨rfl,rfl,rfl,by rw[size_setRow];exact Ak _⟩ (fun k _ DE=>setRow_other w b k _ (fun e=>DE (by rw[e]))) (fun b' e=>by cases e;exact⟨hl,e2⟩) (fun _ _ h=>h) (fun _ _ h=>.inl h)
            (fun b' o e hs=>by cases e;exact absurd hs (e7 o)) (fun b' _ e=>by
             rw[e2]at e;cases e;exact⟨by rw[size_setRow];exact cr,.inl ⟨hl,e2⟩⟩) (by simp) (fun _=>⟨rfl,by omega,fun e=>(by rw[t1]at e;cases e),fun e=>by omega⟩) (fun hg HS=>by
             obtain⟨u1,u2,u3,u4⟩:=BB g r (.slice (some ⟨b,0,none⟩) (es.length+es2.length) LE) (es.length+es2.length) (g.tk r) (g.own r) g.S;refine⟨u3.trans t1,by rw[u2,Ad],FX,.inr ⟨b,LE,E,_,by rw[u1,Ad],u4.trans e2,by rw[Ad];exact JO,ES,by rw[Ft];exact p1,?_,e7⟩⟩;rw[Ad,show new.toArray.toList=new from rfl,p2];exact WK.mono HS (fun _ h=>h) (fun _ h=>h.elim))
           rw[e1];exact⟨_,_,_,_,_,CP,hk,k1,k2,.msl _ r _ _ _ (by unfold AR;rw[Bd];simp) (by simp[Gh.upd,t1]) (by simp[Gh.upd]) (.inr ⟨_,rfl⟩) (fun _=>by simp[Gh.upd])⟩
        ·have fW:cap<es.length+es2.length:=by omega
         obtain⟨nc,rest,r1,r2,r3⟩:=HL hT w (ty:=ty) ht EK hz (by rw[←QN];exact o1) hρ ha ⟨m1,m2,a2,c2,rfl,m4⟩ rfl (by omega) fW q3 q4;have ES:=HA w.drew (.cells (olds++news++rest).toArray e (0,0)) (b:=w.heap.size) rfl
         obtain⟨k1,k2⟩:=hI.upd r (.arr sz (es++es2)) (.slice (some ⟨w.heap.size,0,none⟩) (es.length+es2.length) nc) (es.length+es2.length) (g.tk r) (some w.heap.size) g.S
          (w.drew.alloc (.cells (olds++news++rest).toArray e (0,0))) none
          ⟨rfl,rfl,rfl,by rw[World.size_alloc];exact Nat.le_succ _⟩ (fun k J6 _=>by rw[heap_alloc_old _ _ (by exact J6)];rfl) (fun b' e=>by cases e) (fun _ _ h=>h) (fun _ _ h=>.inl h)
          (fun b' o e=>by cases e) (fun b' _ e=>by cases e;exact⟨by rw[World.size_alloc];exact GQ _,.inr (Ak _)⟩) (by simp) (fun _=>⟨rfl,by omega,fun e=>(by rw[t1]at e;cases e),fun e=>by omega⟩) (fun hg HS=>by
           obtain⟨u1,u2,u3,u4⟩:=BB g r (.slice (some ⟨w.heap.size,0,none⟩) (es.length+es2.length) nc) (es.length+es2.length) (g.tk r) (some w.heap.size) g.S;refine⟨u3.trans t1,by rw[u2,Ad],FX,.inr ⟨w.heap.size,nc,e,_,by rw[u1,Ad],u4,by rw[Ad];exact r2,ES,by rw[Ft,QN];exact r3,?_,fun o ho=>by have:=hI.slt _ _ ho;omega⟩⟩;rw[Ad,show(olds++news++rest).toArray.toList=olds++news++rest from rfl,Hp (by rw[Ad,o1.1,m1,QN,Fc])];exact WK.mono HS (fun _ h=>h) (fun _ h=>h.elim))
         exact⟨_,_,_,_,_,r1,hk,k1,k2,.msl _ r _ _ _ (by unfold AR;rw[Bd];simp) (by simp[Gh.upd,t1]) (by simp[Gh.upd]) (.inr ⟨_,rfl⟩) (fun _=>by simp[Gh.upd])⟩
      ·exact hk.elim
     ·exact hk.elim
    ·exact hk.elim
 ·exact hk.elim
end
section
variable {P:Program}{w0:World}{g0:Gh}{h0 h:Nat→HO}{g:Gh}{w:World}(hI:DM w0 g0 h0 h g w)
include hI
theorem NR{d sz n:Nat}{es:List (List AV)}{a:Option Addr}(hd:h d=.free)(hl:∀c∈es,c.length=sz)(hn:es.length=n)(hr:BJ g w Fm (.slice .none es) (.slice a n n)) :
  ∃g',DM w0 g0 h0 (AW h d (.tok sz n)) g' w∧Le h g w (AW h d (.tok sz n)) g' w∧BJ g' w (AR (AW h d (.tok sz n))) (.slice (.id d sz) es) (.slice a n n):=by
 obtain⟨k1,k2⟩:=hI.upd d (.tok sz n) (.slice a n n) n true none g.S w none ⟨rfl,rfl,rfl,Ak _⟩ (fun _ _ _=>rfl) (fun b e=>by cases e) (fun _ _ h=>h) (fun _ _ h=>.inl h) (fun b o e=>by cases e) (fun b _ e=>by cases e) (by simp)
  (fun hu=>absurd hd hu) (fun _ _=>by
   obtain⟨u1,u2,u3,u4⟩:=BB g d (.slice a n n) n true none g.S;exact⟨u3,u2,a,n,u1,.inl ⟨rfl,u4⟩⟩)
 exact⟨_,k1,k2,.tok _ d sz es _ (((hr.up (AR h)).le k2)) hl (by unfold AR;rw[Bd];simp) (by simp[Gh.upd]) (by simp[Gh.upd,hn]) (fun _=>by simp[Gh.upd])⟩
theorem YK{cx:Cx}{d:Option Nat}{x:AV}{vx:Value}{K:HK}(hx:BJ g w (AR h) x vx)(hk:Oe cx d h x K):∃g' av h',K av h'∧DM w0 g0 h0 h' g' w∧Le h g w h' g' w∧BJ g' w (AR h') av vx:=by
 have plain:K x h→∃g' av h',K av h'∧DM w0 g0 h0 h' g' w∧Le h g w h' g' w∧BJ g' w (AR h') av vx:=fun hk=>⟨g,x,h,hk,hI,.refl _ _ _,hx⟩;unfold Oe at hk;split at hk
 ·exact plain hk
 ·rename_i d;split at hk
  ·rename_i sz _;split at hk
   ·refine⟨g,ze x,h,hk,hI,.refl _ _ _,?_⟩;cases x with
    |slice tk es=>exact(BJ.slice_none hx).up _
    |_=>exact hx
   ·split at hk
    ·split at hk
     ·rename_i hd;obtain rfl:=hx.v_eq;obtain⟨g',k1,k2,k3⟩:=NR hI (sz:=sz) (es:=[]) (a:=none) hd (by simp) rfl (.snil _ _ _);exact⟨g',_,_,hk,k1,k2,k3⟩
     ·exact hk.elim
    ·exact plain hk
  ·split at hk
   ·rename_i sz _;split at hk
    ·split at hk
     ·rename_i hd;obtain rfl:=hx.v_eq
      obtain⟨k1,k2⟩:=hI.upd d (.arr sz []) (.slice none 0 0) 0 true none g.S w none ⟨rfl,rfl,rfl,Ak _⟩ (fun _ _ _=>rfl) (fun b e=>by cases e) (fun _ _ h=>h) (fun _ _ h=>.inl h) (fun b o e=>by cases e) (fun b _ e=>by cases e) (by simp)
       (fun hu=>absurd hd hu) (fun _ _=>by
        obtain⟨u1,u2,u3,u4⟩:=BB g d (.slice none 0 0) 0 true none g.S;exact⟨u3,u2,by simp,.inl ⟨rfl,u1,u4⟩⟩)
      exact⟨_,_,_,hk,k1,k2,.msl _ d 0 none 0 (by unfold AR;rw[Bd];simp) (by simp[Gh.upd]) (AL _) (.inl rfl) (fun _=>by simp[Gh.upd])⟩
     ·exact hk.elim
    ·exact plain hk
   ·exact plain hk
theorem XW{T:Gt}{mku:List Nat}{d:Option Nat}{ty:Nat}{K:HK}(hk:KE T mku d h ty K):N4 P w0 g0 h0 h g w (Instr.makeMap ty none) K:=by
 unfold KE at hk;split at hk
 ·exact hk.elim
 ·rename_i d;split at hk
  ·rename_i hd;split at hk
   ·split at hk
    ·rename_i sh _;split at hk
     ·obtain⟨k1,k2⟩:=hI.newOwn hd (.mapU sh []) (.map #[] 0) (.map (some w.heap.size)) 0 false w ⟨rfl,rfl,rfl,rfl⟩ (by simp) (fun hg HS=>by
       obtain⟨u1,u2,u3,u4⟩:=BB g d (.map (some w.heap.size)) 0 false (some w.heap.size) g.S;exact⟨u3,w.heap.size,#[],0,u4,u1,HA w _ rfl,⟨rfl,by simp,by simp,by simp,by simp,by simp⟩,by simp,fun o ho=>by have:=hI.slt _ _ ho;omega⟩)
      refine⟨_,_,_,_,_,?_,hk,k1,k2,.mref _ d w.heap.size (by unfold AR;rw[Bd];simp) ?_ ?_⟩
      ·simp[Instr.makeMap]
      ·simp[Gh.upd]
      ·simp[Gh.upd]
     ·obtain⟨k1,k2⟩:=hI.newOwn hd (.map sh []) (.map #[] 0) (.map (some w.heap.size)) 0 false w ⟨rfl,rfl,rfl,rfl⟩ (by simp) (fun hg HS=>by
       obtain⟨u1,u2,u3,u4⟩:=BB g d (.map (some w.heap.size)) 0 false (some w.heap.size) g.S;exact⟨u3,w.heap.size,#[],0,u4,u1,HA w _ rfl,⟨rfl,by simp,by simp,by simp,by simp,by simp⟩,by simp,fun o ho=>by have:=hI.slt _ _ ho;omega⟩)
      refine⟨_,_,_,_,_,?_,hk,k1,k2,.mref _ d w.heap.size (by unfold AR;rw[Bd];simp) ?_ ?_⟩
      ·simp[Instr.makeMap]
      ·simp[Gh.upd]
      ·simp[Gh.upd]
    ·exact hk.elim
   ·exact hk.elim
  ·exact hk.elim
omit hI in
theorem BJ.sub{es:List (List AV)}{sz l m:Nat}{x:Value}{a:Option Addr}{n cap:Nat}(hr:BJ g w Fm (.slice .none es) x)(hx:x=.slice a n cap)(hl:∀c∈es,c.length=sz)(h1:l≤m)(h2:m≤es.length)(c' : Nat)(hc:m-l≤c')(a' : Option Addr)
  (ha:a'=a.map (·.add (l*sz))∨(m=l∧a'=a)):BJ g w Fm (.slice .none ((es.take m).drop l)) (.slice a' (m-l) c'):=by
 subst hx;have CJ:((es.take m).drop l).length=m-l:=by rw[Ar,AJ];omega
 by_cases h0:m-l=0
 ·have:(es.take m).drop l=[]:=AC (by omega)
  rw[this,h0];exact .snil _ _ _
 ·cases hr with
  |snil=>simp at h2;omega
  |slice _ _ b off Gq cap val pg PK DG D6 =>
   have hz:Gq=sz:=by
    have:(0:Nat)<es.length:=by omega
    have h3:=PK 0 es[0] (AA this);rw[←h3];exact hl _ (Ap this)
   subst hz;have z8 : a'=some ⟨b,off+l*Gq,none⟩:=by
    rcases ha with h | ⟨h,_⟩
    ·rw[h];simp[Addr.add_lit]
    ·omega
   subst z8;rw[←CJ];have Ff:∀(i:Nat) (cs:List AV),((es.take m).drop l)[i]?=some cs→es[l+i]?=some cs:=fun i cs h=>by
    rw[BT]at h
    by_cases hi:l+i<m
    ·rwa [BI hi]at h
    ·rw[A6 (by rw[AJ];omega)]at h;cases h
   refine .slice _ _ b (off+l*Gq) Gq c' (fun i j=>val (l+i) j) (by rw[CJ];exact hc) (fun i cs h=>PK _ _ (Ff i cs h)) (fun i cs j av h1 h2=>?_) (fun i cs j av h1 h2=>D6 _ _ _ _ (Ff i cs h1) h2)
   have:=DG _ _ _ _ (Ff i cs h1) h2
   rwa [show off+(l+i)*Gq+j=off+l*Gq+i*Gq+j by rw[Fc];omega]at this
omit hI in
theorem KJ{t:Nat→AV}{ρ:Operand→Value}(ht:∀x:Operand,BJ g w (AR h) (ev t x) (ρ x)){o:Option Operand}{i:Option Int}(hk:B6 t o=some i):o.map ρ=i.map fun n=>.int .i64 n:=by
 cases o with
 |none=>cases hk;rfl
 |some x =>
  unfold B6 at hk;dsimp only at hk;split at hk
  ·rename_i n e;cases hk
   have:=ht x
   rw[e]at this;simp[this.v_eq]
  ·cases hk
omit hI in
theorem TM(b:Bool)(len cap:Nat)(lo hi mx:Option Int)(ku:mx=none∨hi≠none)(h0:0≤lo.getD 0)(h1:lo.getD 0≤hi.getD len)(h2:hi.getD len≤mx.getD cap)(h3:mx.getD cap≤cap) :
  (Instr.sliceBounds b len cap (lo.map fun n=>.int .i64 n) (hi.map fun n=>.int .i64 n) (mx.map fun n=>.int .i64 n)).run P w=.ok ((lo.getD 0).toNat,(hi.getD len).toNat,(mx.getD cap).toNat) w:=by
 have e1:∀n:Int,0≤n→(n.toNat:Int)=n:=fun n hn=>Int.toNat_of_nonneg hn;cases mx with
 |none =>
  cases hi with
  |none =>
   cases lo with
   |none=>simp[Instr.sliceBounds]
   |some l =>
    simp only[Cz,D2]at h0 h1 h2;simp[Instr.sliceBounds,run_sliceBound,h0,h1]
  |some hh =>
   simp only[Cz,D2]at h1 h2;have qO:0≤hh:=by omega
   cases lo with
   |none=>simp[Instr.sliceBounds,run_sliceBound,qO,h2]
   |some l =>
    simp only[Cz]at h0 h1;simp[Instr.sliceBounds,run_sliceBound,h0,h1,h2,qO,e1]
 |some m =>
  cases hi with
  |none=>simp at ku
  |some hh =>
   simp only[Cz]at h1 h2 h3;have qO:0≤hh:=by omega
   have sV:0≤m:=by omega
   cases lo with
   |none=>simp[Instr.sliceBounds,run_sliceBound,h2,h3,qO,sV,e1]
   |some l =>
    simp only[Cz]at h0 h1;simp[Instr.sliceBounds,run_sliceBound,h0,h1,h2,h3,qO,sV,e1]
omit hI in
theorem EN{T:Gt}(hT:CB P T){ty e k:Nat}(ht:(T ty).d=.slice e)(hk:(T e).size=k+1)(a:Option Addr)(len cap:Nat)(lo hi mx:Option Int)(ku:mx=none∨hi≠none)(h0:0≤lo.getD 0)(h1:lo.getD 0≤hi.getD len)(h2:hi.getD len≤mx.getD cap)(h3:mx.getD cap≤cap) :
  (Instr.sliceAt ty (.slice a len cap) (lo.map fun n=>.int .i64 n) (hi.map fun n=>.int .i64 n) (mx.map fun n=>.int .i64 n)).run P w =
   .ok (.slice (if(mx.getD cap).toNat=(lo.getD 0).toNat then a else a.map (·.add ((lo.getD 0).toNat*(T e).size))) ((hi.getD len).toNat-(lo.getD 0).toNat) ((mx.getD cap).toNat-(lo.getD 0).toNat)) w:=by
 have hu:=hT.slice ht;have hb:=TM (P:=P) (w:=w) true len cap lo hi mx ku h0 h1 h2 h3;simp only[Instr.sliceAt,Sem.run_bind,run_underlying hu,Result.andThen_ok,Instr.slice,hb,hT.size1 w hk,Sem.run_pure];rw[hk]
theorem DM.moveO(r r2:Nat)(DE:r2≠r)(hf:h r2=.free)(hl:(h r).live){ob:Option Nat}(ho:∀c,ob=some c→g.own r=some c)(o' : HO)(x:Value)(n:Nat)(t:Bool)(hn:o'≠.free)
  (Jg:E2 g w (g.upd r2 x n t ob g.S) w→Ej (g.upd r2 x n t ob g.S) w (AR (AW (AW h r .dead) r2 o')) r2 o') :
  DM w0 g0 h0 (AW (AW h r .dead) r2 o') (g.upd r2 x n t ob g.S) w∧Le h g w (AW (AW h r .dead) r2 o') (g.upd r2 x n t ob g.S) w:=by
 have dQ:JY g (g.upd r2 x n t ob g.S) (AR h):=by
  intro i hi;have e:i≠r2:=fun e=>hi (by rw[e];exact hf);refine⟨by simp[Gh.upd,e],by simp[Gh.upd,e],fun _=>by simp[Gh.upd,e],fun _=>by simp[Gh.upd,e]⟩
 have hK:E2 g w (g.upd r2 x n t ob g.S) w:=fun b o hb=>⟨hb,rfl,fun _ _ h=>h⟩;have K9:∀i,AR h i→AR (AW (AW h r .dead) r2 o') i:=fun i hi=>DS hn i (DS (by simp) i hi);have key:∀i,i≠r2→(AW (AW h r .dead) r2 o' i).live→i≠r∧(h i).live:=fun i h2 hl=>by
  rw[BZ _ _ _ _ h2]at hl
  by_cases e:i=r
  ·subst e;rw[Bd]at hl;exact hl.elim
  ·rw[BZ _ _ _ _ e]at hl;exact⟨e,hl⟩
 have own:∀i,i≠r2→(g.upd r2 x n t ob g.S).own i=g.own i:=fun i e=>by simp[Gh.upd,e]
 have TA:(g.upd r2 x n t ob g.S).own r2=ob:=by simp[Gh.upd]
 refine⟨⟨hI.os,hI.tape,hI.output,hI.size,hI.frame,hI.slt,fun i=>?_,fun i j c hi hj ei ej=>?_,fun i c hi ei=>?_,hI.sg,hI.glob.keep hK⟩,dQ,K9,hK⟩
 ·by_cases e:i=r2
  ·subst e;rw[Bd];exact Jg hK
  ·rw[BZ _ _ _ _ e]
   by_cases e1:i=r
   ·subst e1;rw[Bd];trivial
   ·rw[BZ _ _ _ _ e1];exact(hI.objs i).same hK K9 dQ (by simp[Gh.upd,e]) (by simp[Gh.upd,e]) (by simp[Gh.upd,e]) (by simp[Gh.upd,e]) (fun b hl hb=>⟨rfl,fun k hk=>hk⟩)
 ·by_cases e1:i=r2<;>by_cases e2:j=r2
  ·exact e1.trans e2.symm
  ·subst e1;rw[TA]at ei;rw[own j e2]at ej;obtain⟨a1,a2⟩:=key j e2 hj;exact absurd (hI.inj j r _ a2 hl ej (ho _ ei)) a1
  ·subst e2;rw[TA]at ej;rw[own i e1]at ei;obtain⟨a1,a2⟩:=key i e1 hi;exact absurd (hI.inj i r _ a2 hl ei (ho _ ej)) a1
  ·rw[own i e1]at ei;rw[own j e2]at ej;exact hI.inj i j c (key i e1 hi).2 (key j e2 hj).2 ei ej
 ·by_cases e1:i=r2
  ·subst e1;rw[TA]at ei;exact hI.loc r _ hl (ho _ ei)
  ·rw[own i e1]at ei;exact hI.loc i c (key i e1 hi).2 ei
theorem Yo{cx:Cx}(hT:CB P cx.T){d:Option Nat}{ty:Nat}{x:AV}{vx:Value}{t:Nat→AV}{ρ:Operand→Value}(ht:∀x:Operand,BJ g w (AR h) (ev t x) (ρ x)){lo hi mx:Option Operand}{K:HK}(hx:BJ g w (AR h) x vx)
  (hk:TJ cx d h ty x (B6 t lo) hi mx K):N4 P w0 g0 h0 h g w (Instr.sliceAt ty vx (lo.map ρ) (hi.map ρ) (mx.map ρ)) K:=by
 unfold TJ at hk;split at hk
 ·rename_i d HC e1;rw[KJ ht e1];split at hk
  ·rename_i e hs;split at hk
   ·exact hk.elim
   ·rename_i k EK;split at hk
    ·rename_i r sz es;split at hk
     ·rename_i Gq n e0;split at hk
      ·rename_i hd;split at hk
       ·rename_i q1 q2;obtain rfl:=AO q1;have q2:=AO q2;obtain⟨⟨rfl,h1,h2⟩,hk⟩:=hk;have hl:(h r).live:=by rw[e0];trivial
        have DE:Kv cx d≠r:=fun e=>by rw[e,e0]at hd;cases hd
        have ho:=hI.objs r;rw[e0]at ho;obtain⟨t1,l1,a,cap,a1,a3⟩:=ho;have hr:=hx.slice_none;cases hx with
        |tok _ _ _ _ _ cz WJ hu ht' hn LF =>
         have hv:=LF l1.symm;rw[a1]at hv;subst hv;have aC:es.length≤cap:=by rcases a3 with ⟨e1,_⟩ | ⟨e1,_⟩<;>omega
         have CP:=EN (P:=P) (w:=w) hT hs EK a es.length cap (some HC) none none (.inl rfl) h1 h2 (by simp only[D2];omega) (by simp);simp only[Cz,D2,Cj]at CP;have CJ:(es.drop HC.toNat).length=es.length-HC.toNat:=Ar;have XJ:=BJ.sub (c':=cap-HC.toNat) hr rfl WJ (l:=HC.toNat) (m:=es.length) (by omega) (Ak _) (by omega) (if cap=HC.toNat then a else a.map (·.add (HC.toNat*(cx.T e).size))) (by
          split
          ·exact .inr ⟨by omega,rfl⟩
          ·rw[q2];exact .inl rfl)
         rw[Dv]at XJ
         have fin:∀ob:Option Nat,(∀c,ob=some c→g.own r=some c)→(es.length-HC.toNat=cap-HC.toNat∧ob=none∨es.length-HC.toNat≤cap-HC.toNat∧∃b E vs off,(if cap=HC.toNat then a else a.map (·.add (HC.toNat*(cx.T e).size)))=some ⟨b,off,none⟩∧ob=some b∧w.heap[b]?=some (.cells vs E (0,0))∧vs.size=off+(cap-HC.toNat)*Gq∧∀o,g.S b o→o<off+(es.length-HC.toNat)*Gq) →
           N4 P w0 g0 h0 h g w (Instr.sliceAt ty (.slice a es.length cap) ((some HC).map fun n=>.int .i64 n) ((none:Option Operand).map ρ) ((none:Option Operand).map ρ)) K:=fun ob ho q8=>by
          obtain⟨k1,k2⟩:=hI.moveO r (Kv cx d) DE hd hl ho (.tok Gq (es.drop HC.toNat).length) (.slice (if cap=HC.toNat then a else a.map (·.add (HC.toNat*(cx.T e).size))) (es.length-HC.toNat) (cap-HC.toNat)) (es.length-HC.toNat) true (by simp) (fun HS=>by
           obtain⟨u1,u2,u3,u4⟩:=BB g (Kv cx d) (.slice (if cap=HC.toNat then a else a.map (·.add (HC.toNat*(cx.T e).size))) (es.length-HC.toNat) (cap-HC.toNat)) (es.length-HC.toNat) true ob g.S;refine⟨u3,u2.trans CJ.symm,_,_,by rw[CJ];exact u1,?_⟩;rw[CJ,u4];exact q8)
          exact⟨_,w,_,_,_,CP,hk,k1,k2,.tok _ _ _ _ _ (((XJ.mono k2.keeps (fun _ h=>h) (fun _ h=>h.elim))).up _) (fun c hc=>WJ c (Im hc)) (by unfold AR;rw[Bd];simp) (by simp[Gh.upd]) (by simp[Gh.upd]) (fun _=>by simp[Gh.upd])⟩
         rcases a3 with ⟨e1,e2⟩ | ⟨e1,b,E,vs,off,rfl,e3,e4,e5,e6⟩
         ·exact fin none (fun c h=>by cases h) (.inl ⟨by omega,rfl⟩)
         ·by_cases hc:cap=HC.toNat
          ·exact fin none (fun c h=>by cases h) (.inl ⟨by omega,rfl⟩)
          ·refine fin (some b) (fun c h=>by cases h;exact e3) (.inr ⟨by omega,b,E,vs,off+HC.toNat*Gq,?_,rfl,e4,?_,fun o ho=>?_⟩)
           ·rw[Ai hc];simp[Addr.add_lit,q2]
           ·rw[e5,Nat.sub_mul]
            have:=Bh Gq (show HC.toNat≤cap by omega)
            omega
           ·have:=e6 o ho
            rw[Nat.sub_mul]
            have:=Bh Gq (show HC.toNat≤es.length by omega)
            omega
       ·exact hk.elim
      ·exact hk.elim
     ·exact hk.elim
    ·exact hk.elim
  ·exact hk.elim
 ·exact hk.elim
omit hI in
theorem NC{sz:Nat}:∀{es:List (List AV)},(∀cs∈es,cs.length=sz)→∀k,(es.take k).flatten=es.flatten.take (k*sz)
 | [],_,k=>by simp
 |c::es,hl,0=>by simp
 |c::es,hl,k+1=>by
  have h1:=hl c (Ab ..);have h2:c.length≤k*sz+sz:=by omega
  rw[IT,BA,BA,NC (fun x hx=>hl x (Af _ hx)) k,List.take_append,h1,D1,
   AS h2,show k*sz+sz-sz=k*sz by omega]
omit hI in
theorem CH.takeE{U:Nat→Prop}{sz k:Nat}{es:List (List AV)}{vs:List Value}(hl:∀cs∈es,cs.length=sz)(hk:k≤es.length)(h:CH g w U es.flatten (vs.take (es.length*sz))):CH g w U (es.take k).flatten (vs.take (k*sz)):=by
 have e:vs.take (k*sz)=(vs.take (es.length*sz)).take (k*sz):=by
  rw[Km,Nat.min_eq_left (Bh _ hk)]
 rw[NC hl,e];refine⟨by rw[AJ (l:=vs.take (es.length*sz)),h.1,AJ],fun x hx=>h.2.1 x (Ev hx),fun i av x q1 q2=>?_⟩;have hi:i<k*sz:=by
  rcases EI i (k*sz)with q | q
  ·exact q
  ·rw[Jz,Ai (by omega)]at q1;cases q1
 rw[Jz,Aw hi]at q1 q2;exact h.2.2 i av x q1 q2
theorem bc{cx:Cx}(hT:CB P cx.T){d:Option Nat}{ty:Nat}{x:AV}{vx:Value}{t:Nat→AV}{ρ:Operand→Value}(ht:∀x:Operand,BJ g w (AR h) (ev t x) (ρ x)){hi:Option Operand}{K:HK}(hx:BJ g w (AR h) x vx)
  (hk:iC cx d h ty x (B6 t hi) K):N4 P w0 g0 h0 h g w (Instr.sliceAt ty vx none (hi.map ρ) none) K:=by
 unfold iC at hk;split at hk
 ·rename_i d LL e1;rw[KJ ht e1];split at hk
  ·rename_i e hs;split at hk
   ·exact hk.elim
   ·rename_i k EK;split at hk
    ·rename_i r n;split at hk
     ·rename_i sz es e0;split at hk
      ·rename_i hd;split at hk
       ·rename_i q1 q3;have q1:=AO q1;obtain⟨⟨rfl,h1,h2⟩,hk⟩:=hk;have hl:(h r).live:=by rw[e0];trivial
        have DE:Kv cx d≠r:=fun e=>by rw[e,e0]at hd;cases hd
        have ho:=hI.objs r;rw[e0]at ho;obtain⟨t1,l1,al,a2⟩:=ho;have CJ:(es.take LL.toNat).length=LL.toNat:=by rw[AJ];omega
        cases hx with
        |msl _ _ _ a cap hu ht' XG ha LF =>
         have hv:=LF l1.symm;have OJ:es.length≤cap:=by
          rcases a2 with ⟨b1,_,_⟩ | ⟨b,LE,E,vs,b1,_,b3,_⟩
          ·subst b1;exact AL _
          ·rw[b1]at hv;cases hv;exact b3
         have CP:=EN (P:=P) (w:=w) hT hs EK a es.length cap none (some LL) none (.inl rfl) (by simp) (by simp only[D2,Cz];exact h1) (by simp only[Cz,D2];omega) (by simp);have Lx:(if cap-(0:Nat)=0 then a else a.map (·.add (0*(cx.T e).size)))=a:=by
          rw[Ko];split
          ·rfl
          ·rcases ha with e3 | ⟨b,rfl⟩
           ·cases a with
            |none=>rfl
            |some a=>simp[Addr.add]
           ·rfl
         simp only[Cz,D2,Cj,Int.toNat_zero,Nat.sub_zero]at CP Lx;have key:∃a',(Instr.sliceAt ty (.slice a es.length cap) ((none:Option Int).map fun n=>.int .i64 n) ((some LL).map fun n=>.int .i64 n) ((none:Option Int).map fun n=>.int .i64 n)).run P w=.ok (.slice a' LL.toNat cap) w∧(a'=a):=⟨_,CP,by first | exact Lx | (split<;>first | rfl | exact Lx | (simp_all))⟩
         obtain⟨a',CP,rfl⟩:=key;have JE:BJ (g.upd (Kv cx d) (.slice a' LL.toNat cap) LL.toNat true (g.own r) g.S) w (AR (AW (AW h r .dead) (Kv cx d) (.arr sz (es.take LL.toNat)))) (.msl (Kv cx d) LL.toNat) (.slice a' LL.toNat cap) :=
          .msl _ _ _ _ _ (by unfold AR;rw[Bd];simp) (by simp[Gh.upd]) (by simp[Gh.upd]) (ha.elim (fun e=>.inl (by omega)) .inr) (fun _=>by simp[Gh.upd])
         obtain⟨k1,k2⟩:=hI.moveO r (Kv cx d) DE hd hl (ob:=g.own r) (fun c h=>h) (.arr sz (es.take LL.toNat)) (.slice a' LL.toNat cap) LL.toNat true (by simp) (fun HS=>by
          obtain⟨u1,u2,u3,u4⟩:=BB g (Kv cx d) (.slice a' LL.toNat cap) LL.toNat true (g.own r) g.S;refine⟨u3,u2.trans CJ.symm,fun c hc=>al c (Ev hc),?_⟩;rcases a2 with ⟨b1,b2,b3⟩ | ⟨b,LE,E,vs,b1,b2,b3,b4,b5,b6,b7⟩
          ·subst b1;rw[b2]at hv;cases hv;have h0:LL.toNat=0:=by simp only[AD]at h2;omega
           exact .inl ⟨List.take_nil,by rw[u1,h0],u4.trans b3⟩
          ·rw[b1]at hv;cases hv;refine .inr ⟨b,cap,E,vs,by rw[CJ];exact u1,u4.trans b2,by rw[CJ];omega,b4,b5,?_,b7⟩;rw[CJ];exact(CH.takeE al (by omega) b6).mono HS (fun _ h=>h) (fun _ h=>h.elim))
         exact⟨_,w,_,_,_,CP,hk,k1,k2,JE⟩
       ·exact hk.elim
      ·exact hk.elim
     ·exact hk.elim
    ·exact hk.elim
  ·exact hk.elim
 ·exact hk.elim
theorem Vp{cx:Cx}(hT:CB P cx.T){d:Option Nat}{ty:Nat}{x:AV}{vx:Value}{t:Nat→AV}{ρ:Operand→Value}(ht:∀x:Operand,BJ g w (AR h) (ev t x) (ρ x)){lo hi mx:Option Operand}{K:HK}(hx:BJ g w (AR h) x vx)
  (hk:Gp cx d h ty x (B6 t lo) (B6 t hi) (B6 t mx) K):N4 P w0 g0 h0 h g w (Instr.sliceAt ty vx (lo.map ρ) (hi.map ρ) (mx.map ρ)) K:=by
 unfold Gp at hk;split at hk
 ·rename_i HC LL mB e1 e2 e3;rw[KJ ht e1,KJ ht e2,KJ ht e3];split at hk
  ·rename_i hs;split at hk
   ·rename_i s;obtain⟨⟨h1,h2,h3⟩,hk⟩:=hk;obtain rfl:=hx.v_eq;have hb:=TM (P:=P) (w:=w) false s.size s.size HC LL none (.inl rfl) h1 h2 (by simpa using h3) (by simp);refine(BS.val (x:=.string (s.extract (HC.getD 0).toNat (LL.getD s.size).toNat)) ?_ hk).does hI;simp only[Instr.sliceAt,Sem.run_bind,run_underlying (hT.string hs),Result.andThen_ok,Instr.slice];simp only[Option.map_none,Option.isSome_none,Cy,Fg]at hb⊢;simp only[Sem.run_bind,hb,Result.andThen_ok,Sem.run_pure]
   ·exact hk.elim
  ·rename_i e hs;split at hk
   ·exact hk.elim
   ·rename_i k EK;split at hk
    ·rename_i tk es;have hr:=hx.slice_none;obtain⟨a,cap,hv,OJ⟩:∃a cap,vx=.slice a es.length cap∧es.length≤cap:=by
      cases hr with
      |snil _ a cap=>exact⟨a,cap,rfl,AL _⟩
      |slice _ _ b off sz cap val hc=>exact⟨_,cap,rfl,hc⟩
     subst hv;split at hk
     ·obtain⟨⟨h1,h2,h3⟩,hl,hk⟩:=hk;have CP:=EN (P:=P) (w:=w) hT hs EK a es.length cap HC LL none (.inl rfl) h1 h2 (by simp only[D2];omega) (by simp);refine BS.does hI ⟨_,_,CP,hk,(BJ.sub (c':=cap-(HC.getD 0).toNat) hr rfl hl (l:=(HC.getD 0).toNat) (m:=(LL.getD es.length).toNat) (by omega) (by omega) (by simp;omega) _ ?_).up _⟩;split
      ·rename_i e;simp only[D2,Cj]at e;exact .inr ⟨by omega,rfl⟩
      ·exact .inl rfl
     ·rename_i m;split at hk
      ·rename_i d hh;split at hk
       ·obtain⟨⟨h1,h2,rfl,h3⟩,hl,hk⟩:=hk;have CP:=EN (P:=P) (w:=w) hT hs EK a es.length cap HC (some m) (some m) (.inr (by simp)) h1 h2 (by simp) (by simp only[Cz];omega);simp only[Cz]at CP;have CJ:((es.take m.toNat).drop (HC.getD 0).toNat).length=m.toNat-(HC.getD 0).toNat:=by rw[Ar,AJ];omega
        refine BS.does hI ⟨_,_,CP,hk,.full _ _ _ _ ((BJ.sub (c':=m.toNat-(HC.getD 0).toNat) hr rfl hl (l:=(HC.getD 0).toNat) (m:=m.toNat) (by omega) (by omega) (by omega) _ ?_).up _) (fun c hc=>hl c (Ev (Im hc))) ⟨_,by rw[CJ]⟩⟩;split
        ·rename_i e;exact .inr ⟨e,rfl⟩
        ·exact .inl rfl
       split at hk
       ·rename_i hd;obtain⟨⟨h1,h2,rfl,h3⟩,hl,hk⟩:=hk;have CP:=EN (P:=P) (w:=w) hT hs EK a es.length cap HC (some m) (some m) (.inr (by simp)) h1 h2 (by simp) (by simp only[Cz];omega);simp only[Cz]at CP
        obtain⟨g',k1,k2,k3⟩:=NR hI (sz:=(cx.T e).size) (n:=m.toNat-(HC.getD 0).toNat) hd (es:=(es.take m.toNat).drop (HC.getD 0).toNat) (fun c hc=>hl c (Ev (Im hc))) (by rw[Ar,AJ];omega)
         (BJ.sub (c':=m.toNat-(HC.getD 0).toNat) hr rfl hl (l:=(HC.getD 0).toNat) (m:=m.toNat) (by omega) (by omega) (by omega) (if m.toNat=(HC.getD 0).toNat then a else a.map (·.add ((HC.getD 0).toNat*(cx.T e).size))) (by
          split
          ·rename_i e;exact .inr ⟨e,rfl⟩
          ·exact .inl rfl))
        exact⟨_,w,g',_,_,CP,hk,k1,k2,k3⟩
       ·exact hk.elim
      ·exact hk.elim
    ·obtain⟨⟨h1,h2,h3⟩,h4,hk⟩:=hk;obtain rfl:=hx.v_eq;have CP:=EN (P:=P) (w:=w) hT hs EK none 0 0 HC LL mB h4 (by omega) (by simp only[IC]at *;omega) (by simp only[IC]at *;omega) (by simp only[IC]at *;omega);refine BS.does hI (BS.val (x:=.slice none 0 0) ?_ hk);rw[CP];simp only[h1,IC,h2,h3];simp
    ·rename_i r n;split at hk
     ·rename_i sz es e0;split at hk
      ·rename_i QN;obtain rfl:=AO QN;obtain⟨⟨h1,h2,h3,h4,h5⟩,hk⟩:=hk;have ho:=hI.objs r;rw[e0]at ho;obtain⟨t1,l1,al,a3⟩:=ho;have hl:(h r).live:=by rw[e0];trivial
       have qY:mB=none∨LL≠none:=h5.imp id (fun q=>q.2);cases hx with
       |msl _ _ _ a cap hu ht' hn ha LF =>
        have hv:=LF (h1.trans l1.symm);subst h1;have ku:∀c:Nat,es.length≤c→LL.getD es.length≤mB.getD c∧mB.getD c≤c:=fun c hc=>by
         rcases h5 with h5 | ⟨h5,DE⟩
         ·rw[h5];simp only[D2];omega
         ·obtain⟨m,hm⟩:=Option.ne_none_iff_exists'.1 DE;rw[h5,hm];rw[hm]at h3 h4;simp only[Cz]at h3 h4⊢;omega
        rcases a3 with ⟨rfl,q2,q3⟩ | ⟨b,LE,E,vs,q1,q2,q3,q4,q5,q6,q7⟩
        ·rw[q2]at hv;cases hv;have CP:=EN (P:=P) (w:=w) hT hs EK none 0 0 HC LL mB qY h2 h3 (ku 0 (by simp)).1 (ku 0 (by simp)).2
         obtain⟨k1,k2⟩:=hI.upd r .dead (g.ρ r) (g.ln r) (g.tk r) (g.own r) g.S w none ⟨rfl,rfl,rfl,Ak _⟩ (fun _ _ _=>rfl) (fun b e=>by cases e) (fun _ _ h=>h) (fun _ _ h=>.inl h) (fun b o e=>by cases e) (fun b hh _=>by cases hh) (by simp)
          (fun _=>⟨rfl,Ak _,fun _=>rfl,fun _=>rfl⟩) (fun _ _=>trivial)
         refine⟨_,w,_,_,_,CP,hk,k1,k2,?_⟩;have z1:((HC.getD 0).toNat)=0:=by simp only[AD,IC]at h3 h4;omega
         have z2:((LL.getD (([]:List (List AV)).length:Int)).toNat)=0:=by simp only[AD,IC]at h3 h4⊢;omega
         simp only[List.take_nil,List.drop_nil];have z3:((LL.getD ((0:Nat):Int)).toNat)=0:=z2;rw[z1,z3];exact .snil _ _ _
        ·rw[q1]at hv;cases hv;have CP:=EN (P:=P) (w:=w) hT hs EK (some ⟨b,0,none⟩) es.length cap HC LL mB qY h2 h3 (ku _ q3).1 (ku _ q3).2;have cr:=(hI.loc r b hl q2).1
         obtain⟨k1,k2⟩:=hI.upd r .dead (g.ρ r) (g.ln r) (g.tk r) (g.own r) (g.more b (es.length*(cx.T e).size)) w none ⟨rfl,rfl,rfl,Ak _⟩ (fun _ _ _=>rfl) (fun b e=>by cases e) (fun _ _ h=>.inl h)
          (fun b' o hs=>hs.elim .inl (fun hs=>.inr ⟨by rw[hs.1];exact cr,.inr ⟨hl,by rw[hs.1];exact q2⟩⟩)) (fun b o e=>by cases e) (fun b hh _=>by cases hh) (by simp)
          (fun _=>⟨rfl,Ak _,fun _=>rfl,fun _=>rfl⟩) (fun _ _=>trivial)
         have D6:=BJ.slice_row (g:=g.upd r (g.ρ r) (g.ln r) (g.tk r) (g.own r) (g.more b (es.length*(cx.T e).size))) (U:=Fm) q4 al q3 (q6.mono k2.keeps (fun _ h=>h) (fun _ h=>h.elim)) (fun o ho=>.inr ⟨rfl,ho⟩);have Aap:=ku _ q3;refine⟨_,w,_,_,_,CP,hk,k1,k2,(BJ.sub (c':=(mB.getD cap).toNat-(HC.getD 0).toNat) D6 rfl al (l:=(HC.getD 0).toNat) (m:=(LL.getD es.length).toNat) (by omega) (by omega) (by omega) _ ?_).up _⟩;split
         ·rename_i e;exact .inr ⟨by omega,rfl⟩
         ·exact .inl rfl
      ·exact hk.elim
     ·exact hk.elim
    ·exact hk.elim
  ·exact hk.elim
 ·exact hk.elim
theorem Up{cx:Cx}(hT:CB P cx.T){d:Option Nat}{ty:Nat}{n c:AV}{vn vc:Value}{K:HK}(hn:BJ g w (AR h) n vn)(hc:BJ g w (AR h) c vc)(hk:Jm cx d h ty n c K) :
  N4 P w0 g0 h0 h g w (Instr.makeSlice ty vn vc) K:=by
 unfold Jm at hk;split at hk
 ·rename_i e n c hs;obtain rfl:=hn.v_eq;obtain rfl:=hc.v_eq;split at hk
  ·rename_i Rm;split at hk
   ·rename_i MY;have MY:=AO MY;split at hk
    ·exact hk.elim
    ·rename_i k EK;obtain⟨⟨h1,h2,h3,h4⟩,hk⟩:=hk;obtain⟨i,z,i1,i2,i3,i4,i5⟩:=Hr hT EK;have oe:(cx.T e).zc≠[]:=fun e0=>by rw[e0]at MY;rw[EK]at MY;cases MY
     have wn:IntKind.i64.wrap n=n:=MU ⟨by omega,by omega⟩;have wc:IntKind.i64.wrap c=c:=MU ⟨by omega,by omega⟩;have FX:∀l:List AV,(∀a∈l,one a=true)→GY l=true:=by
      intro l
      induction l with
      |nil=>intro _;rfl
      |cons a l ih=>intro h;simp[GY,h a (List.mem_cons_self ..),ih (fun b hb=>h b (List.mem_cons_of_mem _ hb))]
     have n8:((Array.range (c.toNat*(cx.T e).size)).map fun k=>z.cells[k % z.cells.size]!).toList=(List.replicate c.toNat (cx.T e).zc).flatten:=by
      rw[HI c.toNat _ oe,MY,i5];have e6:z.cells.size=(cx.T e).size:=by rw[←MY,i5];simp
      simp[e6,Array.getElem!_eq_getD]
     have hzs:(cx.T e).zc.length=(cx.T e).size:=MY;have sU:∀c'∈List.replicate c.toNat (cx.T e).zc,c'.length=(cx.T e).size:=fun c' hc=>by rw[Cg hc];exact MY
     have vf : ∀c'∈List.replicate n.toNat ((cx.T e).zc.map AV.v),c'.length=(cx.T e).size:=fun c' hc=>by rw[Cg hc,Bb];exact MY
     have vg:∀c'∈List.replicate n.toNat (cx.T e).zc,c'.length=(cx.T e).size:=fun c' hc=>by rw[Cg hc];exact MY
     obtain⟨g',av,h',q1,q2,q3,q4⟩:=JS hI hk (vs:=(Array.range (c.toNat*(cx.T e).size)).map fun k=>z.cells[k % z.cells.size]!) (cap:=c.toNat) e vf (by rw[Cr];omega) (by simp) (by
      rw[n8,Cr];have e1:(List.replicate n.toNat ((cx.T e).zc.map AV.v)).flatten=(List.replicate n.toNat (cx.T e).zc).flatten.map AV.v:=by
       rw[RP,List.map_replicate]
      have e2:(List.replicate c.toNat (cx.T e).zc).flatten.take (n.toNat*(cx.T e).size)=(List.replicate n.toNat (cx.T e).zc).flatten:=by
       obtain⟨m,hm⟩:∃m,c.toNat=n.toNat+m:=⟨c.toNat-n.toNat,by omega⟩;rw[hm,←List.replicate_append_replicate,CL,Hp (by rw[Dh vg,Cr])]
      rw[e1,e2];refine CH.vals (FX _ (fun a ha=>?_));obtain⟨x,hx,rfl⟩:=Al.1 ha;obtain⟨l,hl,hx⟩:=Eu.1 hx;rw[Cg hl]at hx;exact Mt Rm _ (Al.2 ⟨x,hx,rfl⟩)) w ⟨rfl,rfl,rfl,rfl⟩
     rw[Cr]at q4;refine⟨_,_,g',av,h',?_,q1,q2,q3,q4⟩;have uQ:¬((cx.T e).bytes*c>2 ^ 48):=by rw[Int.mul_comm];omega
     have fS:((decide (c<0)||decide (((cx.T e).bytes:Int)*c>2 ^ 48))||decide (n<0)||decide (n>c))=false:=by
      simp only[Bool.or_eq_false_iff,JL];exact⟨⟨⟨by omega,uQ⟩,by omega⟩,by omega⟩
     simp only[Instr.makeSlice,Sem.run_bind,run_underlying (hT.slice hs),Result.andThen_ok,asInt,asIntOf,Sem.run_pure,typeInfo,run_program,i1,i4,wn,wc,fS,Cy,Fg,run_askRoom,hT.size1 w EK]
     by_cases hz:c.toNat*(k+1)=0
     ·have ma:c.toNat=0:=by
       rcases Nat.mul_eq_zero.1 hz with h | h
       ·exact h
       ·cases h
      rw[ma];simp only[Ko,Kz];simp only[show Array.range 0=#[]from rfl,Array.map_empty];simp[newRow]
     ·simp only[Ai hz,Sem.run_bind,zeroValue,typeInfo,run_program,i1,i2,Result.andThen_ok,Sem.run_pure];rw[EK];simp[newRow]
   ·exact hk.elim
  ·exact hk.elim
 ·exact hk.elim
end
end Go.Eng
