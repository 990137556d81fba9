/- Lemmas for the claims of this seat, without a condition: part 9 (EngR, EngS). -/
import Derived.Test.YtkmnnpmneamgoaaGreatDoorA08
namespace Go.Eng

theorem CY.app{g:Gh}{w:World}{U:Nat→Prop}{Ut bs:List AV}{xs ys:List Value}(h:CY g w U Ut xs)(k:CY g w U bs ys):CY g w U (Ut++bs) (xs++ys):=by
 refine⟨by simp[h.1,k.1],fun x hx=>(A4.1 hx).elim (h.2.1 x) (k.2.1 x),fun i av x h1 h2=>?_⟩
 by_cases hi:i<Ut.length
 ·rw[A2 hi]at h1;rw[A2 (by rw[h.1];exact hi)]at h2;exact h.2.2 i av x h1 h2
 ·rw[AR (by omega)]at h1;rw[AR (by rw[h.1];omega),h.1]at h2;exact k.2.2 _ av x h1 h2

section
variable {P:Program}{w0:World}{g0:Gh}{h0 h:Nat→HO}{g:Gh}{w:World}(hI:DF w0 g0 h0 h g w)
include hI

omit hI in
theorem Qu(t ty e:TypeId)(i:TypeInfo)(ht:P.underlying t=some (.slice e))(hi:P.info? e=some i){E:TypeId}
  (g Oc aF:Nat) (F9:Array Value) (hg:w.heap[g]?=some (.cells F9 E (0,0)))
  (a:Addr) (m c:Nat) (news:List Value) (hl:news.length=m*i.size) (I3:∀j u,news[j]?=some u→w.cell? (a.add j)=some u) (h1:∀u∈news,u.oneCell'=true)
  (J5:Oc+m≤aF) (ZK:Oc*i.size+news.length≤F9.size) :
  (Builtin.append_ #[t,t] ty #[.slice (some ⟨g,0,none⟩) Oc aF,.slice (some a) m c]).run P w =
   .ok (.slice (some ⟨g,0,none⟩) (Oc+m) aF) (w.setRow g (F9.toList.take (Oc*i.size)++news++F9.toList.drop (Oc*i.size+news.length)).toArray):=by
 have hf:=run_firstCells_some (P:=P) w i.size m a m c news hl I3;have GD:=run_storeCells_at P g (Oc*i.size) E news 0 F9 w hg (by simpa using ZK) h1;simp only[Hx]at GD;simp[Builtin.append_,run_underlying ht,sizeOf,typeInfo,hi,Builtin.lenOf,J5,hf,Addr.add_lit,GD]

omit hI in
theorem T7(t ty e:TypeId)(i:TypeInfo)(ht:P.underlying t=some (.slice e))(hi:P.info? e=some i){E:TypeId}
  (g off Oc aF:Nat) (F9:Array Value) (hg:w.heap[g]?=some (.cells F9 E (0,0)))
  (a:Addr) (m c:Nat) (news:List Value) (hl:news.length=m*i.size) (I3:∀j u,news[j]?=some u→w.cell? (a.add j)=some u) (h1:∀u∈news,u.oneCell'=true)
  (J5:Oc+m≤aF) (ZK:off+Oc*i.size+news.length≤F9.size) :
  (Builtin.append_ #[t,t] ty #[.slice (some ⟨g,off,none⟩) Oc aF,.slice (some a) m c]).run P w =
   .ok (.slice (some ⟨g,off,none⟩) (Oc+m) aF) (w.setRow g (F9.toList.take (off+Oc*i.size)++news++F9.toList.drop (off+Oc*i.size+news.length)).toArray):=by
 have hf:=run_firstCells_some (P:=P) w i.size m a m c news hl I3;have GD:=run_storeCells_at P g (off+Oc*i.size) E news 0 F9 w hg (by simpa using ZK) h1;simp only[Hx]at GD;simp[Builtin.append_,run_underlying ht,sizeOf,typeInfo,hi,Builtin.lenOf,J5,hf,Addr.add_lit,GD]

omit hI in
theorem mq{b off n m sz cap:Nat}{F9:Array Value}{E:TypeId}{olds news:List Value}(hb:w.heap[b]?=some (.cells F9 E (0,0)))(ZJ:F9.size=off+cap*sz)(hn:n≤cap)(hm:n+m≤cap)(hnl:news.length=m*sz)(ue:olds.length=n*sz)
  (GS:∀j u,olds[j]?=some u→w.cell? ⟨b,off+j,none⟩=some u) :
  (F9.toList.take (off+n*sz)++news++F9.toList.drop (off+n*sz+news.length)).length=off+cap*sz ∧
  ((F9.toList.take (off+n*sz)++news++F9.toList.drop (off+n*sz+news.length)).drop off).take ((n+m)*sz)=olds++news ∧
  ∀o,o<off+n*sz→(F9.toList.take (off+n*sz)++news++F9.toList.drop (off+n*sz+news.length)).toArray[o]?=F9[o]?:=by
 have hcl:F9.toList.length=off+cap*sz:=by rw[CD];exact ZJ
 have UD:(n+m)*sz≤cap*sz:=Bi _ hm;have gS:n*sz≤cap*sz:=Bi _ hn;rw[Fu]at UD;have KM:(F9.toList.take (off+n*sz)).drop off=olds:=by
  apply Dr;intro j
  by_cases hj:j<n*sz
  ·rw[DI,B7 (by omega)];have hx:olds[j]?=some olds[j]:=AE (by omega)
   have:=GS j _ hx
   rw[Gb hb]at this;rw[AO,this,hx]
  ·rw[A6 (by rw[B4,AG];omega),A6 (by omega)]
 have ql:(F9.toList.take (off+n*sz)).length=off+n*sz:=by rw[AG];omega
 refine⟨?_,?_,fun o ho=>?_⟩
 ·rw[Ad,Ad,ql,B4,hcl,hnl];omega
 ·rw[BH,List.drop_append_of_le_length (by rw[ql];omega),KM,←BH,HB (by rw[Ad,ue,hnl,Fu])]
 ·rw[LE,BH,A2 (by rw[ql];exact ho),B7 ho,AO]

omit hI in
theorem jo{b n m sz cap:Nat}{F9:Array Value}{E:TypeId}{olds news:List Value}(hb:w.heap[b]?=some (.cells F9 E (0,0)))(ZJ:F9.size=cap*sz)(hn:n≤cap)(hm:n+m≤cap)(hnl:news.length=m*sz)(ue:olds.length=n*sz)
  (GS:∀j u,olds[j]?=some u→w.cell? ⟨b,j,none⟩=some u) :
  (F9.toList.take (n*sz)++news++F9.toList.drop (n*sz+news.length)).length=cap*sz ∧
  (F9.toList.take (n*sz)++news++F9.toList.drop (n*sz+news.length)).take ((n+m)*sz)=olds++news ∧
  ∀o,o<n*sz→(F9.toList.take (n*sz)++news++F9.toList.drop (n*sz+news.length)).toArray[o]?=F9[o]?:=by
 have hcl:F9.toList.length=cap*sz:=by rw[CD];exact ZJ
 have UD:(n+m)*sz≤cap*sz:=Bi _ hm;have gS:n*sz≤cap*sz:=Bi _ hn;rw[Fu]at UD;have KM:F9.toList.take (n*sz)=olds:=by
  apply Dr;intro j
  by_cases hj:j<n*sz
  ·rw[B7 hj];have hx:olds[j]?=some olds[j]:=AE (by omega)
   have:=GS j _ hx
   rw[Gb hb]at this;rw[AO,this,hx]
  ·rw[A6 (by rw[AG];omega),A6 (by omega)]
 have ql:(F9.toList.take (n*sz)).length=n*sz:=by rw[AG];omega
 refine⟨?_,?_,fun o ho=>?_⟩
 ·rw[Ad,Ad,ql,B4,hcl,hnl];omega
 ·rw[KM,HB (by rw[Ad,ue,hnl,Fu])]
 ·rw[LE,BH,A2 (by rw[ql];exact ho),B7 ho,AO]

theorem UZ{r n sz:Nat}{es:List (List AV)}{x:Value}(he:h r=.arr sz es)(hx:BK g w (AM h) (.msl r n) x)(hn:n=es.length) :
  x=g.ρ r∧∃news,Ov w x es.length sz news∧CY g w Fp es.flatten news:=by
 have ho:=hI.objs r;rw[he]at ho;obtain⟨t1,l1,al,a1⟩:=ho;cases hx with
 |msl _ _ _ a cap hu ht X7 ha Mt =>
  have e:=Mt (hn.trans l1.symm);refine⟨e,?_⟩;rw[e];rcases a1 with ⟨rfl,e2,e3⟩ | ⟨b,OC,E,vs,e1,e2,e3,e4,e5,e6,e7⟩
  ·exact⟨[],⟨by simp,by simp,none,0,e2,.inl rfl⟩,by simp,by simp,fun i av x h1 h2=>by simp at h2⟩
  ·have ZJ:vs.toList.length=OC*sz:=by rw[CD];exact e5
   have HN:es.length*sz≤vs.toList.length:=by rw[ZJ];exact Bi _ e3
   refine⟨vs.toList.take (es.length*sz),⟨by rw[AG,M8 HN],e6.2.1,_,_,e1,.inr ⟨_,rfl,fun j u hj=>?_⟩⟩,e6⟩;rw[Addr.add_lit,Be,Gb e4];have Dy:=(Aw.1 hj).1;rw[AG]at Dy;rw[B7 (by omega),AO]at hj;exact hj

theorem cA{sz:Nat}{x:AV}{vx:Value}{K:List (List AV)→Prop}(hx:BK g w (AM h) x vx)(hk:Lj h x K) :
  ∃es,K es∧((∀c∈es,c.length=sz)→∃news,Ov w vx es.length sz news∧CY g w Fp es.flatten news):=by
 unfold Lj at hk;split at hk
 ·exact⟨_,hk,fun hl=>Ov.of_rep hx.slice_none hl⟩
 ·obtain rfl:=hx.v_eq;exact⟨[],hk,fun _=>⟨[],⟨by simp,by simp,none,0,rfl,.inl rfl⟩,by simp,by simp,fun i av x h1 h2=>by simp at h2⟩⟩
 ·rename_i r n;split at hk
  ·rename_i GZ es e;obtain⟨hn,hk⟩:=hk;refine⟨es,hk,fun hl=>?_⟩;obtain⟨_,news,n1,n2⟩:=UZ hI e hx hn;refine⟨news,?_,n2⟩
   have:news.length=es.length*sz:=by rw[n2.1,EE hl]
   exact⟨this,n1.2.1,n1.2.2⟩
  ·exact hk.elim
 ·exact hk.elim

theorem dE{cx:Cx}{d:Option Nat}{sz:Nat}{K:HK}(hk:EL cx d h sz [] K) :
  ∃g' av h',K av h'∧DF w0 g0 h0 h' g' w∧Le h g w h' g' w∧BK g' w (AM h') av (.slice none 0 0):=by
 have base:∀(d:Nat) (o' : HO),h d=.free→o'≠.free→(∀g' : Gh,g'.ρ d=.slice none 0 0→g'.ln d=0→g'.tk d=true→g'.own d=none→Ej g' w (AM (AZ h d o')) d o') →
   DF w0 g0 h0 (AZ h d o') (g.upd d (.slice none 0 0) 0 true none g.S) w∧Le h g w (AZ h d o') (g.upd d (.slice none 0 0) 0 true none g.S) w:=by
  intro d o' hd DB JA;refine hI.upd d o' _ _ _ _ _ w none ⟨rfl,rfl,rfl,Ao _⟩ (fun _ _ _=>rfl) (fun b e=>by cases e) (fun _ _ h=>h) (fun _ _ h=>.inl h) (fun b o e=>by cases e) (fun b _ e=>by cases e) DB (fun hu=>absurd hd hu) (fun _ _=>?_);obtain⟨u1,u2,u3,u4⟩:=BU g d (.slice none 0 0) 0 true none g.S;exact JA _ u1 u2 u3 u4
 unfold EL at hk;split at hk
 ·exact hk.elim
 ·rename_i d;generalize KJ cx d=d1 at hk;split at hk
  ·rename_i hd;split at hk
   ·obtain⟨k1,k2⟩:=base d1 (.arr sz []) hd (by simp) (fun g' u1 u2 u3 u4=>⟨u3,u2,by simp,.inl ⟨rfl,u1,u4⟩⟩);exact⟨_,_,_,hk,k1,k2,.msl _ d1 0 none 0 (by unfold AM;rw[Bg];simp) (by simp[Gh.upd]) (AL _) (.inl rfl) (fun _=>by simp[Gh.upd])⟩
   ·obtain⟨k1,k2⟩:=base d1 (.tok sz 0) hd (by simp) (fun g' u1 u2 u3 u4=>⟨u3,u2,none,0,u1,.inl ⟨rfl,u4⟩⟩);exact⟨_,_,_,hk,k1,k2,.tok _ d1 sz [] _ (.snil _ _ _) (by simp) (by unfold AM;rw[Bg];simp) (by simp[Gh.upd]) (AL _) (fun _=>by simp[Gh.upd])⟩
  ·exact hk.elim

theorem Zg{cx:Cx}(hT:Cu P cx.T){d:Option Nat}{t ty:Nat}{s x:AV}{vs vx:Value}{K:HK}(hs:BK g w (AM h) s vs)(hx:BK g w (AM h) x vx)(hk:Io cx d h t s x K) :
  Oo P w0 g0 h0 h g w (Builtin.append_ #[t,t] ty #[vs,vx]) K:=by
 unfold Io at hk;split at hk
 ·rename_i e ht;split at hk
  ·exact hk.elim
  ·rename_i hz;have hz:=AU hz;split at hk
   ·exact hk.elim
   ·rename_i k En;have h5:=cA hI (sz:=(cx.T e).size) hx hk
    clear hk
    obtain⟨es2,hk,h6⟩:=h5;split at hk
    ·obtain⟨⟨q1,q2,q3⟩,hk⟩:=hk;obtain rfl:=hs.v_eq;obtain⟨news,n1,n2⟩:=h6 (F2 q1);obtain⟨m1,m2,a,c,rfl,m4⟩:=n1
     by_cases hm:es2.length=0
     ·obtain rfl:=AK hm;obtain⟨g',av,h',k1,k2,k3,k4⟩:=dE hI hk;exact⟨_,w,g',av,h',IW hT w ht En none a 0 0 c (Ao _),k1,k2,k3,k4⟩
     ·obtain⟨nc,rest,r1,r2,r3⟩:=HZ hT w (ty:=ty) ht En hz (olds:=[]) (a:=none) (n:=0) (cap:=0) ⟨by simp,by simp,none,0,rfl,.inl rfl⟩ rfl (fun _=>rfl) ⟨m1,m2,a,c,rfl,m4⟩ rfl (by omega) (by omega) (by rw[Be];exact q2) (by omega);obtain⟨g',av,h',k1,k2,k3,k4⟩:=J8 hI hk (vs:=([]++news++rest).toArray) (cap:=nc) e (F2 q1) (by omega) (by simpa using r3) (by
       rw[DL,show(news++rest).toArray.toList=news++rest from rfl,HB m1];exact n2) w.drew ⟨rfl,rfl,rfl,rfl⟩
      rw[Be]at r1;exact⟨_,_,g',av,h',r1,k1,k2,k3,k4⟩
    ·rename_i GZ es;split at hk
     ·rename_i Q0;obtain Q0:=AU Q0;obtain⟨⟨q1,q2,q3,q4⟩,hk⟩:=hk;obtain⟨news,n1,n2⟩:=h6 (F2 q1);obtain⟨m1,m2,a2,c2,rfl,m4⟩:=n1;cases hs with
      |full _ _ _ _ hr RQ Mt =>
       obtain⟨a,rfl⟩:=Mt;have GM:∀c∈es++es2,c.length=(cx.T e).size:=fun c hc=>(A4.1 hc).elim (fun h=>(RQ c h).trans Q0) (F2 q1 c);obtain⟨olds,o1,o2⟩:=Ov.of_rep hr (sz:=(cx.T e).size) (fun c hc=>(RQ c hc).trans Q0);have hrl:=o2.app n2;rw[←Cc]at hrl;have ha:a=none→es.length=0:=by
        rintro rfl
        obtain⟨p1,p2,a',c',p3,p4⟩:=o1;cases p3;rcases p4 with h | ⟨b',h,_⟩
        ·exact h
        ·cases h
       obtain⟨nc,rest,r1,r2,r3⟩:=HZ hT w (ty:=ty) ht En hz o1 rfl ha ⟨m1,m2,a2,c2,rfl,m4⟩ rfl q2 (by omega) q3 q4;obtain⟨g',av,h',k1,k2,k3,k4⟩:=J8 hI hk (vs:=(olds++news++rest).toArray) (cap:=nc) e GM (by rw[Ad];exact r2) (by rw[H9];exact r3) (by
        rw[show(olds++news++rest).toArray.toList=olds++news++rest from rfl,HB (by rw[Ad,Ad,o1.1,m1,Fu])];exact hrl) w.drew ⟨rfl,rfl,rfl,rfl⟩
       rw[Ad]at k4;exact⟨_,_,g',av,h',r1,k1,k2,k3,k4⟩
     ·exact hk.elim
    ·rename_i r GZ es;have ho:=hI.objs r;split at hk
     ·rename_i sz n e0;rw[e0]at ho;split at hk
      ·rename_i Q0 xx;obtain rfl:=AU xx;obtain Q0:=AU Q0;obtain⟨⟨q1,q2,q3,q4⟩,hk⟩:=hk;rw[Q0]at q1;obtain⟨news,n1,n2⟩:=h6 (F2 q1);obtain⟨m1,m2,a2,c2,rfl,m4⟩:=n1;obtain⟨t1,l1,a,cap,a1,a3⟩:=ho;have hl:(h r).live:=by rw[e0];trivial
       have GM:∀c∈es++es2,es.length=n→True:=fun _ _ _=>trivial;cases hs with
       |tok _ _ _ _ _ hr RQ hu ht' hn Mt =>
        have hv:=Mt (q2.trans l1.symm);rw[a1]at hv;subst hv;subst q2;have GM:∀c∈es++es2,c.length=GZ:=fun c hc=>(A4.1 hc).elim (RQ c) (fun h=>(F2 q1 c h).trans Q0.symm);obtain⟨olds,o1,o2⟩:=Ov.of_rep hr RQ;have hrl:=o2.app n2;rw[←Cc]at hrl;have bp:es.length≤cap:=by rcases a3 with ⟨e1,_⟩ | ⟨e1,_⟩<;>omega
        by_cases hm:es2.length=0
        ·obtain rfl:=AK hm;have JA:=hI.objs r;rw[e0]at JA
         obtain⟨k1,k2⟩:=hI.upd r (.tok GZ (es.length+([]:List (List AV)).length)) (g.ρ r) (g.ln r) (g.tk r) (g.own r) g.S w none ⟨rfl,rfl,rfl,Ao _⟩ (fun _ _ _=>rfl) (fun b e=>by cases e) (fun _ _ h=>h) (fun _ _ h=>.inl h) (fun b o e=>by cases e)
          (fun b _ e=>⟨(hI.loc r b hl e).1,.inl ⟨hl,e⟩⟩) (by simp) (fun _=>⟨rfl,Ao _,fun _=>rfl,fun _=>rfl⟩) (fun hg Jj=>by
           obtain⟨u1,u2,u3,u4⟩:=BU g r (g.ρ r) (g.ln r) (g.tk r) (g.own r) g.S;rw[Ah,Hx];exact JA.same Jj (fun i hi=>D4 (by simp) i hi) hg u1 u2 u3 u4 (fun b _ _=>⟨rfl,fun _ h=>h⟩))
         refine⟨_,w,_,_,_,IW hT w ht En a a2 es.length cap c2 bp,hk,k1,k2,?_⟩;rw[CV];exact(BK.tok (AM h) r GZ es _ hr RQ hu ht' hn Mt).le k2
        ·by_cases J5:es.length+es2.length≤cap
         ·rcases a3 with ⟨e1,_⟩ | ⟨e1,b,E,F9,off,rfl,e3,e4,e5,e6⟩
          ·omega
          ·rcases m4 with h | ⟨ba,rfl,I3⟩
           ·omega
           ·obtain⟨i,z,i1,i2,i3,i4,i5⟩:=HC hT En;have UD:(es.length+es2.length)*GZ≤cap*GZ:=Bi _ J5;have PW:news.length=es2.length*GZ:=by rw[Q0];exact m1
            have ZL:i.size=GZ:=i3.trans Q0.symm;have Do:=T7 (P:=P) t ty e i (hT.slice ht) i1 b off es.length cap F9 e4 ba es2.length c2 news (by rw[ZL];exact PW) I3 m2 J5 (by rw[ZL,PW,e5];rw[Fu]at UD;omega);rw[ZL]at Do;have GS:∀j u,olds[j]?=some u→w.cell? ⟨b,off+j,none⟩=some u:=by
             obtain⟨p1,p2,a',c',p3,p4⟩:=o1;cases p3;intro j u hj;rcases p4 with h | ⟨b',h,h'⟩
             ·rw[h,IP]at p1;rw[AK p1]at hj;simp at hj
             ·cases h
              have:=h' j u hj
              rwa [Addr.add_lit]at this
            obtain⟨p1,p2,p3⟩:=mq e4 e5 e1 J5 PW o1.1 GS;generalize hnewd:F9.toList.take (off+es.length*GZ)++news++F9.toList.drop (off+es.length*GZ+news.length)=new at Do p1 p2 p3;have Fx:=setRow_heap w b F9 new.toArray E (0,0) e4;have cR:=(hI.loc r b hl e3).1
            obtain⟨k1,k2⟩:=hI.upd r (.tok GZ (es.length+es2.length)) (.slice (some ⟨b,off,none⟩) (es.length+es2.length) cap) (es.length+es2.length) (g.tk r) (g.own r) (g.more b (off+(es.length+es2.length)*GZ)) (w.setRow b new.toArray) (some b)
             ⟨rfl,rfl,rfl,by rw[size_setRow];exact Ao _⟩ (fun k _ DB=>setRow_other w b k _ (fun e=>DB (by rw[e]))) (fun b' e=>by cases e;exact⟨hl,e3⟩) (fun _ _ h=>.inl h)
             (fun b' o hs=>hs.elim .inl (fun hs=>.inr ⟨by rw[size_setRow,hs.1];exact cR,.inr ⟨hl,by rw[hs.1];exact e3⟩⟩))
             (fun b' o e hs=>by
              cases e
              refine⟨?_,fun es ck he=>by rw[e4]at he;cases he⟩;rw[Gb Fx,Gb e4];exact p3 o (e6 o hs)) (fun b' _ e=>by
              rw[e3]at e;cases e;exact⟨by rw[size_setRow];exact cR,.inl ⟨hl,e3⟩⟩) (by simp) (fun _=>⟨rfl,by omega,fun e=>(by rw[t1]at e;cases e),fun e=>by omega⟩) (fun hg Jj=>by
              obtain⟨u1,u2,u3,u4⟩:=BU g r (.slice (some ⟨b,off,none⟩) (es.length+es2.length) cap) (es.length+es2.length) (g.tk r) (g.own r) (g.more b (off+(es.length+es2.length)*GZ));exact⟨u3.trans t1,u2,_,cap,u1,  .inr ⟨J5,b,E,_,off,rfl,u4.trans e3,Fx,by rw[H9];exact p1,fun o ho=>by
               rcases ho with ho | ⟨_,ho⟩
               ·have h1:=e6 o ho;have h2:es.length*GZ≤(es.length+es2.length)*GZ:=Bi _ (by omega);omega
               ·exact ho⟩⟩)
            have EF:=BK.slice_off (g:=g.upd r (.slice (some ⟨b,off,none⟩) (es.length+es2.length) cap) (es.length+es2.length) (g.tk r) (g.own r) (g.more b (off+(es.length+es2.length)*GZ))) (U:=AM (AZ h r (.tok GZ (es.length+es2.length)))) (cap:=cap) (es:=es++es2) Fx GM (by rw[Ad];exact J5) (by
             rw[Ad,show new.toArray.toList=new from rfl,p2];exact hrl.mono k2.keeps (fun _ h=>h) (fun _ h=>h.elim)) (fun o ho=>.inr ⟨rfl,by rw[Ad]at ho;exact Nat.add_lt_add_left ho off⟩)
            rw[Ad]at EF;exact⟨_,_,_,_,_,Do,hk,k1,k2,.tok _ r GZ _ _ EF GM (by unfold AM;rw[Bg];simp) (by simp[Gh.upd,t1]) (by simp[Gh.upd]) (fun _=>by simp[Gh.upd])⟩
         ·have gQ:cap<es.length+es2.length:=by omega
          have ha:a=none→cap=0:=by
           rintro rfl
           rcases a3 with ⟨e1,_⟩ | ⟨_,b,_,_,_,e2,_⟩
           ·obtain⟨p1,p2,a',c',p3,p4⟩:=o1;cases p3;rcases p4 with h | ⟨b',h,_⟩
            ·omega
            ·cases h
           ·cases e2
          obtain⟨nc,rest,r1,r2,r3⟩:=HZ hT w (ty:=ty) ht En hz (by rw[←Q0];exact o1) rfl ha ⟨m1,m2,a2,c2,rfl,m4⟩ rfl (by omega) gQ q3 q4;have Fx:=HM w.drew (.cells (olds++news++rest).toArray e (0,0)) (b:=w.heap.size) rfl
          obtain⟨k1,k2⟩:=hI.upd r (.tok GZ (es.length+es2.length)) (.slice (some ⟨w.heap.size,0,none⟩) (es.length+es2.length) nc) (es.length+es2.length) (g.tk r) (some w.heap.size) (g.more w.heap.size ((es.length+es2.length)*GZ))
           (w.drew.alloc (.cells (olds++news++rest).toArray e (0,0))) none
           ⟨rfl,rfl,rfl,by rw[World.size_alloc];exact Nat.le_succ _⟩ (fun k LM _=>by rw[heap_alloc_old _ _ (by exact LM)];rfl) (fun b' e=>by cases e) (fun _ _ h=>.inl h)
           (fun b' o hs=>hs.elim .inl (fun hs=>.inr ⟨by rw[World.size_alloc,hs.1];exact LX _,.inl (by rw[hs.1];exact Ao _)⟩))
           (fun b' o e=>by cases e) (fun b' _ e=>by cases e;exact⟨by rw[World.size_alloc];exact LX _,.inr (Ao _)⟩) (by simp) (fun _=>⟨rfl,by omega,fun e=>(by rw[t1]at e;cases e),fun e=>by omega⟩) (fun hg Jj=>by
            obtain⟨u1,u2,u3,u4⟩:=BU g r (.slice (some ⟨w.heap.size,0,none⟩) (es.length+es2.length) nc) (es.length+es2.length) (g.tk r) (some w.heap.size) (g.more w.heap.size ((es.length+es2.length)*GZ));exact⟨u3.trans t1,u2,_,nc,u1,.inr ⟨r2,w.heap.size,e,_,0,rfl,u4,Fx,by rw[H9,Q0,Be];exact r3,fun o ho=>by
             rcases ho with ho | ⟨_,ho⟩
             ·have:=hI.slt _ _ ho;omega
             ·omega⟩⟩)
          have EF:=BK.slice_row (g:=g.upd r (.slice (some ⟨w.heap.size,0,none⟩) (es.length+es2.length) nc) (es.length+es2.length) (g.tk r) (some w.heap.size) (g.more w.heap.size ((es.length+es2.length)*GZ))) (U:=AM (AZ h r (.tok GZ (es.length+es2.length)))) (cap:=nc) (es:=es++es2) Fx GM (by rw[Ad];exact r2) (by
           rw[Ad,show(olds++news++rest).toArray.toList=olds++news++rest from rfl,HB (by rw[Ad,o1.1,m1,Q0,Fu])];exact hrl.mono k2.keeps (fun _ h=>h) (fun _ h=>h.elim)) (fun o ho=>.inr ⟨rfl,by rw[Ad]at ho;exact ho⟩)
          rw[Ad]at EF;exact⟨_,_,_,_,_,r1,hk,k1,k2,.tok _ r GZ _ _ EF GM (by unfold AM;rw[Bg];simp) (by simp[Gh.upd,t1]) (by simp[Gh.upd]) (fun _=>by simp[Gh.upd])⟩
      ·exact hk.elim
     ·exact hk.elim
    ·rename_i r n;have ho:=hI.objs r;split at hk
     ·rename_i sz es e0;split at hk
      ·rename_i Q0;obtain Q0:=AU Q0;obtain⟨⟨q1,q2,q3,q4⟩,hk⟩:=hk;rw[Q0]at q1;obtain⟨news,n1,n2⟩:=h6 (F2 q1);obtain⟨m1,m2,a2,c2,rfl,m4⟩:=n1;obtain⟨hv,olds,o1,o2⟩:=UZ hI e0 hs q2.symm;have JA:=ho;rw[e0]at ho;obtain⟨t1,l1,al,a3⟩:=ho;have hl:(h r).live:=by rw[e0];trivial
       subst hv;have GM:∀c∈es++es2,c.length=sz:=fun c hc=>(A4.1 hc).elim (al c) (fun h=>(F2 q1 c h).trans Q0.symm);have hrl:=o2.app n2;rw[←Cc]at hrl;obtain⟨a,cap,hρ,bp,ha⟩:∃a cap,g.ρ r=.slice a es.length cap∧es.length≤cap∧(a=none→cap=0):=by
        rcases a3 with ⟨rfl,e2,e3⟩ | ⟨b,cap,E,F9,e1,e2,e3,e4,e5,e6,e7⟩
        ·exact⟨none,0,e2,Ao _,fun _=>rfl⟩
        ·exact⟨_,cap,e1,e3,fun e=>by cases e⟩
       by_cases hm:es2.length=0
       ·obtain rfl:=AK hm;rw[e0]at JA
        obtain⟨k1,k2⟩:=hI.upd r (.arr sz (es++[])) (g.ρ r) (g.ln r) (g.tk r) (g.own r) g.S w none ⟨rfl,rfl,rfl,Ao _⟩ (fun _ _ _=>rfl) (fun b e=>by cases e) (fun _ _ h=>h) (fun _ _ h=>.inl h) (fun b o e=>by cases e)
         (fun b _ e=>⟨(hI.loc r b hl e).1,.inl ⟨hl,e⟩⟩) (by simp) (fun _=>⟨rfl,Ao _,fun _=>rfl,fun _=>rfl⟩) (fun hg Jj=>by
          obtain⟨u1,u2,u3,u4⟩:=BU g r (g.ρ r) (g.ln r) (g.tk r) (g.own r) g.S;rw[CV];exact JA.same Jj (fun i hi=>D4 (by simp) i hi) hg u1 u2 u3 u4 (fun b _ _=>⟨rfl,fun _ h=>h⟩))
        refine⟨g.ρ r,w,_,_,_,?_,hk,k1,k2,?_⟩
        ·rw[hρ];exact IW hT w ht En a a2 es.length cap c2 bp
        ·have:=hs.le k2
         rw[←q2]at this;exact this
       ·by_cases J5:es.length+es2.length≤cap
        ·rcases a3 with ⟨rfl,e2,e3⟩ | ⟨b,OC,E,F9,e1,e2,e3,e4,e5,e6,e7⟩
         ·rw[e2]at hρ;cases hρ;omega
         ·rw[e1]at hρ;simp only[Value.slice.injEq,true_and]at hρ;obtain⟨rfl,rfl⟩:=hρ;rcases m4 with h | ⟨ba,rfl,I3⟩
          ·omega
          ·obtain⟨i,z,i1,i2,i3,i4,i5⟩:=HC hT En;have UD:(es.length+es2.length)*sz≤OC*sz:=Bi _ J5;have PW:news.length=es2.length*sz:=by rw[Q0];exact m1
           have ZL:i.size=sz:=i3.trans Q0.symm;have Do:=Qu (P:=P) t ty e i (hT.slice ht) i1 b es.length OC F9 e4 ba es2.length c2 news (by rw[ZL];exact PW) I3 m2 J5 (by rw[ZL,PW,←Fu,e5];exact UD);rw[ZL]at Do;have GS:∀j u,olds[j]?=some u→w.cell? ⟨b,j,none⟩=some u:=by
            obtain⟨p1,p2,a',c',p3,p4⟩:=o1;rw[e1]at p3;cases p3;intro j u hj;rcases p4 with h | ⟨b',h,h'⟩
            ·rw[h,IP]at p1;rw[AK p1]at hj;simp at hj
            ·cases h
             have:=h' j u hj
             rwa [Addr.add_lit,Be]at this
           obtain⟨p1,p2,p3⟩:=jo e4 e5 e3 J5 PW o1.1 GS;generalize hnewd:F9.toList.take (es.length*sz)++news++F9.toList.drop (es.length*sz+news.length)=new at Do p1 p2 p3;have Fx:=setRow_heap w b F9 new.toArray E (0,0) e4;have cR:=(hI.loc r b hl e2).1
           obtain⟨k1,k2⟩:=hI.upd r (.arr sz (es++es2)) (.slice (some ⟨b,0,none⟩) (es.length+es2.length) OC) (es.length+es2.length) (g.tk r) (g.own r) g.S (w.setRow b new.toArray) (some b)
            ⟨rfl,rfl,rfl,by rw[size_setRow];exact Ao _⟩ (fun k _ DB=>setRow_other w b k _ (fun e=>DB (by rw[e]))) (fun b' e=>by cases e;exact⟨hl,e2⟩) (fun _ _ h=>h) (fun _ _ h=>.inl h)
            (fun b' o e hs=>by cases e;exact absurd hs (e7 o)) (fun b' _ e=>by
             rw[e2]at e;cases e;exact⟨by rw[size_setRow];exact cR,.inl ⟨hl,e2⟩⟩) (by simp) (fun _=>⟨rfl,by omega,fun e=>(by rw[t1]at e;cases e),fun e=>by omega⟩) (fun hg Jj=>by
             obtain⟨u1,u2,u3,u4⟩:=BU g r (.slice (some ⟨b,0,none⟩) (es.length+es2.length) OC) (es.length+es2.length) (g.tk r) (g.own r) g.S;refine⟨u3.trans t1,by rw[u2,Ad],GM,.inr ⟨b,OC,E,_,by rw[u1,Ad],u4.trans e2,by rw[Ad];exact J5,Fx,by rw[H9];exact p1,?_,e7⟩⟩;rw[Ad,show new.toArray.toList=new from rfl,p2];exact hrl.mono Jj (fun _ h=>h) (fun _ h=>h.elim))
           rw[e1];exact⟨_,_,_,_,_,Do,hk,k1,k2,.msl _ r _ _ _ (by unfold AM;rw[Bg];simp) (by simp[Gh.upd,t1]) (by simp[Gh.upd]) (.inr ⟨_,rfl⟩) (fun _=>by simp[Gh.upd])⟩
        ·have gQ:cap<es.length+es2.length:=by omega
         obtain⟨nc,rest,r1,r2,r3⟩:=HZ hT w (ty:=ty) ht En hz (by rw[←Q0];exact o1) hρ ha ⟨m1,m2,a2,c2,rfl,m4⟩ rfl (by omega) gQ q3 q4;have Fx:=HM w.drew (.cells (olds++news++rest).toArray e (0,0)) (b:=w.heap.size) rfl
         obtain⟨k1,k2⟩:=hI.upd r (.arr sz (es++es2)) (.slice (some ⟨w.heap.size,0,none⟩) (es.length+es2.length) nc) (es.length+es2.length) (g.tk r) (some w.heap.size) g.S
          (w.drew.alloc (.cells (olds++news++rest).toArray e (0,0))) none
          ⟨rfl,rfl,rfl,by rw[World.size_alloc];exact Nat.le_succ _⟩ (fun k LM _=>by rw[heap_alloc_old _ _ (by exact LM)];rfl) (fun b' e=>by cases e) (fun _ _ h=>h) (fun _ _ h=>.inl h)
          (fun b' o e=>by cases e) (fun b' _ e=>by cases e;exact⟨by rw[World.size_alloc];exact LX _,.inr (Ao _)⟩) (by simp) (fun _=>⟨rfl,by omega,fun e=>(by rw[t1]at e;cases e),fun e=>by omega⟩) (fun hg Jj=>by
           obtain⟨u1,u2,u3,u4⟩:=BU g r (.slice (some ⟨w.heap.size,0,none⟩) (es.length+es2.length) nc) (es.length+es2.length) (g.tk r) (some w.heap.size) g.S;refine⟨u3.trans t1,by rw[u2,Ad],GM,.inr ⟨w.heap.size,nc,e,_,by rw[u1,Ad],u4,by rw[Ad];exact r2,Fx,by rw[H9,Q0];exact r3,?_,fun o ho=>by have:=hI.slt _ _ ho;omega⟩⟩;rw[Ad,show(olds++news++rest).toArray.toList=olds++news++rest from rfl,HB (by rw[Ad,o1.1,m1,Q0,Fu])];exact hrl.mono Jj (fun _ h=>h) (fun _ h=>h.elim))
         exact⟨_,_,_,_,_,r1,hk,k1,k2,.msl _ r _ _ _ (by unfold AM;rw[Bg];simp) (by simp[Gh.upd,t1]) (by simp[Gh.upd]) (.inr ⟨_,rfl⟩) (fun _=>by simp[Gh.upd])⟩
      ·exact hk.elim
     ·exact hk.elim
    ·exact hk.elim
 ·exact hk.elim
end
end Go.Eng

namespace Go.Eng

section
variable {P:Program}{w0:World}{g0:Gh}{h0 h:Nat→HO}{g:Gh}{w:World}(hI:DF w0 g0 h0 h g w)
include hI

theorem N6{d sz n:Nat}{es:List (List AV)}{a:Option Addr}(hd:h d=.free)(hl:∀c∈es,c.length=sz)(hn:es.length=n)(hr:BK g w Fp (.slice .none es) (.slice a n n)) :
  ∃g',DF w0 g0 h0 (AZ h d (.tok sz n)) g' w∧Le h g w (AZ h d (.tok sz n)) g' w∧BK g' w (AM (AZ h d (.tok sz n))) (.slice (.id d sz) es) (.slice a n n):=by
 obtain⟨k1,k2⟩:=hI.upd d (.tok sz n) (.slice a n n) n true none g.S w none ⟨rfl,rfl,rfl,Ao _⟩ (fun _ _ _=>rfl) (fun b e=>by cases e) (fun _ _ h=>h) (fun _ _ h=>.inl h) (fun b o e=>by cases e) (fun b _ e=>by cases e) (by simp)
  (fun hu=>absurd hd hu) (fun _ _=>by
   obtain⟨u1,u2,u3,u4⟩:=BU g d (.slice a n n) n true none g.S;exact⟨u3,u2,a,n,u1,.inl ⟨rfl,u4⟩⟩)
 exact⟨_,k1,k2,.tok _ d sz es _ (((hr.up (AM h)).le k2)) hl (by unfold AM;rw[Bg];simp) (by simp[Gh.upd]) (by simp[Gh.upd,hn]) (fun _=>by simp[Gh.upd])⟩

theorem Zi{cx:Cx}{d:Option Nat}{x:AV}{vx:Value}{K:HK}(hx:BK g w (AM h) x vx)(hk:OA cx d h x K):∃g' av h',K av h'∧DF w0 g0 h0 h' g' w∧Le h g w h' g' w∧BK g' w (AM h') av vx:=by
 have plain:K x h→∃g' av h',K av h'∧DF w0 g0 h0 h' g' w∧Le h g w h' g' w∧BK g' w (AM h') av vx:=fun hk=>⟨g,x,h,hk,hI,.refl _ _ _,hx⟩;unfold OA at hk;split at hk
 ·exact plain hk
 ·rename_i d;split at hk
  ·rename_i sz _;split at hk
   ·refine⟨g,unT x,h,hk,hI,.refl _ _ _,?_⟩;cases x with
    |slice tk es=>exact(BK.slice_none hx).up _
    |_=>exact hx
   ·split at hk
    ·split at hk
     ·rename_i hd;obtain rfl:=hx.v_eq;obtain⟨g',k1,k2,k3⟩:=N6 hI (sz:=sz) (es:=[]) (a:=none) hd (by simp) rfl (.snil _ _ _);exact⟨g',_,_,hk,k1,k2,k3⟩
     ·exact hk.elim
    ·exact plain hk
  ·split at hk
   ·rename_i sz _;split at hk
    ·split at hk
     ·rename_i hd;obtain rfl:=hx.v_eq
      obtain⟨k1,k2⟩:=hI.upd d (.arr sz []) (.slice none 0 0) 0 true none g.S w none ⟨rfl,rfl,rfl,Ao _⟩ (fun _ _ _=>rfl) (fun b e=>by cases e) (fun _ _ h=>h) (fun _ _ h=>.inl h) (fun b o e=>by cases e) (fun b _ e=>by cases e) (by simp)
       (fun hu=>absurd hd hu) (fun _ _=>by
        obtain⟨u1,u2,u3,u4⟩:=BU g d (.slice none 0 0) 0 true none g.S;exact⟨u3,u2,by simp,.inl ⟨rfl,u1,u4⟩⟩)
      exact⟨_,_,_,hk,k1,k2,.msl _ d 0 none 0 (by unfold AM;rw[Bg];simp) (by simp[Gh.upd]) (AL _) (.inl rfl) (fun _=>by simp[Gh.upd])⟩
     ·exact hk.elim
    ·exact plain hk
   ·exact plain hk

theorem Yt{T:GT}{mku:List Nat}{d:Option Nat}{ty:Nat}{K:HK}(hk:KQ T mku d h ty K):Oo P w0 g0 h0 h g w (Instr.makeMap ty none) K:=by
 unfold KQ at hk;split at hk
 ·exact hk.elim
 ·rename_i d;split at hk
  ·rename_i hd;split at hk
   ·split at hk
    ·rename_i sh _;split at hk
     ·obtain⟨k1,k2⟩:=hI.newOwn hd (.mapU sh []) (.map #[] 0) (.map (some w.heap.size)) 0 false w ⟨rfl,rfl,rfl,rfl⟩ (by simp) (fun hg Jj=>by
       obtain⟨u1,u2,u3,u4⟩:=BU g d (.map (some w.heap.size)) 0 false (some w.heap.size) g.S;exact⟨u3,w.heap.size,#[],0,u4,u1,HM w _ rfl,⟨rfl,by simp,by simp,by simp,by simp,by simp⟩,by simp,fun o ho=>by have:=hI.slt _ _ ho;omega⟩)
      refine⟨_,_,_,_,_,?_,hk,k1,k2,.mref _ d w.heap.size (by unfold AM;rw[Bg];simp) ?_ ?_⟩
      ·simp[Instr.makeMap]
      ·simp[Gh.upd]
      ·simp[Gh.upd]
     ·obtain⟨k1,k2⟩:=hI.newOwn hd (.map sh []) (.map #[] 0) (.map (some w.heap.size)) 0 false w ⟨rfl,rfl,rfl,rfl⟩ (by simp) (fun hg Jj=>by
       obtain⟨u1,u2,u3,u4⟩:=BU g d (.map (some w.heap.size)) 0 false (some w.heap.size) g.S;exact⟨u3,w.heap.size,#[],0,u4,u1,HM w _ rfl,⟨rfl,by simp,by simp,by simp,by simp,by simp⟩,by simp,fun o ho=>by have:=hI.slt _ _ ho;omega⟩)
      refine⟨_,_,_,_,_,?_,hk,k1,k2,.mref _ d w.heap.size (by unfold AM;rw[Bg];simp) ?_ ?_⟩
      ·simp[Instr.makeMap]
      ·simp[Gh.upd]
      ·simp[Gh.upd]
    ·exact hk.elim
   ·exact hk.elim
  ·exact hk.elim

omit hI in
theorem BK.sub{es:List (List AV)}{sz l m:Nat}{x:Value}{a:Option Addr}{n cap:Nat}(hr:BK g w Fp (.slice .none es) x)(hx:x=.slice a n cap)(hl:∀c∈es,c.length=sz)(h1:l≤m)(h2:m≤es.length)(c' : Nat)(hc:m-l≤c')(a' : Option Addr)
  (ha:a'=a.map (·.add (l*sz))∨(m=l∧a'=a)):BK g w Fp (.slice .none ((es.take m).drop l)) (.slice a' (m-l) c'):=by
 subst hx;have CW:((es.take m).drop l).length=m-l:=by rw[B4,AG];omega
 by_cases h0:m-l=0
 ·have:(es.take m).drop l=[]:=AK (by omega)
  rw[this,h0];exact .snil _ _ _
 ·cases hr with
  |snil=>simp at h2;omega
  |slice _ _ b off GZ cap val oG PV Dk EF =>
   have hz:GZ=sz:=by
    have:(0:Nat)<es.length:=by omega
    have h3:=PV 0 es[0] (AE this);rw[←h3];exact hl _ (Am this)
   subst hz;have ha' : a'=some ⟨b,off+l*GZ,none⟩:=by
    rcases ha with h | ⟨h,_⟩
    ·rw[h];simp[Addr.add_lit]
    ·omega
   subst ha';rw[←CW];have EU:∀(i:Nat) (cs:List AV),((es.take m).drop l)[i]?=some cs→es[l+i]?=some cs:=fun i cs h=>by
    rw[DI]at h
    by_cases hi:l+i<m
    ·rwa [B7 hi]at h
    ·rw[A6 (by rw[AG];omega)]at h;cases h
   refine .slice _ _ b (off+l*GZ) GZ c' (fun i j=>val (l+i) j) (by rw[CW];exact hc) (fun i cs h=>PV _ _ (EU i cs h)) (fun i cs j av h1 h2=>?_) (fun i cs j av h1 h2=>EF _ _ _ _ (EU i cs h1) h2)
   have:=Dk _ _ _ _ (EU i cs h1) h2
   rwa [show off+(l+i)*GZ+j=off+l*GZ+i*GZ+j by rw[Fu];omega]at this

omit hI in
theorem KX{t:Nat→AV}{ρ:Operand→Value}(ht:∀x:Operand,BK g w (AM h) (ev t x) (ρ x)){o:Option Operand}{i:Option Int}(hk:Ca t o=some i):o.map ρ=i.map fun n=>.int .i64 n:=by
 cases o with
 |none=>cases hk;rfl
 |some x =>
  unfold Ca at hk;dsimp only at hk;split at hk
  ·rename_i n e;cases hk
   have:=ht x
   rw[e]at this;simp[this.v_eq]
  ·cases hk
omit hI in
theorem T8(b:Bool)(len cap:Nat)(lo hi mx:Option Int)(lm:mx=none∨hi≠none)(h0:0≤lo.getD 0)(h1:lo.getD 0≤hi.getD len)(h2:hi.getD len≤mx.getD cap)(h3:mx.getD cap≤cap) :
  (Instr.sliceBounds b len cap (lo.map fun n=>.int .i64 n) (hi.map fun n=>.int .i64 n) (mx.map fun n=>.int .i64 n)).run P w=.ok ((lo.getD 0).toNat,(hi.getD len).toNat,(mx.getD cap).toNat) w:=by
 have e1:∀n:Int,0≤n→(n.toNat:Int)=n:=fun n hn=>Int.toNat_of_nonneg hn;cases mx with
 |none =>
  cases hi with
  |none =>
   cases lo with
   |none=>simp[Instr.sliceBounds]
   |some l =>
    simp only[CP,ED]at h0 h1 h2;simp[Instr.sliceBounds,run_sliceBound,h0,h1]
  |some hh =>
   simp only[CP,ED]at h1 h2;have r5:0≤hh:=by omega
   cases lo with
   |none=>simp[Instr.sliceBounds,run_sliceBound,r5,h2]
   |some l =>
    simp only[CP]at h0 h1;simp[Instr.sliceBounds,run_sliceBound,h0,h1,h2,r5,e1]
 |some m =>
  cases hi with
  |none=>simp at lm
  |some hh =>
   simp only[CP]at h1 h2 h3;have r5:0≤hh:=by omega
   have br:0≤m:=by omega
   cases lo with
   |none=>simp[Instr.sliceBounds,run_sliceBound,h2,h3,r5,br,e1]
   |some l =>
    simp only[CP]at h0 h1;simp[Instr.sliceBounds,run_sliceBound,h0,h1,h2,h3,r5,br,e1]

omit hI in
theorem FA{T:GT}(hT:Cu P T){ty e k:Nat}(ht:(T ty).d=.slice e)(hk:(T e).size=k+1)(a:Option Addr)(len cap:Nat)(lo hi mx:Option Int)(lm:mx=none∨hi≠none)(h0:0≤lo.getD 0)(h1:lo.getD 0≤hi.getD len)(h2:hi.getD len≤mx.getD cap)(h3:mx.getD cap≤cap) :
  (Instr.sliceAt ty (.slice a len cap) (lo.map fun n=>.int .i64 n) (hi.map fun n=>.int .i64 n) (mx.map fun n=>.int .i64 n)).run P w =
   .ok (.slice (if(mx.getD cap).toNat=(lo.getD 0).toNat then a else a.map (·.add ((lo.getD 0).toNat*(T e).size))) ((hi.getD len).toNat-(lo.getD 0).toNat) ((mx.getD cap).toNat-(lo.getD 0).toNat)) w:=by
 have hu:=hT.slice ht;have hb:=T8 (P:=P) (w:=w) true len cap lo hi mx lm h0 h1 h2 h3;simp only[Instr.sliceAt,Sem.run_bind,run_underlying hu,Result.andThen_ok,Instr.slice,hb,hT.size1 w hk,Sem.run_pure];rw[hk]

theorem DF.moveO(r r2:Nat)(DB:r2≠r)(hf:h r2=.free)(hl:(h r).live){ob:Option Nat}(ho:∀c,ob=some c→g.own r=some c)(o' : HO)(x:Value)(n:Nat)(t:Bool)(hn:o'≠.free)
  (JA:E5 g w (g.upd r2 x n t ob g.S) w→Ej (g.upd r2 x n t ob g.S) w (AM (AZ (AZ h r .dead) r2 o')) r2 o') :
  DF w0 g0 h0 (AZ (AZ h r .dead) r2 o') (g.upd r2 x n t ob g.S) w∧Le h g w (AZ (AZ h r .dead) r2 o') (g.upd r2 x n t ob g.S) w:=by
 have eX:Ke g (g.upd r2 x n t ob g.S) (AM h):=by
  intro i hi;have e:i≠r2:=fun e=>hi (by rw[e];exact hf);refine⟨by simp[Gh.upd,e],by simp[Gh.upd,e],fun _=>by simp[Gh.upd,e],fun _=>by simp[Gh.upd,e]⟩
 have hK:E5 g w (g.upd r2 x n t ob g.S) w:=fun b o hb=>⟨hb,rfl,fun _ _ h=>h⟩;have KN:∀i,AM h i→AM (AZ (AZ h r .dead) r2 o') i:=fun i hi=>D4 hn i (D4 (by simp) i hi);have key:∀i,i≠r2→(AZ (AZ h r .dead) r2 o' i).live→i≠r∧(h i).live:=fun i h2 hl=>by
  rw[B9 _ _ _ _ h2]at hl
  by_cases e:i=r
  ·subst e;rw[Bg]at hl;exact hl.elim
  ·rw[B9 _ _ _ _ e]at hl;exact⟨e,hl⟩
 have own:∀i,i≠r2→(g.upd r2 x n t ob g.S).own i=g.own i:=fun i e=>by simp[Gh.upd,e]
 have TV:(g.upd r2 x n t ob g.S).own r2=ob:=by simp[Gh.upd]
 refine⟨⟨hI.os,hI.tape,hI.output,hI.size,hI.frame,hI.slt,fun i=>?_,fun i j c hi hj ei ej=>?_,fun i c hi ei=>?_,hI.sg,hI.glob.keep hK⟩,eX,KN,hK⟩
 ·by_cases e:i=r2
  ·subst e;rw[Bg];exact JA hK
  ·rw[B9 _ _ _ _ e]
   by_cases e1:i=r
   ·subst e1;rw[Bg];trivial
   ·rw[B9 _ _ _ _ e1];exact(hI.objs i).same hK KN eX (by simp[Gh.upd,e]) (by simp[Gh.upd,e]) (by simp[Gh.upd,e]) (by simp[Gh.upd,e]) (fun b hl hb=>⟨rfl,fun k hk=>hk⟩)
 ·by_cases e1:i=r2<;>by_cases e2:j=r2
  ·exact e1.trans e2.symm
  ·subst e1;rw[TV]at ei;rw[own j e2]at ej;obtain⟨a1,a2⟩:=key j e2 hj;exact absurd (hI.inj j r _ a2 hl ej (ho _ ei)) a1
  ·subst e2;rw[TV]at ej;rw[own i e1]at ei;obtain⟨a1,a2⟩:=key i e1 hi;exact absurd (hI.inj i r _ a2 hl ei (ho _ ej)) a1
  ·rw[own i e1]at ei;rw[own j e2]at ej;exact hI.inj i j c (key i e1 hi).2 (key j e2 hj).2 ei ej
 ·by_cases e1:i=r2
  ·subst e1;rw[TV]at ei;exact hI.loc r _ hl (ho _ ei)
  ·rw[own i e1]at ei;exact hI.loc i c (key i e1 hi).2 ei

theorem YT{cx:Cx}(hT:Cu P cx.T){d:Option Nat}{ty:Nat}{x:AV}{vx:Value}{t:Nat→AV}{ρ:Operand→Value}(ht:∀x:Operand,BK g w (AM h) (ev t x) (ρ x)){lo hi mx:Option Operand}{K:HK}(hx:BK g w (AM h) x vx)
  (hk:K2 cx d h ty x (Ca t lo) hi mx K):Oo P w0 g0 h0 h g w (Instr.sliceAt ty vx (lo.map ρ) (hi.map ρ) (mx.map ρ)) K:=by
 unfold K2 at hk;split at hk
 ·rename_i d HQ e1;rw[KX ht e1];split at hk
  ·rename_i e hs;split at hk
   ·exact hk.elim
   ·rename_i k En;split at hk
    ·rename_i r sz es;split at hk
     ·rename_i GZ n e0;split at hk
      ·rename_i hd;split at hk
       ·rename_i q1 q2;obtain rfl:=AU q1;have q2:=AU q2;obtain⟨⟨rfl,h1,h2⟩,hk⟩:=hk;have hl:(h r).live:=by rw[e0];trivial
        have DB:KJ cx d≠r:=fun e=>by rw[e,e0]at hd;cases hd
        have ho:=hI.objs r;rw[e0]at ho;obtain⟨t1,l1,a,cap,a1,a3⟩:=ho;have hr:=hx.slice_none;cases hx with
        |tok _ _ _ _ _ ZQ RQ hu ht' hn Mt =>
         have hv:=Mt l1.symm;rw[a1]at hv;subst hv;have bp:es.length≤cap:=by rcases a3 with ⟨e1,_⟩ | ⟨e1,_⟩<;>omega
         have Do:=FA (P:=P) (w:=w) hT hs En a es.length cap (some HQ) none none (.inl rfl) h1 h2 (by simp only[ED];omega) (by simp);simp only[CP,ED,AX]at Do;have CW:(es.drop HQ.toNat).length=es.length-HQ.toNat:=B4;have gZ:=BK.sub (c':=cap-HQ.toNat) hr rfl RQ (l:=HQ.toNat) (m:=es.length) (by omega) (Ao _) (by omega) (if cap=HQ.toNat then a else a.map (·.add (HQ.toNat*(cx.T e).size))) (by
          split
          ·exact .inr ⟨by omega,rfl⟩
          ·rw[q2];exact .inl rfl)
         rw[CN]at gZ
         have fin:∀ob:Option Nat,(∀c,ob=some c→g.own r=some c)→(es.length-HQ.toNat=cap-HQ.toNat∧ob=none∨es.length-HQ.toNat≤cap-HQ.toNat∧∃b E vs off,(if cap=HQ.toNat then a else a.map (·.add (HQ.toNat*(cx.T e).size)))=some ⟨b,off,none⟩∧ob=some b∧w.heap[b]?=some (.cells vs E (0,0))∧vs.size=off+(cap-HQ.toNat)*GZ∧∀o,g.S b o→o<off+(es.length-HQ.toNat)*GZ) →
           Oo P w0 g0 h0 h g w (Instr.sliceAt ty (.slice a es.length cap) ((some HQ).map fun n=>.int .i64 n) ((none:Option Operand).map ρ) ((none:Option Operand).map ρ)) K:=fun ob ho oY=>by
          obtain⟨k1,k2⟩:=hI.moveO r (KJ cx d) DB hd hl ho (.tok GZ (es.drop HQ.toNat).length) (.slice (if cap=HQ.toNat then a else a.map (·.add (HQ.toNat*(cx.T e).size))) (es.length-HQ.toNat) (cap-HQ.toNat)) (es.length-HQ.toNat) true (by simp) (fun Jj=>by
           obtain⟨u1,u2,u3,u4⟩:=BU g (KJ cx d) (.slice (if cap=HQ.toNat then a else a.map (·.add (HQ.toNat*(cx.T e).size))) (es.length-HQ.toNat) (cap-HQ.toNat)) (es.length-HQ.toNat) true ob g.S;refine⟨u3,u2.trans CW.symm,_,_,by rw[CW];exact u1,?_⟩;rw[CW,u4];exact oY)
          exact⟨_,w,_,_,_,Do,hk,k1,k2,.tok _ _ _ _ _ (((gZ.mono k2.keeps (fun _ h=>h) (fun _ h=>h.elim))).up _) (fun c hc=>RQ c (Iv hc)) (by unfold AM;rw[Bg];simp) (by simp[Gh.upd]) (by simp[Gh.upd]) (fun _=>by simp[Gh.upd])⟩
         rcases a3 with ⟨e1,e2⟩ | ⟨e1,b,E,vs,off,rfl,e3,e4,e5,e6⟩
         ·exact fin none (fun c h=>by cases h) (.inl ⟨by omega,rfl⟩)
         ·by_cases hc:cap=HQ.toNat
          ·exact fin none (fun c h=>by cases h) (.inl ⟨by omega,rfl⟩)
          ·refine fin (some b) (fun c h=>by cases h;exact e3) (.inr ⟨by omega,b,E,vs,off+HQ.toNat*GZ,?_,rfl,e4,?_,fun o ho=>?_⟩)
           ·rw[Aq hc];simp[Addr.add_lit,q2]
           ·rw[e5,Nat.sub_mul]
            have:=Bi GZ (show HQ.toNat≤cap by omega)
            omega
           ·have:=e6 o ho
            rw[Nat.sub_mul]
            have:=Bi GZ (show HQ.toNat≤es.length by omega)
            omega
       ·exact hk.elim
      ·exact hk.elim
     ·exact hk.elim
    ·exact hk.elim
  ·exact hk.elim
 ·exact hk.elim

omit hI in
theorem SZ{sz:Nat}:∀{es:List (List AV)},(∀cs∈es,cs.length=sz)→∀k,(es.take k).flatten=es.flatten.take (k*sz)
 | [],_,k=>by simp
 |c::es,hl,0=>by simp
 |c::es,hl,k+1=>by
  have h1:=hl c (Ab ..);have h2:c.length≤k*sz+sz:=by omega
  rw[I6,Bu,Bu,SZ (fun x hx=>hl x (Ai _ hx)) k,List.take_append,h1,D8,
   AC h2,show k*sz+sz-sz=k*sz by omega]
omit hI in
theorem CY.takeE{U:Nat→Prop}{sz k:Nat}{es:List (List AV)}{vs:List Value}(hl:∀cs∈es,cs.length=sz)(hk:k≤es.length)(h:CY g w U es.flatten (vs.take (es.length*sz))):CY g w U (es.take k).flatten (vs.take (k*sz)):=by
 have e:vs.take (k*sz)=(vs.take (es.length*sz)).take (k*sz):=by
  rw[KA,M8 (Bi _ hk)]
 rw[SZ hl,e];refine⟨by rw[AG (l:=vs.take (es.length*sz)),h.1,AG],fun x hx=>h.2.1 x (D1 hx),fun i av x q1 q2=>?_⟩;have hi:i<k*sz:=by
  rcases BZ i (k*sz)with q | q
  ·exact q
  ·rw[JR,Aq (by omega)]at q1;cases q1
 rw[JR,Ax hi]at q1 q2;exact h.2.2 i av x q1 q2
theorem mg{cx:Cx}(hT:Cu P cx.T){d:Option Nat}{ty:Nat}{x:AV}{vx:Value}{t:Nat→AV}{ρ:Operand→Value}(ht:∀x:Operand,BK g w (AM h) (ev t x) (ρ x)){hi:Option Operand}{K:HK}(hx:BK g w (AM h) x vx)
  (hk:jg cx d h ty x (Ca t hi) K):Oo P w0 g0 h0 h g w (Instr.sliceAt ty vx none (hi.map ρ) none) K:=by
 unfold jg at hk;split at hk
 ·rename_i d L4 e1;rw[KX ht e1];split at hk
  ·rename_i e hs;split at hk
   ·exact hk.elim
   ·rename_i k En;split at hk
    ·rename_i r n;split at hk
     ·rename_i sz es e0;split at hk
      ·rename_i hd;split at hk
       ·rename_i q1 q3;have q1:=AU q1;obtain⟨⟨rfl,h1,h2⟩,hk⟩:=hk;have hl:(h r).live:=by rw[e0];trivial
        have DB:KJ cx d≠r:=fun e=>by rw[e,e0]at hd;cases hd
        have ho:=hI.objs r;rw[e0]at ho;obtain⟨t1,l1,al,a2⟩:=ho;have CW:(es.take L4.toNat).length=L4.toNat:=by rw[AG];omega
        cases hx with
        |msl _ _ _ a cap hu ht' X7 ha Mt =>
         have hv:=Mt l1.symm;have Nb:es.length≤cap:=by
          rcases a2 with ⟨b1,_,_⟩ | ⟨b,OC,E,vs,b1,_,b3,_⟩
          ·subst b1;exact AL _
          ·rw[b1]at hv;cases hv;exact b3
         have Do:=FA (P:=P) (w:=w) hT hs En a es.length cap none (some L4) none (.inl rfl) (by simp) (by simp only[ED,CP];exact h1) (by simp only[CP,ED];omega) (by simp);have LO:(if cap-(0:Nat)=0 then a else a.map (·.add (0*(cx.T e).size)))=a:=by
          rw[IP];split
          ·rfl
          ·rcases ha with e3 | ⟨b,rfl⟩
           ·cases a with
            |none=>rfl
            |some a=>simp[Addr.add]
           ·rfl
         simp only[CP,ED,AX,Int.toNat_zero,Nat.sub_zero]at Do LO;have key:∃a',(Instr.sliceAt ty (.slice a es.length cap) ((none:Option Int).map fun n=>.int .i64 n) ((some L4).map fun n=>.int .i64 n) ((none:Option Int).map fun n=>.int .i64 n)).run P w=.ok (.slice a' L4.toNat cap) w∧(a'=a):=⟨_,Do,by first | exact LO | (split<;>first | rfl | exact LO | (simp_all))⟩
         obtain⟨a',Do,rfl⟩:=key;have hval:BK (g.upd (KJ cx d) (.slice a' L4.toNat cap) L4.toNat true (g.own r) g.S) w (AM (AZ (AZ h r .dead) (KJ cx d) (.arr sz (es.take L4.toNat)))) (.msl (KJ cx d) L4.toNat) (.slice a' L4.toNat cap) :=
          .msl _ _ _ _ _ (by unfold AM;rw[Bg];simp) (by simp[Gh.upd]) (by simp[Gh.upd]) (ha.elim (fun e=>.inl (by omega)) .inr) (fun _=>by simp[Gh.upd])
         obtain⟨k1,k2⟩:=hI.moveO r (KJ cx d) DB hd hl (ob:=g.own r) (fun c h=>h) (.arr sz (es.take L4.toNat)) (.slice a' L4.toNat cap) L4.toNat true (by simp) (fun Jj=>by
          obtain⟨u1,u2,u3,u4⟩:=BU g (KJ cx d) (.slice a' L4.toNat cap) L4.toNat true (g.own r) g.S;refine⟨u3,u2.trans CW.symm,fun c hc=>al c (D1 hc),?_⟩;rcases a2 with ⟨b1,b2,b3⟩ | ⟨b,OC,E,vs,b1,b2,b3,b4,b5,b6,b7⟩
          ·subst b1;rw[b2]at hv;cases hv;have h0:L4.toNat=0:=by simp only[Ah]at h2;omega
           exact .inl ⟨List.take_nil,by rw[u1,h0],u4.trans b3⟩
          ·rw[b1]at hv;cases hv;refine .inr ⟨b,cap,E,vs,by rw[CW];exact u1,u4.trans b2,by rw[CW];omega,b4,b5,?_,b7⟩;rw[CW];exact(CY.takeE al (by omega) b6).mono Jj (fun _ h=>h) (fun _ h=>h.elim))
         exact⟨_,w,_,_,_,Do,hk,k1,k2,hval⟩
       ·exact hk.elim
      ·exact hk.elim
     ·exact hk.elim
    ·exact hk.elim
  ·exact hk.elim
 ·exact hk.elim

theorem VN{cx:Cx}(hT:Cu P cx.T){d:Option Nat}{ty:Nat}{x:AV}{vx:Value}{t:Nat→AV}{ρ:Operand→Value}(ht:∀x:Operand,BK g w (AM h) (ev t x) (ρ x)){lo hi mx:Option Operand}{K:HK}(hx:BK g w (AM h) x vx)
  (hk:GH cx d h ty x (Ca t lo) (Ca t hi) (Ca t mx) K):Oo P w0 g0 h0 h g w (Instr.sliceAt ty vx (lo.map ρ) (hi.map ρ) (mx.map ρ)) K:=by
 unfold GH at hk;split at hk
 ·rename_i HQ L4 np e1 e2 e3;rw[KX ht e1,KX ht e2,KX ht e3];split at hk
  ·rename_i hs;split at hk
   ·rename_i s;obtain⟨⟨h1,h2,h3⟩,hk⟩:=hk;obtain rfl:=hx.v_eq;have hb:=T8 (P:=P) (w:=w) false s.size s.size HQ L4 none (.inl rfl) h1 h2 (by simpa using h3) (by simp);refine(B2.val (x:=.string (s.extract (HQ.getD 0).toNat (L4.getD s.size).toNat)) ?_ hk).does hI;simp only[Instr.sliceAt,Sem.run_bind,run_underlying (hT.string hs),Result.andThen_ok,Instr.slice];simp only[Option.map_none,Ou,Df,Gc]at hb⊢;simp only[Sem.run_bind,hb,Result.andThen_ok,Sem.run_pure]
   ·exact hk.elim
  ·rename_i e hs;split at hk
   ·exact hk.elim
   ·rename_i k En;split at hk
    ·rename_i tk es;have hr:=hx.slice_none;obtain⟨a,cap,hv,Nb⟩:∃a cap,vx=.slice a es.length cap∧es.length≤cap:=by
      cases hr with
      |snil _ a cap=>exact⟨a,cap,rfl,AL _⟩
      |slice _ _ b off sz cap val hc=>exact⟨_,cap,rfl,hc⟩
     subst hv;split at hk
     ·obtain⟨⟨h1,h2,h3⟩,hl,hk⟩:=hk;have Do:=FA (P:=P) (w:=w) hT hs En a es.length cap HQ L4 none (.inl rfl) h1 h2 (by simp only[ED];omega) (by simp);refine B2.does hI ⟨_,_,Do,hk,(BK.sub (c':=cap-(HQ.getD 0).toNat) hr rfl hl (l:=(HQ.getD 0).toNat) (m:=(L4.getD es.length).toNat) (by omega) (by omega) (by simp;omega) _ ?_).up _⟩;split
      ·rename_i e;simp only[ED,AX]at e;exact .inr ⟨by omega,rfl⟩
      ·exact .inl rfl
     ·rename_i m;split at hk
      ·rename_i d hh;split at hk
       ·obtain⟨⟨h1,h2,rfl,h3⟩,hl,hk⟩:=hk;have Do:=FA (P:=P) (w:=w) hT hs En a es.length cap HQ (some m) (some m) (.inr (by simp)) h1 h2 (by simp) (by simp only[CP];omega);simp only[CP]at Do;have CW:((es.take m.toNat).drop (HQ.getD 0).toNat).length=m.toNat-(HQ.getD 0).toNat:=by rw[B4,AG];omega
        refine B2.does hI ⟨_,_,Do,hk,.full _ _ _ _ ((BK.sub (c':=m.toNat-(HQ.getD 0).toNat) hr rfl hl (l:=(HQ.getD 0).toNat) (m:=m.toNat) (by omega) (by omega) (by omega) _ ?_).up _) (fun c hc=>hl c (D1 (Iv hc))) ⟨_,by rw[CW]⟩⟩;split
        ·rename_i e;exact .inr ⟨e,rfl⟩
        ·exact .inl rfl
       split at hk
       ·rename_i hd;obtain⟨⟨h1,h2,rfl,h3⟩,hl,hk⟩:=hk;have Do:=FA (P:=P) (w:=w) hT hs En a es.length cap HQ (some m) (some m) (.inr (by simp)) h1 h2 (by simp) (by simp only[CP];omega);simp only[CP]at Do
        obtain⟨g',k1,k2,k3⟩:=N6 hI (sz:=(cx.T e).size) (n:=m.toNat-(HQ.getD 0).toNat) hd (es:=(es.take m.toNat).drop (HQ.getD 0).toNat) (fun c hc=>hl c (D1 (Iv hc))) (by rw[B4,AG];omega)
         (BK.sub (c':=m.toNat-(HQ.getD 0).toNat) hr rfl hl (l:=(HQ.getD 0).toNat) (m:=m.toNat) (by omega) (by omega) (by omega) (if m.toNat=(HQ.getD 0).toNat then a else a.map (·.add ((HQ.getD 0).toNat*(cx.T e).size))) (by
          split
          ·rename_i e;exact .inr ⟨e,rfl⟩
          ·exact .inl rfl))
        exact⟨_,w,g',_,_,Do,hk,k1,k2,k3⟩
       ·exact hk.elim
      ·exact hk.elim
    ·obtain⟨⟨h1,h2,h3⟩,h4,hk⟩:=hk;obtain rfl:=hx.v_eq;have Do:=FA (P:=P) (w:=w) hT hs En none 0 0 HQ L4 np h4 (by omega) (by simp only[IM]at *;omega) (by simp only[IM]at *;omega) (by simp only[IM]at *;omega);refine B2.does hI (B2.val (x:=.slice none 0 0) ?_ hk);rw[Do];simp only[h1,IM,h2,h3];simp
    ·rename_i r n;split at hk
     ·rename_i sz es e0;split at hk
      ·rename_i Q0;obtain rfl:=AU Q0;obtain⟨⟨h1,h2,h3,h4,h5⟩,hk⟩:=hk;have ho:=hI.objs r;rw[e0]at ho;obtain⟨t1,l1,al,a3⟩:=ho;have hl:(h r).live:=by rw[e0];trivial
       have si:np=none∨L4≠none:=h5.imp id (fun q=>q.2);cases hx with
       |msl _ _ _ a cap hu ht' hn ha Mt =>
        have hv:=Mt (h1.trans l1.symm);subst h1;have lm:∀c:Nat,es.length≤c→L4.getD es.length≤np.getD c∧np.getD c≤c:=fun c hc=>by
         rcases h5 with h5 | ⟨h5,DB⟩
         ·rw[h5];simp only[ED];omega
         ·obtain⟨m,hm⟩:=Option.ne_none_iff_exists'.1 DB;rw[h5,hm];rw[hm]at h3 h4;simp only[CP]at h3 h4⊢;omega
        rcases a3 with ⟨rfl,q2,q3⟩ | ⟨b,OC,E,vs,q1,q2,q3,q4,q5,q6,q7⟩
        ·rw[q2]at hv;cases hv;have Do:=FA (P:=P) (w:=w) hT hs En none 0 0 HQ L4 np si h2 h3 (lm 0 (by simp)).1 (lm 0 (by simp)).2
         obtain⟨k1,k2⟩:=hI.upd r .dead (g.ρ r) (g.ln r) (g.tk r) (g.own r) g.S w none ⟨rfl,rfl,rfl,Ao _⟩ (fun _ _ _=>rfl) (fun b e=>by cases e) (fun _ _ h=>h) (fun _ _ h=>.inl h) (fun b o e=>by cases e) (fun b hh _=>by cases hh) (by simp)
          (fun _=>⟨rfl,Ao _,fun _=>rfl,fun _=>rfl⟩) (fun _ _=>trivial)
         refine⟨_,w,_,_,_,Do,hk,k1,k2,?_⟩;have z1:((HQ.getD 0).toNat)=0:=by simp only[Ah,IM]at h3 h4;omega
         have z2:((L4.getD (([]:List (List AV)).length:Int)).toNat)=0:=by simp only[Ah,IM]at h3 h4⊢;omega
         simp only[List.take_nil,List.drop_nil];have z3:((L4.getD ((0:Nat):Int)).toNat)=0:=z2;rw[z1,z3];exact .snil _ _ _
        ·rw[q1]at hv;cases hv;have Do:=FA (P:=P) (w:=w) hT hs En (some ⟨b,0,none⟩) es.length cap HQ L4 np si h2 h3 (lm _ q3).1 (lm _ q3).2;have cR:=(hI.loc r b hl q2).1
         obtain⟨k1,k2⟩:=hI.upd r .dead (g.ρ r) (g.ln r) (g.tk r) (g.own r) (g.more b (es.length*(cx.T e).size)) w none ⟨rfl,rfl,rfl,Ao _⟩ (fun _ _ _=>rfl) (fun b e=>by cases e) (fun _ _ h=>.inl h)
          (fun b' o hs=>hs.elim .inl (fun hs=>.inr ⟨by rw[hs.1];exact cR,.inr ⟨hl,by rw[hs.1];exact q2⟩⟩)) (fun b o e=>by cases e) (fun b hh _=>by cases hh) (by simp)
          (fun _=>⟨rfl,Ao _,fun _=>rfl,fun _=>rfl⟩) (fun _ _=>trivial)
         have EF:=BK.slice_row (g:=g.upd r (g.ρ r) (g.ln r) (g.tk r) (g.own r) (g.more b (es.length*(cx.T e).size))) (U:=Fp) q4 al q3 (q6.mono k2.keeps (fun _ h=>h) (fun _ h=>h.elim)) (fun o ho=>.inr ⟨rfl,ho⟩);have AbL:=lm _ q3;refine⟨_,w,_,_,_,Do,hk,k1,k2,(BK.sub (c':=(np.getD cap).toNat-(HQ.getD 0).toNat) EF rfl al (l:=(HQ.getD 0).toNat) (m:=(L4.getD es.length).toNat) (by omega) (by omega) (by omega) _ ?_).up _⟩;split
         ·rename_i e;exact .inr ⟨by omega,rfl⟩
         ·exact .inl rfl
      ·exact hk.elim
     ·exact hk.elim
    ·exact hk.elim
  ·exact hk.elim
 ·exact hk.elim

theorem UL{cx:Cx}(hT:Cu P cx.T){d:Option Nat}{ty:Nat}{n c:AV}{vn vc:Value}{K:HK}(hn:BK g w (AM h) n vn)(hc:BK g w (AM h) c vc)(hk:JE cx d h ty n c K) :
  Oo P w0 g0 h0 h g w (Instr.makeSlice ty vn vc) K:=by
 unfold JE at hk;split at hk
 ·rename_i e n c hs;obtain rfl:=hn.v_eq;obtain rfl:=hc.v_eq;split at hk
  ·rename_i UE;split at hk
   ·rename_i UF;have UF:=AU UF;split at hk
    ·exact hk.elim
    ·rename_i k En;obtain⟨⟨h1,h2,h3,h4⟩,hk⟩:=hk;obtain⟨i,z,i1,i2,i3,i4,i5⟩:=HC hT En;have sF:(cx.T e).zc≠[]:=fun e0=>by rw[e0]at UF;rw[En]at UF;cases UF
     have wn:IntKind.i64.wrap n=n:=M6 ⟨by omega,by omega⟩;have wc:IntKind.i64.wrap c=c:=M6 ⟨by omega,by omega⟩;have GM:∀l:List AV,(∀a∈l,one a=true)→If l=true:=by
      intro l
      induction l with
      |nil=>intro _;rfl
      |cons a l ih=>intro h;simp[If,h a (List.mem_cons_self ..),ih (fun b hb=>h b (List.mem_cons_of_mem _ hb))]
     have xv:((Array.range (c.toNat*(cx.T e).size)).map fun k=>z.cells[k % z.cells.size]!).toList=(List.replicate c.toNat (cx.T e).zc).flatten:=by
      rw[Ka c.toNat _ sF,UF,i5];have e6:z.cells.size=(cx.T e).size:=by rw[←UF,i5];simp
      simp[e6,Array.getElem!_eq_getD]
     have hzs:(cx.T e).zc.length=(cx.T e).size:=UF;have m5:∀c'∈List.replicate c.toNat (cx.T e).zc,c'.length=(cx.T e).size:=fun c' hc=>by rw[Em hc];exact UF
     have xb : ∀c'∈List.replicate n.toNat ((cx.T e).zc.map AV.v),c'.length=(cx.T e).size:=fun c' hc=>by rw[Em hc,Bs];exact UF
     have xc:∀c'∈List.replicate n.toNat (cx.T e).zc,c'.length=(cx.T e).size:=fun c' hc=>by rw[Em hc];exact UF
     obtain⟨g',av,h',q1,q2,q3,q4⟩:=J8 hI hk (vs:=(Array.range (c.toNat*(cx.T e).size)).map fun k=>z.cells[k % z.cells.size]!) (cap:=c.toNat) e xb (by rw[Gd];omega) (by simp) (by
      rw[xv,Gd];have e1:(List.replicate n.toNat ((cx.T e).zc.map AV.v)).flatten=(List.replicate n.toNat (cx.T e).zc).flatten.map AV.v:=by
       rw[List.map_flatten,List.map_replicate]
      have e2:(List.replicate c.toNat (cx.T e).zc).flatten.take (n.toNat*(cx.T e).size)=(List.replicate n.toNat (cx.T e).zc).flatten:=by
       obtain⟨m,hm⟩:∃m,c.toNat=n.toNat+m:=⟨c.toNat-n.toNat,by omega⟩;rw[hm,←List.replicate_append_replicate,Cc,HB (by rw[EE xc,Gd])]
      rw[e1,e2];refine CY.vals (GM _ (fun a ha=>?_));obtain⟨x,hx,rfl⟩:=Ar.1 ha;obtain⟨l,hl,hx⟩:=Ff.1 hx;rw[Em hl]at hx;exact MG UE _ (Ar.2 ⟨x,hx,rfl⟩)) w ⟨rfl,rfl,rfl,rfl⟩
     rw[Gd]at q4;refine⟨_,_,g',av,h',?_,q1,q2,q3,q4⟩;have wQ:¬((cx.T e).bytes*c>2 ^ 48):=by rw[Int.mul_comm];omega
     have gL:((decide (c<0)||decide (((cx.T e).bytes:Int)*c>2 ^ 48))||decide (n<0)||decide (n>c))=false:=by
      simp only[Bool.or_eq_false_iff,FJ];exact⟨⟨⟨by omega,wQ⟩,by omega⟩,by omega⟩
     simp only[Instr.makeSlice,Sem.run_bind,run_underlying (hT.slice hs),Result.andThen_ok,asInt,asIntOf,Sem.run_pure,typeInfo,run_program,i1,i4,wn,wc,gL,Df,Gc,run_askRoom,hT.size1 w En]
     by_cases hz:c.toNat*(k+1)=0
     ·have ld:c.toNat=0:=by
       rcases Nat.mul_eq_zero.1 hz with h | h
       ·exact h
       ·cases h
      rw[ld];simp only[IP,L5];simp only[show Array.range 0=#[]from rfl,Array.map_empty];simp[newRow]
     ·simp only[Aq hz,Sem.run_bind,zeroValue,typeInfo,run_program,i1,i2,Result.andThen_ok,Sem.run_pure];rw[En];simp[newRow]
   ·exact hk.elim
  ·exact hk.elim
 ·exact hk.elim
end
end Go.Eng
