/- Lemmas for the claims of this seat, without a condition: part 9 (EngR, EngS). -/
import Derived.Test.YtddfphmpfnmknaaGreatDoorGA08
namespace Go.Eng
variable {ρ:Operand→Value}{es:List (List AV)}{hi:Option Operand}{vx:Value}{K:HK}{E:TypeId}{cx:Cx}{x:AV}{a:Option Addr}{olds:List Value}{T:G4}
theorem CU.app{g:Gh}{w:World}{U:Nat→Prop}{VP bs:List AV}{xs ys:List Value}(h:CU g w U VP xs)(k:CU g w U bs ys):CU g w U (VP++bs) (xs++ys):=by
 refine⟨by simp[h.1,k.1],fun x hx=>(AY.1 hx).elim (h.2.1 x) (k.2.1 x),fun i av x h1 h2=>?_⟩
 by_cases hi:i<VP.length
 ·rw[A2 hi]at h1;rw[A2 (by rw[h.1];exact hi)]at h2;exact h.2.2 i av x h1 h2
 ·rw[AR ch]at h1;rw[AR (by rw[h.1];omega),h.1]at h2;exact k.2.2 _ av x h1 h2
section
variable {P:Program}{w0:World}{g0:Gh}{h0 h:Nat→HO}{g:Gh}{w:World}(hI:DV w0 g0 h0 h g w)
include hI
omit hI in
theorem RQ(t ty e:TypeId)(i:TypeInfo)(ht:P.underlying t=some (.slice e))(hi:P.info? e=some i)(g Pe de:Nat)(F6:Array Value)(hg:w.heap[g]?=some (.cells F6 E (0,0)))(a:Addr)(m c:Nat)(news:List Value)(hl:news.length=m*i.size)(JJ:∀j u,news[j]?=some u→w.cell? (a.add j)=some u)(h1:∀u∈news,u.oneCell'=true)(KK:Pe+m≤de)(cg:Pe*i.size+news.length≤F6.size) :
  (Builtin.append_ #[t,t] ty #[.slice (some ⟨g,0,none⟩) Pe de,.slice (some a) m c]).run P w =
   .ok (.slice (some ⟨g,0,none⟩) (Pe+m) de) (w.setRow g (F6.toList.take (Pe*i.size)++news++F6.toList.drop (Pe*i.size+news.length)).toArray):=by
 have hf:=run_firstCells_some (P:=P) w i.size m a m c news hl JJ;have JU:=run_storeCells_at P g (Pe*i.size) E news 0 F6 w hg (by simpa using cg) h1;simp only[GV]at JU;simp[Builtin.append_,run_underlying ht,sizeOf,typeInfo,hi,Builtin.lenOf,KK,hf,Addr.add_lit,JU]
omit hI in
theorem Vn(t ty e:TypeId)(i:TypeInfo)(ht:P.underlying t=some (.slice e))(hi:P.info? e=some i)(g off Pe de:Nat)(F6:Array Value)(hg:w.heap[g]?=some (.cells F6 E (0,0)))(a:Addr)(m c:Nat)(news:List Value)(hl:news.length=m*i.size)(JJ:∀j u,news[j]?=some u→w.cell? (a.add j)=some u)(h1:∀u∈news,u.oneCell'=true)(KK:Pe+m≤de)(cg:off+Pe*i.size+news.length≤F6.size) :
  (Builtin.append_ #[t,t] ty #[.slice (some ⟨g,off,none⟩) Pe de,.slice (some a) m c]).run P w =
   .ok (.slice (some ⟨g,off,none⟩) (Pe+m) de) (w.setRow g (F6.toList.take (off+Pe*i.size)++news++F6.toList.drop (off+Pe*i.size+news.length)).toArray):=by
 have hf:=run_firstCells_some (P:=P) w i.size m a m c news hl JJ;have JU:=run_storeCells_at P g (off+Pe*i.size) E news 0 F6 w hg (by simpa using cg) h1;simp only[GV]at JU;simp[Builtin.append_,run_underlying ht,sizeOf,typeInfo,hi,Builtin.lenOf,KK,hf,Addr.add_lit,JU]
omit hI in
theorem pE{b off n m sz cap:Nat}{F6:Array Value}{news:List Value}(hb:w.heap[b]?=some (.cells F6 E (0,0)))(ZE:F6.size=off+cap*sz)(hn:n≤cap)(hm:n+m≤cap)(hnl:news.length=m*sz)(hol:olds.length=n*sz)(Hi:∀j u,olds[j]?=some u→w.cell? ⟨b,off+j,none⟩=some u) :
  (F6.toList.take (off+n*sz)++news++F6.toList.drop (off+n*sz+news.length)).length=off+cap*sz ∧
  ((F6.toList.take (off+n*sz)++news++F6.toList.drop (off+n*sz+news.length)).drop off).take ((n+m)*sz)=olds++news ∧
  ∀o,o<off+n*sz→(F6.toList.take (off+n*sz)++news++F6.toList.drop (off+n*sz+news.length)).toArray[o]?=F6[o]?:=by
 have hcl:F6.toList.length=off+cap*sz:=by rw[B9];exact ZE
 have Ru:(n+m)*sz≤cap*sz:=Bk _ hm;have kM:n*sz≤cap*sz:=Bk _ hn;rw[Fj]at Ru;have Lu:(F6.toList.take (off+n*sz)).drop off=olds:=by
  apply Dq;intro j
  by_cases hj:j<n*sz
  ·rw[DN,BQ ch];have hx:olds[j]?=some olds[j]:=AE ch
   have:=Hi j _ hx
   rw[F8 hb]at this;rw[AQ,this,hx]
  ·rw[A6 (by rw[B3,AB];omega),A6 ch]
 have sr:(F6.toList.take (off+n*sz)).length=off+n*sz:=by rw[AB];omega
 refine⟨?_,?_,fun o ho=>?_⟩
 ·rw[Ad,Ad,sr,B3,hcl,hnl];omega
 ·rw[Bx,List.drop_append_of_le_length (by rw[sr];omega),Lu,←Bx,Ia (by rw[Ad,hol,hnl,Fj])]
 ·rw[Gz,Bx,A2 (by rw[sr];exact ho),BQ ho,AQ]
omit hI in
theorem mj{b n m sz cap:Nat}{F6:Array Value}{news:List Value}(hb:w.heap[b]?=some (.cells F6 E (0,0)))(ZE:F6.size=cap*sz)(hn:n≤cap)(hm:n+m≤cap)(hnl:news.length=m*sz)(hol:olds.length=n*sz)(Hi:∀j u,olds[j]?=some u→w.cell? ⟨b,j,none⟩=some u) :
  (F6.toList.take (n*sz)++news++F6.toList.drop (n*sz+news.length)).length=cap*sz ∧
  (F6.toList.take (n*sz)++news++F6.toList.drop (n*sz+news.length)).take ((n+m)*sz)=olds++news ∧
  ∀o,o<n*sz→(F6.toList.take (n*sz)++news++F6.toList.drop (n*sz+news.length)).toArray[o]?=F6[o]?:=by
 have hcl:F6.toList.length=cap*sz:=by rw[B9];exact ZE
 have Ru:(n+m)*sz≤cap*sz:=Bk _ hm;have kM:n*sz≤cap*sz:=Bk _ hn;rw[Fj]at Ru;have Lu:F6.toList.take (n*sz)=olds:=by
  apply Dq;intro j
  by_cases hj:j<n*sz
  ·rw[BQ hj];have hx:olds[j]?=some olds[j]:=AE ch
   have:=Hi j _ hx
   rw[F8 hb]at this;rw[AQ,this,hx]
  ·rw[A6 (by rw[AB];omega),A6 ch]
 have sr:(F6.toList.take (n*sz)).length=n*sz:=by rw[AB];omega
 refine⟨?_,?_,fun o ho=>?_⟩
 ·rw[Ad,Ad,sr,B3,hcl,hnl];omega
 ·rw[Lu,Ia (by rw[Ad,hol,hnl,Fj])]
 ·rw[Gz,Bx,A2 (by rw[sr];exact ho),BQ ho,AQ]
theorem Wp{r n sz:Nat}{x:Value}(he:h r=.arr sz es)(hx:BP g w (AT h) (.msl r n) x)(hn:n=es.length) :
  x=g.ρ r∧∃news,Pv w x es.length sz news∧CU g w FQ es.flatten news:=by
 have ho:=hI.objs r;rw[he]at ho;obtain⟨t1,l1,al,a1⟩:=ho;cases hx with
 |msl _ _ _ a cap hu ht ZP ha MF =>
  have e:=MF (hn.trans l1.symm);refine⟨e,?_⟩;rw[e];rcases a1 with ⟨rfl,e2,e3⟩ | ⟨b,LR,E,vs,e1,e2,e3,e4,e5,e6,e7⟩
  ·exact⟨[],⟨by simp,by simp,none,0,e2,.inl rfl⟩,by simp,by simp,fun i av x h1 h2=>by simp at h2⟩
  ·have ZE:vs.toList.length=LR*sz:=by rw[B9];exact e5
   have HD:es.length*sz≤vs.toList.length:=by rw[ZE];exact Bk _ e3
   refine⟨vs.toList.take (es.length*sz),⟨by rw[AB,Nat.min_eq_left HD],e6.2.1,_,_,e1,.inr ⟨_,rfl,fun j u hj=>?_⟩⟩,e6⟩;rw[Addr.add_lit,Bi,F8 e4];have DJ:=(Aw.1 hj).1;rw[AB]at DJ;rw[BQ ch,AQ]at hj;exact hj
theorem fV{sz:Nat}{K:List (List AV)→Prop}(hx:BP g w (AT h) x vx)(hk:LZ h x K) :
  ∃es,K es∧((∀c∈es,c.length=sz)→∃news,Pv w vx es.length sz news∧CU g w FQ es.flatten news):=by
 unfold LZ at hk;split at hk
 ·exact⟨_,hk,fun hl=>Pv.of_rep hx.slice_none hl⟩
 ·obtain rfl:=hx.v_eq;exact⟨[],hk,fun _=>⟨[],⟨by simp,by simp,none,0,rfl,.inl rfl⟩,by simp,by simp,fun i av x h1 h2=>by simp at h2⟩⟩
 ·rename_i r n;split at hk
  ·rename_i G2 es e;obtain⟨hn,hk⟩:=hk;refine⟨es,hk,fun hl=>?_⟩;obtain⟨_,news,n1,n2⟩:=Wp hI e hx hn;refine⟨news,?_,n2⟩
   have:news.length=es.length*sz:=by rw[n2.1,Dt hl]
   exact⟨this,n1.2.1,n1.2.2⟩
  ·exact hk.elim
 ·exact hk.elim
theorem hJ{d:Option Nat}{sz:Nat}(hk:E0 cx d h sz [] K) :
  ∃g' av h',K av h'∧DV w0 g0 h0 h' g' w∧Le h g w h' g' w∧BP g' w (AT h') av (.slice none 0 0):=by
 have base:∀(d:Nat) (o' : HO),h d=.free→o'≠.free→(∀g' : Gh,g'.ρ d=.slice none 0 0→g'.ln d=0→g'.tk d=true→g'.own d=none→Ez g' w (AT (A0 h d o')) d o') →
   DV w0 g0 h0 (A0 h d o') (g.upd d (.slice none 0 0) 0 true none g.S) w∧Le h g w (A0 h d o') (g.upd d (.slice none 0 0) 0 true none g.S) w:=by
  intro d o' hd DM Kg;refine hI.upd d o' _ _ _ _ _ w none ⟨rfl,rfl,rfl,Ao _⟩ (fun _ _ _=>rfl) (fun b e=>by cases e) (fun _ _ h=>h) (fun _ _ h=>.inl h) (fun b o e=>by cases e) (fun b _ e=>by cases e) DM (fun hu=>absurd hd hu) (fun _ _=>?_);obtain⟨u1,u2,u3,u4⟩:=BG g d (.slice none 0 0) 0 true none g.S;exact Kg _ u1 u2 u3 u4
 unfold E0 at hk;split at hk
 ·exact hk.elim
 ·rename_i d;generalize Lr cx d=d1 at hk;split at hk
  ·rename_i hd;split at hk
   ·obtain⟨k1,k2⟩:=base d1 (.arr sz []) hd B0 (fun g' u1 u2 u3 u4=>⟨u3,u2,by simp,.inl ⟨rfl,u1,u4⟩⟩);exact⟨_,_,_,hk,k1,k2,.msl _ d1 0 none 0 (by unfold AT;rw[Bg];simp) (by simp[Gh.upd]) (AA _) (.inl rfl) (fun _=>by simp[Gh.upd])⟩
   ·obtain⟨k1,k2⟩:=base d1 (.tok sz 0) hd B0 (fun g' u1 u2 u3 u4=>⟨u3,u2,none,0,u1,.inl ⟨rfl,u4⟩⟩);exact⟨_,_,_,hk,k1,k2,.tok _ d1 sz [] _ (.snil _ _ _) B0 (by unfold AT;rw[Bg];simp) (by simp[Gh.upd]) (AA _) (fun _=>by simp[Gh.upd])⟩
  ·exact hk.elim
theorem bI(hT:CL P cx.T){d:Option Nat}{t ty:Nat}{s:AV}{vs:Value}(hs:BP g w (AT h) s vs)(hx:BP g w (AT h) x vx)(hk:I4 cx d h t s x K) :
  Po P w0 g0 h0 h g w (Builtin.append_ #[t,t] ty #[vs,vx]) K:=by
 unfold I4 at hk;split at hk
 ·rename_i e ht;split at hk
  ·exact hk.elim
  ·rename_i hz;have hz:=AM hz;split at hk
   ·exact hk.elim
   ·rename_i k Ev;have h5:=fV hI (sz:=(cx.T e).size) hx hk
    clear hk
    obtain⟨es2,hk,h6⟩:=h5;split at hk
    ·obtain⟨⟨q1,q2,q3⟩,hk⟩:=hk;obtain rfl:=hs.v_eq;obtain⟨news,n1,n2⟩:=h6 (Gn q1);obtain⟨m1,m2,a,c,rfl,m4⟩:=n1
     by_cases hm:es2.length=0
     ·obtain rfl:=AK hm;obtain⟨g',av,h',k1,k2,k3,k4⟩:=hJ hI hk;exact⟨_,w,g',av,h',JD hT w ht Ev none a 0 0 c (Ao _),k1,k2,k3,k4⟩
     ·obtain⟨nc,rest,r1,r2,r3⟩:=IE hT w (ty:=ty) ht Ev hz (olds:=[]) (a:=none) (n:=0) (cap:=0) ⟨by simp,by simp,none,0,rfl,.inl rfl⟩ rfl (fun _=>rfl) ⟨m1,m2,a,c,rfl,m4⟩ rfl ch ch (by rw[Bi];exact q2) ch;obtain⟨g',av,h',k1,k2,k3,k4⟩:=KN hI hk (vs:=([]++news++rest).toArray) (cap:=nc) e (Gn q1) ch (by simpa using r3) (by
       rw[Fi,show(news++rest).toArray.toList=news++rest from rfl,Ia m1];exact n2) w.drew ⟨rfl,rfl,rfl,rfl⟩
      rw[Bi]at r1;exact⟨_,_,g',av,h',r1,k1,k2,k3,k4⟩
    ·rename_i G2 es;split at hk
     ·rename_i Sy;obtain Sy:=AM Sy;obtain⟨⟨q1,q2,q3,q4⟩,hk⟩:=hk;obtain⟨news,n1,n2⟩:=h6 (Gn q1);obtain⟨m1,m2,a2,c2,rfl,m4⟩:=n1;cases hs with
      |full _ _ _ _ hr YQ MF =>
       obtain⟨a,rfl⟩:=MF;have Gr:∀c∈es++es2,c.length=(cx.T e).size:=fun c hc=>(AY.1 hc).elim (fun h=>(YQ c h).trans Sy) (Gn q1 c);obtain⟨olds,o1,o2⟩:=Pv.of_rep hr (sz:=(cx.T e).size) (fun c hc=>(YQ c hc).trans Sy);have hrl:=o2.app n2;rw[←Cn]at hrl;have ha:a=none→es.length=0:=by
        rintro rfl
        obtain⟨p1,p2,a',c',p3,p4⟩:=o1;cases p3;rcases p4 with h | ⟨b',h,_⟩
        ·exact h
        ·cases h
       obtain⟨nc,rest,r1,r2,r3⟩:=IE hT w (ty:=ty) ht Ev hz o1 rfl ha ⟨m1,m2,a2,c2,rfl,m4⟩ rfl q2 ch q3 q4;obtain⟨g',av,h',k1,k2,k3,k4⟩:=KN hI hk (vs:=(olds++news++rest).toArray) (cap:=nc) e Gr (by rw[Ad];exact r2) (by rw[FW];exact r3) (by
        rw[show(olds++news++rest).toArray.toList=olds++news++rest from rfl,Ia (by rw[Ad,Ad,o1.1,m1,Fj])];exact hrl) w.drew ⟨rfl,rfl,rfl,rfl⟩
       rw[Ad]at k4;exact⟨_,_,g',av,h',r1,k1,k2,k3,k4⟩
     ·exact hk.elim
    ·rename_i r G2 es;have ho:=hI.objs r;split at hk
     ·rename_i sz n e0;rw[e0]at ho;split at hk
      ·rename_i Sy AaT;obtain rfl:=AM AaT;obtain Sy:=AM Sy;obtain⟨⟨q1,q2,q3,q4⟩,hk⟩:=hk;rw[Sy]at q1;obtain⟨news,n1,n2⟩:=h6 (Gn q1);obtain⟨m1,m2,a2,c2,rfl,m4⟩:=n1;obtain⟨t1,l1,a,cap,a1,a3⟩:=ho;have hl:(h r).live:=by rw[e0];trivial
       have Gr:∀c∈es++es2,es.length=n→True:=fun _ _ _=>trivial;cases hs with
       |tok _ _ _ _ _ hr YQ hu ht' hn MF =>
        have hv:=MF (q2.trans l1.symm);rw[a1]at hv;subst hv;subst q2;have Gr:∀c∈es++es2,c.length=G2:=fun c hc=>(AY.1 hc).elim (YQ c) (fun h=>(Gn q1 c h).trans Sy.symm);obtain⟨olds,o1,o2⟩:=Pv.of_rep hr YQ;have hrl:=o2.app n2;rw[←Cn]at hrl;have dN:es.length≤cap:=by rcases a3 with ⟨e1,_⟩ | ⟨e1,_⟩<;>omega
        by_cases hm:es2.length=0
        ·obtain rfl:=AK hm;have Kg:=hI.objs r;rw[e0]at Kg
         obtain⟨k1,k2⟩:=hI.upd r (.tok G2 (es.length+([]:List (List AV)).length)) (g.ρ r) (g.ln r) (g.tk r) (g.own r) g.S w none ⟨rfl,rfl,rfl,Ao _⟩ (fun _ _ _=>rfl) (fun b e=>by cases e) (fun _ _ h=>h) (fun _ _ h=>.inl h) (fun b o e=>by cases e)
          (fun b _ e=>⟨(hI.loc r b hl e).1,.inl ⟨hl,e⟩⟩) B0 (fun _=>⟨rfl,Ao _,fun _=>rfl,fun _=>rfl⟩) (fun hg IN=>by
           obtain⟨u1,u2,u3,u4⟩:=BG g r (g.ρ r) (g.ln r) (g.tk r) (g.own r) g.S;rw[Ax,GV];exact Kg.same IN (fun i hi=>D5 B0 i hi) hg u1 u2 u3 u4 (fun b _ _=>⟨rfl,fun _ h=>h⟩))
         refine⟨_,w,_,_,_,JD hT w ht Ev a a2 es.length cap c2 dN,hk,k1,k2,?_⟩;rw[BL];exact(BP.tok (AT h) r G2 es _ hr YQ hu ht' hn MF).le k2
        ·by_cases KK:es.length+es2.length≤cap
         ·rcases a3 with ⟨e1,_⟩ | ⟨e1,b,E,F6,off,rfl,e3,e4,e5,e6⟩
          ·omega
          ·rcases m4 with h | ⟨ba,rfl,JJ⟩
           ·omega
           ·obtain⟨i,z,i1,i2,i3,i4,i5⟩:=Ie hT Ev;have Ru:(es.length+es2.length)*G2≤cap*G2:=Bk _ KK;have Rt:news.length=es2.length*G2:=by rw[Sy];exact m1
            have cj:i.size=G2:=i3.trans Sy.symm;have Da:=Vn (P:=P) t ty e i (hT.slice ht) i1 b off es.length cap F6 e4 ba es2.length c2 news (by rw[cj];exact Rt) JJ m2 KK (by rw[cj,Rt,e5];rw[Fj]at Ru;omega);rw[cj]at Da;have Hi:∀j u,olds[j]?=some u→w.cell? ⟨b,off+j,none⟩=some u:=by
             obtain⟨p1,p2,a',c',p3,p4⟩:=o1;cases p3;intro j u hj;rcases p4 with h | ⟨b',h,h'⟩
             ·rw[h,Jx]at p1;rw[AK p1]at hj;simp at hj
             ·cases h
              have:=h' j u hj
              rwa [Addr.add_lit]at this
            obtain⟨p1,p2,p3⟩:=pE e4 e5 e1 KK Rt o1.1 Hi;generalize hnewd:F6.toList.take (off+es.length*G2)++news++F6.toList.drop (off+es.length*G2+news.length)=new at Da p1 p2 p3;have Fp:=setRow_heap w b F6 new.toArray E (0,0) e4;have gx:=(hI.loc r b hl e3).1
            obtain⟨k1,k2⟩:=hI.upd r (.tok G2 (es.length+es2.length)) (.slice (some ⟨b,off,none⟩) (es.length+es2.length) cap) (es.length+es2.length) (g.tk r) (g.own r) (g.more b (off+(es.length+es2.length)*G2)) (w.setRow b new.toArray) (some b)
             ⟨rfl,rfl,rfl,by rw[size_setRow];exact Ao _⟩ (fun k _ DM=>setRow_other w b k _ (fun e=>DM (by rw[e]))) (fun b' e=>by cases e;exact⟨hl,e3⟩) (fun _ _ h=>.inl h)
             (fun b' o hs=>hs.elim .inl (fun hs=>.inr ⟨by rw[size_setRow,hs.1];exact gx,.inr ⟨hl,by rw[hs.1];exact e3⟩⟩))
             (fun b' o e hs=>by
              cases e
              refine⟨?_,fun es ck he=>by rw[e4]at he;cases he⟩;rw[F8 Fp,F8 e4];exact p3 o (e6 o hs)) (fun b' _ e=>by
              rw[e3]at e;cases e;exact⟨by rw[size_setRow];exact gx,.inl ⟨hl,e3⟩⟩) B0 (fun _=>⟨rfl,by omega,fun e=>(by rw[t1]at e;cases e),fun e=>by omega⟩) (fun hg IN=>by
              obtain⟨u1,u2,u3,u4⟩:=BG g r (.slice (some ⟨b,off,none⟩) (es.length+es2.length) cap) (es.length+es2.length) (g.tk r) (g.own r) (g.more b (off+(es.length+es2.length)*G2));exact⟨u3.trans t1,u2,_,cap,u1,  .inr ⟨KK,b,E,_,off,rfl,u4.trans e3,Fp,by rw[FW];exact p1,fun o ho=>by
               rcases ho with ho | ⟨_,ho⟩
               ·have h1:=e6 o ho;have h2:es.length*G2≤(es.length+es2.length)*G2:=Bk _ ch;omega
               ·exact ho⟩⟩)
            have EG:=BP.slice_off (g:=g.upd r (.slice (some ⟨b,off,none⟩) (es.length+es2.length) cap) (es.length+es2.length) (g.tk r) (g.own r) (g.more b (off+(es.length+es2.length)*G2))) (U:=AT (A0 h r (.tok G2 (es.length+es2.length)))) (cap:=cap) (es:=es++es2) Fp Gr (by rw[Ad];exact KK) (by
             rw[Ad,show new.toArray.toList=new from rfl,p2];exact hrl.mono k2.keeps (fun _ h=>h) (fun _ h=>h.elim)) (fun o ho=>.inr ⟨rfl,by rw[Ad]at ho;exact Nat.add_lt_add_left ho off⟩)
            rw[Ad]at EG;exact⟨_,_,_,_,_,Da,hk,k1,k2,.tok _ r G2 _ _ EG Gr (by unfold AT;rw[Bg];simp) (by simp[Gh.upd,t1]) (by simp[Gh.upd]) (fun _=>by simp[Gh.upd])⟩
         ·have kJ:cap<es.length+es2.length:=by omega
          have ha:a=none→cap=0:=by
           rintro rfl
           rcases a3 with ⟨e1,_⟩ | ⟨_,b,_,_,_,e2,_⟩
           ·obtain⟨p1,p2,a',c',p3,p4⟩:=o1;cases p3;rcases p4 with h | ⟨b',h,_⟩
            ·omega
            ·cases h
           ·cases e2
          obtain⟨nc,rest,r1,r2,r3⟩:=IE hT w (ty:=ty) ht Ev hz (by rw[←Sy];exact o1) rfl ha ⟨m1,m2,a2,c2,rfl,m4⟩ rfl ch kJ q3 q4;have Fp:=Ip w.drew (.cells (olds++news++rest).toArray e (0,0)) (b:=w.heap.size) rfl
          obtain⟨k1,k2⟩:=hI.upd r (.tok G2 (es.length+es2.length)) (.slice (some ⟨w.heap.size,0,none⟩) (es.length+es2.length) nc) (es.length+es2.length) (g.tk r) (some w.heap.size) (g.more w.heap.size ((es.length+es2.length)*G2))
           (w.drew.alloc (.cells (olds++news++rest).toArray e (0,0))) none
           ⟨rfl,rfl,rfl,by rw[World.size_alloc];exact Nat.le_succ _⟩ (fun k KX _=>by rw[heap_alloc_old _ _ (by exact KX)];rfl) (fun b' e=>by cases e) (fun _ _ h=>.inl h)
           (fun b' o hs=>hs.elim .inl (fun hs=>.inr ⟨by rw[World.size_alloc,hs.1];exact ME _,.inl (by rw[hs.1];exact Ao _)⟩))
           (fun b' o e=>by cases e) (fun b' _ e=>by cases e;exact⟨by rw[World.size_alloc];exact ME _,.inr (Ao _)⟩) B0 (fun _=>⟨rfl,by omega,fun e=>(by rw[t1]at e;cases e),fun e=>by omega⟩) (fun hg IN=>by
            obtain⟨u1,u2,u3,u4⟩:=BG g r (.slice (some ⟨w.heap.size,0,none⟩) (es.length+es2.length) nc) (es.length+es2.length) (g.tk r) (some w.heap.size) (g.more w.heap.size ((es.length+es2.length)*G2));exact⟨u3.trans t1,u2,_,nc,u1,.inr ⟨r2,w.heap.size,e,_,0,rfl,u4,Fp,by rw[FW,Sy,Bi];exact r3,fun o ho=>by
             rcases ho with ho | ⟨_,ho⟩
             ·have:=hI.slt _ _ ho;omega
             ·omega⟩⟩)
          have EG:=BP.slice_row (g:=g.upd r (.slice (some ⟨w.heap.size,0,none⟩) (es.length+es2.length) nc) (es.length+es2.length) (g.tk r) (some w.heap.size) (g.more w.heap.size ((es.length+es2.length)*G2))) (U:=AT (A0 h r (.tok G2 (es.length+es2.length)))) (cap:=nc) (es:=es++es2) Fp Gr (by rw[Ad];exact r2) (by
           rw[Ad,show(olds++news++rest).toArray.toList=olds++news++rest from rfl,Ia (by rw[Ad,o1.1,m1,Sy,Fj])];exact hrl.mono k2.keeps (fun _ h=>h) (fun _ h=>h.elim)) (fun o ho=>.inr ⟨rfl,by rw[Ad]at ho;exact ho⟩)
          rw[Ad]at EG;exact⟨_,_,_,_,_,r1,hk,k1,k2,.tok _ r G2 _ _ EG Gr (by unfold AT;rw[Bg];simp) (by simp[Gh.upd,t1]) (by simp[Gh.upd]) (fun _=>by simp[Gh.upd])⟩
      ·exact hk.elim
     ·exact hk.elim
    ·rename_i r n;have ho:=hI.objs r;split at hk
     ·rename_i sz es e0;split at hk
      ·rename_i Sy;obtain Sy:=AM Sy;obtain⟨⟨q1,q2,q3,q4⟩,hk⟩:=hk;rw[Sy]at q1;obtain⟨news,n1,n2⟩:=h6 (Gn q1);obtain⟨m1,m2,a2,c2,rfl,m4⟩:=n1;obtain⟨hv,olds,o1,o2⟩:=Wp hI e0 hs q2.symm;have Kg:=ho;rw[e0]at ho;obtain⟨t1,l1,al,a3⟩:=ho;have hl:(h r).live:=by rw[e0];trivial
       subst hv;have Gr:∀c∈es++es2,c.length=sz:=fun c hc=>(AY.1 hc).elim (al c) (fun h=>(Gn q1 c h).trans Sy.symm);have hrl:=o2.app n2;rw[←Cn]at hrl;obtain⟨a,cap,hρ,dN,ha⟩:∃a cap,g.ρ r=.slice a es.length cap∧es.length≤cap∧(a=none→cap=0):=by
        rcases a3 with ⟨rfl,e2,e3⟩ | ⟨b,cap,E,F6,e1,e2,e3,e4,e5,e6,e7⟩
        ·exact⟨none,0,e2,Ao _,fun _=>rfl⟩
        ·exact⟨_,cap,e1,e3,fun e=>by cases e⟩
       by_cases hm:es2.length=0
       ·obtain rfl:=AK hm;rw[e0]at Kg
        obtain⟨k1,k2⟩:=hI.upd r (.arr sz (es++[])) (g.ρ r) (g.ln r) (g.tk r) (g.own r) g.S w none ⟨rfl,rfl,rfl,Ao _⟩ (fun _ _ _=>rfl) (fun b e=>by cases e) (fun _ _ h=>h) (fun _ _ h=>.inl h) (fun b o e=>by cases e)
         (fun b _ e=>⟨(hI.loc r b hl e).1,.inl ⟨hl,e⟩⟩) B0 (fun _=>⟨rfl,Ao _,fun _=>rfl,fun _=>rfl⟩) (fun hg IN=>by
          obtain⟨u1,u2,u3,u4⟩:=BG g r (g.ρ r) (g.ln r) (g.tk r) (g.own r) g.S;rw[BL];exact Kg.same IN (fun i hi=>D5 B0 i hi) hg u1 u2 u3 u4 (fun b _ _=>⟨rfl,fun _ h=>h⟩))
        refine⟨g.ρ r,w,_,_,_,?_,hk,k1,k2,?_⟩
        ·rw[hρ];exact JD hT w ht Ev a a2 es.length cap c2 dN
        ·have:=hs.le k2
         rw[←q2]at this;exact this
       ·by_cases KK:es.length+es2.length≤cap
        ·rcases a3 with ⟨rfl,e2,e3⟩ | ⟨b,LR,E,F6,e1,e2,e3,e4,e5,e6,e7⟩
         ·rw[e2]at hρ;cases hρ;omega
         ·rw[e1]at hρ;simp only[Value.slice.injEq,true_and]at hρ;obtain⟨rfl,rfl⟩:=hρ;rcases m4 with h | ⟨ba,rfl,JJ⟩
          ·omega
          ·obtain⟨i,z,i1,i2,i3,i4,i5⟩:=Ie hT Ev;have Ru:(es.length+es2.length)*sz≤LR*sz:=Bk _ KK;have Rt:news.length=es2.length*sz:=by rw[Sy];exact m1
           have cj:i.size=sz:=i3.trans Sy.symm;have Da:=RQ (P:=P) t ty e i (hT.slice ht) i1 b es.length LR F6 e4 ba es2.length c2 news (by rw[cj];exact Rt) JJ m2 KK (by rw[cj,Rt,←Fj,e5];exact Ru);rw[cj]at Da;have Hi:∀j u,olds[j]?=some u→w.cell? ⟨b,j,none⟩=some u:=by
            obtain⟨p1,p2,a',c',p3,p4⟩:=o1;rw[e1]at p3;cases p3;intro j u hj;rcases p4 with h | ⟨b',h,h'⟩
            ·rw[h,Jx]at p1;rw[AK p1]at hj;simp at hj
            ·cases h
             have:=h' j u hj
             rwa [Addr.add_lit,Bi]at this
           obtain⟨p1,p2,p3⟩:=mj e4 e5 e3 KK Rt o1.1 Hi;generalize hnewd:F6.toList.take (es.length*sz)++news++F6.toList.drop (es.length*sz+news.length)=new at Da p1 p2 p3;have Fp:=setRow_heap w b F6 new.toArray E (0,0) e4;have gx:=(hI.loc r b hl e2).1
           obtain⟨k1,k2⟩:=hI.upd r (.arr sz (es++es2)) (.slice (some ⟨b,0,none⟩) (es.length+es2.length) LR) (es.length+es2.length) (g.tk r) (g.own r) g.S (w.setRow b new.toArray) (some b)
            ⟨rfl,rfl,rfl,by rw[size_setRow];exact Ao _⟩ (fun k _ DM=>setRow_other w b k _ (fun e=>DM (by rw[e]))) (fun b' e=>by cases e;exact⟨hl,e2⟩) (fun _ _ h=>h) (fun _ _ h=>.inl h)
            (fun b' o e hs=>by cases e;exact absurd hs (e7 o)) (fun b' _ e=>by
             rw[e2]at e;cases e;exact⟨by rw[size_setRow];exact gx,.inl ⟨hl,e2⟩⟩) B0 (fun _=>⟨rfl,by omega,fun e=>(by rw[t1]at e;cases e),fun e=>by omega⟩) (fun hg IN=>by
             obtain⟨u1,u2,u3,u4⟩:=BG g r (.slice (some ⟨b,0,none⟩) (es.length+es2.length) LR) (es.length+es2.length) (g.tk r) (g.own r) g.S;refine⟨u3.trans t1,by rw[u2,Ad],Gr,.inr ⟨b,LR,E,_,by rw[u1,Ad],u4.trans e2,by rw[Ad];exact KK,Fp,by rw[FW];exact p1,?_,e7⟩⟩;rw[Ad,show new.toArray.toList=new from rfl,p2];exact hrl.mono IN (fun _ h=>h) (fun _ h=>h.elim))
           rw[e1];exact⟨_,_,_,_,_,Da,hk,k1,k2,.msl _ r _ _ _ (by unfold AT;rw[Bg];simp) (by simp[Gh.upd,t1]) (by simp[Gh.upd]) (.inr ⟨_,rfl⟩) (fun _=>by simp[Gh.upd])⟩
        ·have kJ:cap<es.length+es2.length:=by omega
         obtain⟨nc,rest,r1,r2,r3⟩:=IE hT w (ty:=ty) ht Ev hz (by rw[←Sy];exact o1) hρ ha ⟨m1,m2,a2,c2,rfl,m4⟩ rfl ch kJ q3 q4;have Fp:=Ip w.drew (.cells (olds++news++rest).toArray e (0,0)) (b:=w.heap.size) rfl
         obtain⟨k1,k2⟩:=hI.upd r (.arr sz (es++es2)) (.slice (some ⟨w.heap.size,0,none⟩) (es.length+es2.length) nc) (es.length+es2.length) (g.tk r) (some w.heap.size) g.S
          (w.drew.alloc (.cells (olds++news++rest).toArray e (0,0))) none
          ⟨rfl,rfl,rfl,by rw[World.size_alloc];exact Nat.le_succ _⟩ (fun k KX _=>by rw[heap_alloc_old _ _ (by exact KX)];rfl) (fun b' e=>by cases e) (fun _ _ h=>h) (fun _ _ h=>.inl h)
          (fun b' o e=>by cases e) (fun b' _ e=>by cases e;exact⟨by rw[World.size_alloc];exact ME _,.inr (Ao _)⟩) B0 (fun _=>⟨rfl,by omega,fun e=>(by rw[t1]at e;cases e),fun e=>by omega⟩) (fun hg IN=>by
           obtain⟨u1,u2,u3,u4⟩:=BG g r (.slice (some ⟨w.heap.size,0,none⟩) (es.length+es2.length) nc) (es.length+es2.length) (g.tk r) (some w.heap.size) g.S;refine⟨u3.trans t1,by rw[u2,Ad],Gr,.inr ⟨w.heap.size,nc,e,_,by rw[u1,Ad],u4,by rw[Ad];exact r2,Fp,by rw[FW,Sy];exact r3,?_,fun o ho=>by have:=hI.slt _ _ ho;omega⟩⟩;rw[Ad,show(olds++news++rest).toArray.toList=olds++news++rest from rfl,Ia (by rw[Ad,o1.1,m1,Sy,Fj])];exact hrl.mono IN (fun _ h=>h) (fun _ h=>h.elim))
         exact⟨_,_,_,_,_,r1,hk,k1,k2,.msl _ r _ _ _ (by unfold AT;rw[Bg];simp) (by simp[Gh.upd,t1]) (by simp[Gh.upd]) (.inr ⟨_,rfl⟩) (fun _=>by simp[Gh.upd])⟩
      ·exact hk.elim
     ·exact hk.elim
    ·exact hk.elim
 ·exact hk.elim
end
section
variable {P:Program}{w0:World}{g0:Gh}{h0 h:Nat→HO}{g:Gh}{w:World}(hI:DV w0 g0 h0 h g w)
include hI
theorem OZ{d sz n:Nat}(hd:h d=.free)(hl:∀c∈es,c.length=sz)(hn:es.length=n)(hr:BP g w FQ (.slice .none es) (.slice a n n)) :
  ∃g',DV w0 g0 h0 (A0 h d (.tok sz n)) g' w∧Le h g w (A0 h d (.tok sz n)) g' w∧BP g' w (AT (A0 h d (.tok sz n))) (.slice (.id d sz) es) (.slice a n n):=by
 obtain⟨k1,k2⟩:=hI.upd d (.tok sz n) (.slice a n n) n true none g.S w none ⟨rfl,rfl,rfl,Ao _⟩ (fun _ _ _=>rfl) (fun b e=>by cases e) (fun _ _ h=>h) (fun _ _ h=>.inl h) (fun b o e=>by cases e) (fun b _ e=>by cases e) B0
  (fun hu=>absurd hd hu) (fun _ _=>by
   obtain⟨u1,u2,u3,u4⟩:=BG g d (.slice a n n) n true none g.S;exact⟨u3,u2,a,n,u1,.inl ⟨rfl,u4⟩⟩)
 exact⟨_,k1,k2,.tok _ d sz es _ (((hr.up (AT h)).le k2)) hl (by unfold AT;rw[Bg];simp) (by simp[Gh.upd]) (by simp[Gh.upd,hn]) (fun _=>by simp[Gh.upd])⟩
theorem bJ{d:Option Nat}(hx:BP g w (AT h) x vx)(hk:PA cx d h x K):∃g' av h',K av h'∧DV w0 g0 h0 h' g' w∧Le h g w h' g' w∧BP g' w (AT h') av vx:=by
 have plain:K x h→∃g' av h',K av h'∧DV w0 g0 h0 h' g' w∧Le h g w h' g' w∧BP g' w (AT h') av vx:=fun hk=>⟨g,x,h,hk,hI,.refl _ _ _,hx⟩;unfold PA at hk;split at hk
 ·exact plain hk
 ·rename_i d;split at hk
  ·rename_i sz _;split at hk
   ·refine⟨g,unT x,h,hk,hI,.refl _ _ _,?_⟩;cases x with
    |slice tk es=>exact(BP.slice_none hx).up _
    |_=>exact hx
   ·split at hk
    ·split at hk
     ·rename_i hd;obtain rfl:=hx.v_eq;obtain⟨g',k1,k2,k3⟩:=OZ hI (sz:=sz) (es:=[]) (a:=none) hd B0 rfl (.snil _ _ _);exact⟨g',_,_,hk,k1,k2,k3⟩
     ·exact hk.elim
    ·exact plain hk
  ·split at hk
   ·rename_i sz _;split at hk
    ·split at hk
     ·rename_i hd;obtain rfl:=hx.v_eq
      obtain⟨k1,k2⟩:=hI.upd d (.arr sz []) (.slice none 0 0) 0 true none g.S w none ⟨rfl,rfl,rfl,Ao _⟩ (fun _ _ _=>rfl) (fun b e=>by cases e) (fun _ _ h=>h) (fun _ _ h=>.inl h) (fun b o e=>by cases e) (fun b _ e=>by cases e) B0
       (fun hu=>absurd hd hu) (fun _ _=>by
        obtain⟨u1,u2,u3,u4⟩:=BG g d (.slice none 0 0) 0 true none g.S;exact⟨u3,u2,by simp,.inl ⟨rfl,u1,u4⟩⟩)
      exact⟨_,_,_,hk,k1,k2,.msl _ d 0 none 0 (by unfold AT;rw[Bg];simp) (by simp[Gh.upd]) (AA _) (.inl rfl) (fun _=>by simp[Gh.upd])⟩
     ·exact hk.elim
    ·exact plain hk
   ·exact plain hk
theorem ao{mku:List Nat}{d:Option Nat}{ty:Nat}(hk:Lw T mku d h ty K):Po P w0 g0 h0 h g w (Instr.makeMap ty none) K:=by
 unfold Lw at hk;split at hk
 ·exact hk.elim
 ·rename_i d;split at hk
  ·rename_i hd;split at hk
   ·split at hk
    ·rename_i sh _;split at hk
     ·obtain⟨k1,k2⟩:=hI.newOwn hd (.mapU sh []) (.map #[] 0) (.map (some w.heap.size)) 0 false w ⟨rfl,rfl,rfl,rfl⟩ B0 (fun hg IN=>by
       obtain⟨u1,u2,u3,u4⟩:=BG g d (.map (some w.heap.size)) 0 false (some w.heap.size) g.S;exact⟨u3,w.heap.size,#[],0,u4,u1,Ip w _ rfl,⟨rfl,by simp,by simp,by simp,by simp,by simp⟩,by simp,fun o ho=>by have:=hI.slt _ _ ho;omega⟩)
      refine⟨_,_,_,_,_,?_,hk,k1,k2,.mref _ d w.heap.size (by unfold AT;rw[Bg];simp) ?_ ?_⟩
      ·simp[Instr.makeMap]
      ·simp[Gh.upd]
      ·simp[Gh.upd]
     ·obtain⟨k1,k2⟩:=hI.newOwn hd (.map sh []) (.map #[] 0) (.map (some w.heap.size)) 0 false w ⟨rfl,rfl,rfl,rfl⟩ B0 (fun hg IN=>by
       obtain⟨u1,u2,u3,u4⟩:=BG g d (.map (some w.heap.size)) 0 false (some w.heap.size) g.S;exact⟨u3,w.heap.size,#[],0,u4,u1,Ip w _ rfl,⟨rfl,by simp,by simp,by simp,by simp,by simp⟩,by simp,fun o ho=>by have:=hI.slt _ _ ho;omega⟩)
      refine⟨_,_,_,_,_,?_,hk,k1,k2,.mref _ d w.heap.size (by unfold AT;rw[Bg];simp) ?_ ?_⟩
      ·simp[Instr.makeMap]
      ·simp[Gh.upd]
      ·simp[Gh.upd]
    ·exact hk.elim
   ·exact hk.elim
  ·exact hk.elim
omit hI in
theorem BP.sub{sz l m:Nat}{x:Value}{n cap:Nat}(hr:BP g w FQ (.slice .none es) x)(hx:x=.slice a n cap)(hl:∀c∈es,c.length=sz)(h1:l≤m)(h2:m≤es.length)(c' : Nat)(hc:m-l≤c')(a' : Option Addr)(ha:a'=a.map (·.add (l*sz))∨(m=l∧a'=a)):BP g w FQ (.slice .none ((es.take m).drop l)) (.slice a' (m-l) c'):=by
 subst hx;have CB:((es.take m).drop l).length=m-l:=by rw[B3,AB];omega
 by_cases h0:m-l=0
 ·have:(es.take m).drop l=[]:=AK ch
  rw[this,h0];exact .snil _ _ _
 ·cases hr with
  |snil=>simp at h2;omega
  |slice _ _ b off G2 cap val tN Rs DP EG =>
   have hz:G2=sz:=by
    have:(0:Nat)<es.length:=by omega
    have h3:=Rs 0 es[0] (AE this);rw[←h3];exact hl _ (Aj this)
   subst hz;have ha' : a'=some ⟨b,off+l*G2,none⟩:=by
    rcases ha with h | ⟨h,_⟩
    ·rw[h];simp[Addr.add_lit]
    ·omega
   subst ha';rw[←CB];have FN:∀(i:Nat) (cs:List AV),((es.take m).drop l)[i]?=some cs→es[l+i]?=some cs:=fun i cs h=>by
    rw[DN]at h
    by_cases hi:l+i<m
    ·rwa [BQ hi]at h
    ·rw[A6 (by rw[AB];omega)]at h;cases h
   refine .slice _ _ b (off+l*G2) G2 c' (fun i j=>val (l+i) j) (by rw[CB];exact hc) (fun i cs h=>Rs _ _ (FN i cs h)) (fun i cs j av h1 h2=>?_) (fun i cs j av h1 h2=>EG _ _ _ _ (FN i cs h1) h2)
   have:=DP _ _ _ _ (FN i cs h1) h2
   rwa [show off+(l+i)*G2+j=off+l*G2+i*G2+j by rw[Fj];omega]at this
omit hI in
theorem LC{t:Nat→AV}(ht:∀x:Operand,BP g w (AT h) (ev t x) (ρ x)){o:Option Operand}{i:Option Int}(hk:Cb t o=some i):o.map ρ=i.map fun n=>.int .i64 n:=by
 cases o with
 |none=>cases hk;rfl
 |some x =>
  unfold Cb at hk;dsimp only at hk;split at hk
  ·rename_i n e;cases hk
   have:=ht x
   rw[e]at this;simp[this.v_eq]
  ·cases hk
omit hI in
theorem Vo(b:Bool)(len cap:Nat)(lo hi mx:Option Int)(oz:mx=none∨hi≠none)(h0:0≤lo.getD 0)(h1:lo.getD 0≤hi.getD len)(h2:hi.getD len≤mx.getD cap)(h3:mx.getD cap≤cap) :
  (Instr.sliceBounds b len cap (lo.map fun n=>.int .i64 n) (hi.map fun n=>.int .i64 n) (mx.map fun n=>.int .i64 n)).run P w=.ok ((lo.getD 0).toNat,(hi.getD len).toNat,(mx.getD cap).toNat) w:=by
 have e1:∀n:Int,0≤n→(n.toNat:Int)=n:=fun n hn=>Int.toNat_of_nonneg hn;cases mx with
 |none =>
  cases hi with
  |none =>
   cases lo with
   |none=>simp[Instr.sliceBounds]
   |some l =>
    simp only[CF,Ej]at h0 h1 h2;simp[Instr.sliceBounds,run_sliceBound,h0,h1]
  |some hh =>
   simp only[CF,Ej]at h1 h2;have vL:0≤hh:=by omega
   cases lo with
   |none=>simp[Instr.sliceBounds,run_sliceBound,vL,h2]
   |some l =>
    simp only[CF]at h0 h1;simp[Instr.sliceBounds,run_sliceBound,h0,h1,h2,vL,e1]
 |some m =>
  cases hi with
  |none=>simp at oz
  |some hh =>
   simp only[CF]at h1 h2 h3;have vL:0≤hh:=by omega
   have gD:0≤m:=by omega
   cases lo with
   |none=>simp[Instr.sliceBounds,run_sliceBound,h2,h3,vL,gD,e1]
   |some l =>
    simp only[CF]at h0 h1;simp[Instr.sliceBounds,run_sliceBound,h0,h1,h2,h3,vL,gD,e1]
omit hI in
theorem Fe(hT:CL P T){ty e k:Nat}(ht:(T ty).d=.slice e)(hk:(T e).size=k+1)(a:Option Addr)(len cap:Nat)(lo hi mx:Option Int)(oz:mx=none∨hi≠none)(h0:0≤lo.getD 0)(h1:lo.getD 0≤hi.getD len)(h2:hi.getD len≤mx.getD cap)(h3:mx.getD cap≤cap) :
  (Instr.sliceAt ty (.slice a len cap) (lo.map fun n=>.int .i64 n) (hi.map fun n=>.int .i64 n) (mx.map fun n=>.int .i64 n)).run P w =
   .ok (.slice (if(mx.getD cap).toNat=(lo.getD 0).toNat then a else a.map (·.add ((lo.getD 0).toNat*(T e).size))) ((hi.getD len).toNat-(lo.getD 0).toNat) ((mx.getD cap).toNat-(lo.getD 0).toNat)) w:=by
 have hu:=hT.slice ht;have hb:=Vo (P:=P) (w:=w) true len cap lo hi mx oz h0 h1 h2 h3;simp only[Instr.sliceAt,Sem.run_bind,run_underlying hu,Result.andThen_ok,Instr.slice,hb,hT.size1 w hk,Sem.run_pure];rw[hk]
theorem DV.moveO(r r2:Nat)(DM:r2≠r)(hf:h r2=.free)(hl:(h r).live){ob:Option Nat}(ho:∀c,ob=some c→g.own r=some c)(o' : HO)(x:Value)(n:Nat)(t:Bool)(hn:o'≠.free)
  (Kg:E3 g w (g.upd r2 x n t ob g.S) w→Ez (g.upd r2 x n t ob g.S) w (AT (A0 (A0 h r .dead) r2 o')) r2 o') :
  DV w0 g0 h0 (A0 (A0 h r .dead) r2 o') (g.upd r2 x n t ob g.S) w∧Le h g w (A0 (A0 h r .dead) r2 o') (g.upd r2 x n t ob g.S) w:=by
 have iZ:KT g (g.upd r2 x n t ob g.S) (AT h):=by
  intro i hi;have e:i≠r2:=fun e=>hi (by rw[e];exact hf);refine⟨by simp[Gh.upd,e],by simp[Gh.upd,e],fun _=>by simp[Gh.upd,e],fun _=>by simp[Gh.upd,e]⟩
 have hK:E3 g w (g.upd r2 x n t ob g.S) w:=fun b o hb=>⟨hb,rfl,fun _ _ h=>h⟩;have Lb:∀i,AT h i→AT (A0 (A0 h r .dead) r2 o') i:=fun i hi=>D5 hn i (D5 B0 i hi);have key:∀i,i≠r2→(A0 (A0 h r .dead) r2 o' i).live→i≠r∧(h i).live:=fun i h2 hl=>by
  rw[B7 _ _ _ _ h2]at hl
  by_cases e:i=r
  ·subst e;rw[Bg]at hl;exact hl.elim
  ·rw[B7 _ _ _ _ e]at hl;exact⟨e,hl⟩
 have own:∀i,i≠r2→(g.upd r2 x n t ob g.S).own i=g.own i:=fun i e=>by simp[Gh.upd,e]
 have U9:(g.upd r2 x n t ob g.S).own r2=ob:=by simp[Gh.upd]
 refine⟨⟨hI.os,hI.tape,hI.output,hI.size,hI.frame,hI.slt,fun i=>?_,fun i j c hi hj ei ej=>?_,fun i c hi ei=>?_,hI.sg,hI.glob.keep hK⟩,iZ,Lb,hK⟩
 ·by_cases e:i=r2
  ·subst e;rw[Bg];exact Kg hK
  ·rw[B7 _ _ _ _ e]
   by_cases e1:i=r
   ·subst e1;rw[Bg];trivial
   ·rw[B7 _ _ _ _ e1];exact(hI.objs i).same hK Lb iZ (by simp[Gh.upd,e]) (by simp[Gh.upd,e]) (by simp[Gh.upd,e]) (by simp[Gh.upd,e]) (fun b hl hb=>⟨rfl,fun k hk=>hk⟩)
 ·by_cases e1:i=r2<;>by_cases e2:j=r2
  ·exact e1.trans e2.symm
  ·subst e1;rw[U9]at ei;rw[own j e2]at ej;obtain⟨a1,a2⟩:=key j e2 hj;exact absurd (hI.inj j r _ a2 hl ej (ho _ ei)) a1
  ·subst e2;rw[U9]at ej;rw[own i e1]at ei;obtain⟨a1,a2⟩:=key i e1 hi;exact absurd (hI.inj i r _ a2 hl ei (ho _ ej)) a1
  ·rw[own i e1]at ei;rw[own j e2]at ej;exact hI.inj i j c (key i e1 hi).2 (key j e2 hj).2 ei ej
 ·by_cases e1:i=r2
  ·subst e1;rw[U9]at ei;exact hI.loc r _ hl (ho _ ei)
  ·rw[own i e1]at ei;exact hI.loc i c (key i e1 hi).2 ei
theorem aV(hT:CL P cx.T){d:Option Nat}{ty:Nat}{t:Nat→AV}(ht:∀x:Operand,BP g w (AT h) (ev t x) (ρ x)){lo mx:Option Operand}(hx:BP g w (AT h) x vx)(hk:Vj cx d h ty x (Cb t lo) hi mx K):Po P w0 g0 h0 h g w (Instr.sliceAt ty vx (lo.map ρ) (hi.map ρ) (mx.map ρ)) K:=by
 unfold Vj at hk;split at hk
 ·rename_i d It e1;rw[LC ht e1];split at hk
  ·rename_i e hs;split at hk
   ·exact hk.elim
   ·rename_i k Ev;split at hk
    ·rename_i r sz es;split at hk
     ·rename_i G2 n e0;split at hk
      ·rename_i hd;split at hk
       ·rename_i q1 q2;obtain rfl:=AM q1;have q2:=AM q2;obtain⟨⟨rfl,h1,h2⟩,hk⟩:=hk;have hl:(h r).live:=by rw[e0];trivial
        have DM:Lr cx d≠r:=fun e=>by rw[e,e0]at hd;cases hd
        have ho:=hI.objs r;rw[e0]at ho;obtain⟨t1,l1,a,cap,a1,a3⟩:=ho;have hr:=hx.slice_none;cases hx with
        |tok _ _ _ _ _ jc YQ hu ht' hn MF =>
         have hv:=MF l1.symm;rw[a1]at hv;subst hv;have dN:es.length≤cap:=by rcases a3 with ⟨e1,_⟩ | ⟨e1,_⟩<;>omega
         have Da:=Fe (P:=P) (w:=w) hT hs Ev a es.length cap (some It) none none (.inl rfl) h1 h2 (by simp only[Ej];omega) B0;simp only[CF,Ej,A7]at Da;have CB:(es.drop It.toNat).length=es.length-It.toNat:=B3;have kS:=BP.sub (c':=cap-It.toNat) hr rfl YQ (l:=It.toNat) (m:=es.length) ch (Ao _) ch (if cap=It.toNat then a else a.map (·.add (It.toNat*(cx.T e).size))) (by
          split
          ·exact .inr ⟨by omega,rfl⟩
          ·rw[q2];exact .inl rfl)
         rw[Dp]at kS
         have fin:∀ob:Option Nat,(∀c,ob=some c→g.own r=some c)→(es.length-It.toNat=cap-It.toNat∧ob=none∨es.length-It.toNat≤cap-It.toNat∧∃b E vs off,(if cap=It.toNat then a else a.map (·.add (It.toNat*(cx.T e).size)))=some ⟨b,off,none⟩∧ob=some b∧w.heap[b]?=some (.cells vs E (0,0))∧vs.size=off+(cap-It.toNat)*G2∧∀o,g.S b o→o<off+(es.length-It.toNat)*G2) →
           Po P w0 g0 h0 h g w (Instr.sliceAt ty (.slice a es.length cap) ((some It).map fun n=>.int .i64 n) ((none:Option Operand).map ρ) ((none:Option Operand).map ρ)) K:=fun ob ho wa=>by
          obtain⟨k1,k2⟩:=hI.moveO r (Lr cx d) DM hd hl ho (.tok G2 (es.drop It.toNat).length) (.slice (if cap=It.toNat then a else a.map (·.add (It.toNat*(cx.T e).size))) (es.length-It.toNat) (cap-It.toNat)) (es.length-It.toNat) true B0 (fun IN=>by
           obtain⟨u1,u2,u3,u4⟩:=BG g (Lr cx d) (.slice (if cap=It.toNat then a else a.map (·.add (It.toNat*(cx.T e).size))) (es.length-It.toNat) (cap-It.toNat)) (es.length-It.toNat) true ob g.S;refine⟨u3,u2.trans CB.symm,_,_,by rw[CB];exact u1,?_⟩;rw[CB,u4];exact wa)
          exact⟨_,w,_,_,_,Da,hk,k1,k2,.tok _ _ _ _ _ (((kS.mono k2.keeps (fun _ h=>h) (fun _ h=>h.elim))).up _) (fun c hc=>YQ c (Jd hc)) (by unfold AT;rw[Bg];simp) (by simp[Gh.upd]) (by simp[Gh.upd]) (fun _=>by simp[Gh.upd])⟩
         rcases a3 with ⟨e1,e2⟩ | ⟨e1,b,E,vs,off,rfl,e3,e4,e5,e6⟩
         ·exact fin none (fun c h=>by cases h) (.inl ⟨by omega,rfl⟩)
         ·by_cases hc:cap=It.toNat
          ·exact fin none (fun c h=>by cases h) (.inl ⟨by omega,rfl⟩)
          ·refine fin (some b) (fun c h=>by cases h;exact e3) (.inr ⟨by omega,b,E,vs,off+It.toNat*G2,?_,rfl,e4,?_,fun o ho=>?_⟩)
           ·rw[Ae hc];simp[Addr.add_lit,q2]
           ·rw[e5,Nat.sub_mul]
            have:=Bk G2 (show It.toNat≤cap by omega)
            omega
           ·have:=e6 o ho
            rw[Nat.sub_mul]
            have:=Bk G2 (show It.toNat≤es.length by omega)
            omega
       ·exact hk.elim
      ·exact hk.elim
     ·exact hk.elim
    ·exact hk.elim
  ·exact hk.elim
 ·exact hk.elim
omit hI in
theorem OI{sz:Nat}:∀{es:List (List AV)},(∀cs∈es,cs.length=sz)→∀k,(es.take k).flatten=es.flatten.take (k*sz)
 | [],_,k=>by simp
 |c::es,hl,0=>by simp
 |c::es,hl,k+1=>by
  have h1:=hl c (Aa ..);have h2:c.length≤k*sz+sz:=by omega
  rw[JN,Bm,Bm,OI (fun x hx=>hl x (Ah _ hx)) k,List.take_append,h1,Ei,
   Au h2,show k*sz+sz-sz=k*sz by omega]
omit hI in
theorem CU.takeE{U:Nat→Prop}{sz k:Nat}{vs:List Value}(hl:∀cs∈es,cs.length=sz)(hk:k≤es.length)(h:CU g w U es.flatten (vs.take (es.length*sz))):CU g w U (es.take k).flatten (vs.take (k*sz)):=by
 have e:vs.take (k*sz)=(vs.take (es.length*sz)).take (k*sz):=by
  rw[List.take_take,Nat.min_eq_left (Bk _ hk)]
 rw[OI hl,e];refine⟨by rw[AB (l:=vs.take (es.length*sz)),h.1,AB],fun x hx=>h.2.1 x (EQ hx),fun i av x q1 q2=>?_⟩;have hi:i<k*sz:=by
  rcases BY i (k*sz)with q | q
  ·exact q
  ·rw[Kw,Ae ch]at q1;cases q1
 rw[Kw,Al hi]at q1 q2;exact h.2.2 i av x q1 q2
theorem eK(hT:CL P cx.T){d:Option Nat}{ty:Nat}{t:Nat→AV}(ht:∀x:Operand,BP g w (AT h) (ev t x) (ρ x))(hx:BP g w (AT h) x vx)(hk:l8 cx d h ty x (Cb t hi) K):Po P w0 g0 h0 h g w (Instr.sliceAt ty vx none (hi.map ρ) none) K:=by
 unfold l8 at hk;split at hk
 ·rename_i d MJ e1;rw[LC ht e1];split at hk
  ·rename_i e hs;split at hk
   ·exact hk.elim
   ·rename_i k Ev;split at hk
    ·rename_i r n;split at hk
     ·rename_i sz es e0;split at hk
      ·rename_i hd;split at hk
       ·rename_i q1 q3;have q1:=AM q1;obtain⟨⟨rfl,h1,h2⟩,hk⟩:=hk;have hl:(h r).live:=by rw[e0];trivial
        have DM:Lr cx d≠r:=fun e=>by rw[e,e0]at hd;cases hd
        have ho:=hI.objs r;rw[e0]at ho;obtain⟨t1,l1,al,a2⟩:=ho;have CB:(es.take MJ.toNat).length=MJ.toNat:=by rw[AB];omega
        cases hx with
        |msl _ _ _ a cap hu ht' ZP ha MF =>
         have hv:=MF l1.symm;have Qg:es.length≤cap:=by
          rcases a2 with ⟨b1,_,_⟩ | ⟨b,LR,E,vs,b1,_,b3,_⟩
          ·subst b1;exact AA _
          ·rw[b1]at hv;cases hv;exact b3
         have Da:=Fe (P:=P) (w:=w) hT hs Ev a es.length cap none (some MJ) none (.inl rfl) B0 (by simp only[Ej,CF];exact h1) (by simp only[CF,Ej];omega) B0;have Mt:(if cap-(0:Nat)=0 then a else a.map (·.add (0*(cx.T e).size)))=a:=by
          rw[Jx];split
          ·rfl
          ·rcases ha with e3 | ⟨b,rfl⟩
           ·cases a with
            |none=>rfl
            |some a=>simp[Addr.add]
           ·rfl
         simp only[CF,Ej,A7,Int.toNat_zero,Nat.sub_zero]at Da Mt;have key:∃a',(Instr.sliceAt ty (.slice a es.length cap) ((none:Option Int).map fun n=>.int .i64 n) ((some MJ).map fun n=>.int .i64 n) ((none:Option Int).map fun n=>.int .i64 n)).run P w=.ok (.slice a' MJ.toNat cap) w∧(a'=a):=⟨_,Da,by first | exact Mt | (split<;>first | rfl | exact Mt | (simp_all))⟩
         obtain⟨a',Da,rfl⟩:=key;have hval:BP (g.upd (Lr cx d) (.slice a' MJ.toNat cap) MJ.toNat true (g.own r) g.S) w (AT (A0 (A0 h r .dead) (Lr cx d) (.arr sz (es.take MJ.toNat)))) (.msl (Lr cx d) MJ.toNat) (.slice a' MJ.toNat cap) :=
          .msl _ _ _ _ _ (by unfold AT;rw[Bg];simp) (by simp[Gh.upd]) (by simp[Gh.upd]) (ha.elim (fun e=>.inl ch) .inr) (fun _=>by simp[Gh.upd])
         obtain⟨k1,k2⟩:=hI.moveO r (Lr cx d) DM hd hl (ob:=g.own r) (fun c h=>h) (.arr sz (es.take MJ.toNat)) (.slice a' MJ.toNat cap) MJ.toNat true B0 (fun IN=>by
          obtain⟨u1,u2,u3,u4⟩:=BG g (Lr cx d) (.slice a' MJ.toNat cap) MJ.toNat true (g.own r) g.S;refine⟨u3,u2.trans CB.symm,fun c hc=>al c (EQ hc),?_⟩;rcases a2 with ⟨b1,b2,b3⟩ | ⟨b,LR,E,vs,b1,b2,b3,b4,b5,b6,b7⟩
          ·subst b1;rw[b2]at hv;cases hv;have h0:MJ.toNat=0:=by simp only[Ax]at h2;omega
           exact .inl ⟨List.take_nil,by rw[u1,h0],u4.trans b3⟩
          ·rw[b1]at hv;cases hv;refine .inr ⟨b,cap,E,vs,by rw[CB];exact u1,u4.trans b2,by rw[CB];omega,b4,b5,?_,b7⟩;rw[CB];exact(CU.takeE al ch b6).mono IN (fun _ h=>h) (fun _ h=>h.elim))
         exact⟨_,w,_,_,_,Da,hk,k1,k2,hval⟩
       ·exact hk.elim
      ·exact hk.elim
     ·exact hk.elim
    ·exact hk.elim
  ·exact hk.elim
 ·exact hk.elim
theorem Xr(hT:CL P cx.T){d:Option Nat}{ty:Nat}{t:Nat→AV}(ht:∀x:Operand,BP g w (AT h) (ev t x) (ρ x)){lo mx:Option Operand}(hx:BP g w (AT h) x vx)(hk:G1 cx d h ty x (Cb t lo) (Cb t hi) (Cb t mx) K):Po P w0 g0 h0 h g w (Instr.sliceAt ty vx (lo.map ρ) (hi.map ρ) (mx.map ρ)) K:=by
 unfold G1 at hk;split at hk
 ·rename_i It MJ qF e1 e2 e3;rw[LC ht e1,LC ht e2,LC ht e3];split at hk
  ·rename_i hs;split at hk
   ·rename_i s;obtain⟨⟨h1,h2,h3⟩,hk⟩:=hk;obtain rfl:=hx.v_eq;have hb:=Vo (P:=P) (w:=w) false s.size s.size It MJ none (.inl rfl) h1 h2 (by simpa using h3) B0;refine(BV.val (x:=.string (s.extract (It.getD 0).toNat (MJ.getD s.size).toNat)) ?_ hk).does hI;simp only[Instr.sliceAt,Sem.run_bind,run_underlying (hT.string hs),Result.andThen_ok,Instr.slice];simp only[Option.map_none,Option.isSome_none,DA,GZ]at hb⊢;simp only[Sem.run_bind,hb,Result.andThen_ok,Sem.run_pure]
   ·exact hk.elim
  ·rename_i e hs;split at hk
   ·exact hk.elim
   ·rename_i k Ev;split at hk
    ·rename_i tk es;have hr:=hx.slice_none;obtain⟨a,cap,hv,Qg⟩:∃a cap,vx=.slice a es.length cap∧es.length≤cap:=by
      cases hr with
      |snil _ a cap=>exact⟨a,cap,rfl,AA _⟩
      |slice _ _ b off sz cap val hc=>exact⟨_,cap,rfl,hc⟩
     subst hv;split at hk
     ·obtain⟨⟨h1,h2,h3⟩,hl,hk⟩:=hk;have Da:=Fe (P:=P) (w:=w) hT hs Ev a es.length cap It MJ none (.inl rfl) h1 h2 (by simp only[Ej];omega) B0;refine BV.does hI ⟨_,_,Da,hk,(BP.sub (c':=cap-(It.getD 0).toNat) hr rfl hl (l:=(It.getD 0).toNat) (m:=(MJ.getD es.length).toNat) ch ch (by simp;omega) _ ?_).up _⟩;split
      ·rename_i e;simp only[Ej,A7]at e;exact .inr ⟨by omega,rfl⟩
      ·exact .inl rfl
     ·rename_i m;split at hk
      ·rename_i d hh;split at hk
       ·obtain⟨⟨h1,h2,rfl,h3⟩,hl,hk⟩:=hk;have Da:=Fe (P:=P) (w:=w) hT hs Ev a es.length cap It (some m) (some m) (.inr B0) h1 h2 B0 (by simp only[CF];omega);simp only[CF]at Da;have CB:((es.take m.toNat).drop (It.getD 0).toNat).length=m.toNat-(It.getD 0).toNat:=by rw[B3,AB];omega
        refine BV.does hI ⟨_,_,Da,hk,.full _ _ _ _ ((BP.sub (c':=m.toNat-(It.getD 0).toNat) hr rfl hl (l:=(It.getD 0).toNat) (m:=m.toNat) ch ch ch _ ?_).up _) (fun c hc=>hl c (EQ (Jd hc))) ⟨_,by rw[CB]⟩⟩;split
        ·rename_i e;exact .inr ⟨e,rfl⟩
        ·exact .inl rfl
       split at hk
       ·rename_i hd;obtain⟨⟨h1,h2,rfl,h3⟩,hl,hk⟩:=hk;have Da:=Fe (P:=P) (w:=w) hT hs Ev a es.length cap It (some m) (some m) (.inr B0) h1 h2 B0 (by simp only[CF];omega);simp only[CF]at Da
        obtain⟨g',k1,k2,k3⟩:=OZ hI (sz:=(cx.T e).size) (n:=m.toNat-(It.getD 0).toNat) hd (es:=(es.take m.toNat).drop (It.getD 0).toNat) (fun c hc=>hl c (EQ (Jd hc))) (by rw[B3,AB];omega)
         (BP.sub (c':=m.toNat-(It.getD 0).toNat) hr rfl hl (l:=(It.getD 0).toNat) (m:=m.toNat) ch ch ch (if m.toNat=(It.getD 0).toNat then a else a.map (·.add ((It.getD 0).toNat*(cx.T e).size))) (by
          split
          ·rename_i e;exact .inr ⟨e,rfl⟩
          ·exact .inl rfl))
        exact⟨_,w,g',_,_,Da,hk,k1,k2,k3⟩
       ·exact hk.elim
      ·exact hk.elim
    ·obtain⟨⟨h1,h2,h3⟩,h4,hk⟩:=hk;obtain rfl:=hx.v_eq;have Da:=Fe (P:=P) (w:=w) hT hs Ev none 0 0 It MJ qF h4 ch (by simp only[Ju]at *;omega) (by simp only[Ju]at *;omega) (by simp only[Ju]at *;omega);refine BV.does hI (BV.val (x:=.slice none 0 0) ?_ hk);rw[Da];simp only[h1,Ju,h2,h3];simp
    ·rename_i r n;split at hk
     ·rename_i sz es e0;split at hk
      ·rename_i Sy;obtain rfl:=AM Sy;obtain⟨⟨h1,h2,h3,h4,h5⟩,hk⟩:=hk;have ho:=hI.objs r;rw[e0]at ho;obtain⟨t1,l1,al,a3⟩:=ho;have hl:(h r).live:=by rw[e0];trivial
       have vZ:qF=none∨MJ≠none:=h5.imp id (fun q=>q.2);cases hx with
       |msl _ _ _ a cap hu ht' hn ha MF =>
        have hv:=MF (h1.trans l1.symm);subst h1;have oz:∀c:Nat,es.length≤c→MJ.getD es.length≤qF.getD c∧qF.getD c≤c:=fun c hc=>by
         rcases h5 with h5 | ⟨h5,DM⟩
         ·rw[h5];simp only[Ej];omega
         ·obtain⟨m,hm⟩:=Option.ne_none_iff_exists'.1 DM;rw[h5,hm];rw[hm]at h3 h4;simp only[CF]at h3 h4⊢;omega
        rcases a3 with ⟨rfl,q2,q3⟩ | ⟨b,LR,E,vs,q1,q2,q3,q4,q5,q6,q7⟩
        ·rw[q2]at hv;cases hv;have Da:=Fe (P:=P) (w:=w) hT hs Ev none 0 0 It MJ qF vZ h2 h3 (oz 0 B0).1 (oz 0 B0).2
         obtain⟨k1,k2⟩:=hI.upd r .dead (g.ρ r) (g.ln r) (g.tk r) (g.own r) g.S w none ⟨rfl,rfl,rfl,Ao _⟩ (fun _ _ _=>rfl) (fun b e=>by cases e) (fun _ _ h=>h) (fun _ _ h=>.inl h) (fun b o e=>by cases e) (fun b hh _=>by cases hh) B0
          (fun _=>⟨rfl,Ao _,fun _=>rfl,fun _=>rfl⟩) (fun _ _=>trivial)
         refine⟨_,w,_,_,_,Da,hk,k1,k2,?_⟩;have z1:((It.getD 0).toNat)=0:=by simp only[Ax,Ju]at h3 h4;omega
         have z2:((MJ.getD (([]:List (List AV)).length:Int)).toNat)=0:=by simp only[Ax,Ju]at h3 h4⊢;omega
         simp only[List.take_nil,List.drop_nil];have z3:((MJ.getD ((0:Nat):Int)).toNat)=0:=z2;rw[z1,z3];exact .snil _ _ _
        ·rw[q1]at hv;cases hv;have Da:=Fe (P:=P) (w:=w) hT hs Ev (some ⟨b,0,none⟩) es.length cap It MJ qF vZ h2 h3 (oz _ q3).1 (oz _ q3).2;have gx:=(hI.loc r b hl q2).1
         obtain⟨k1,k2⟩:=hI.upd r .dead (g.ρ r) (g.ln r) (g.tk r) (g.own r) (g.more b (es.length*(cx.T e).size)) w none ⟨rfl,rfl,rfl,Ao _⟩ (fun _ _ _=>rfl) (fun b e=>by cases e) (fun _ _ h=>.inl h)
          (fun b' o hs=>hs.elim .inl (fun hs=>.inr ⟨by rw[hs.1];exact gx,.inr ⟨hl,by rw[hs.1];exact q2⟩⟩)) (fun b o e=>by cases e) (fun b hh _=>by cases hh) B0
          (fun _=>⟨rfl,Ao _,fun _=>rfl,fun _=>rfl⟩) (fun _ _=>trivial)
         have EG:=BP.slice_row (g:=g.upd r (g.ρ r) (g.ln r) (g.tk r) (g.own r) (g.more b (es.length*(cx.T e).size))) (U:=FQ) q4 al q3 (q6.mono k2.keeps (fun _ h=>h) (fun _ h=>h.elim)) (fun o ho=>.inr ⟨rfl,ho⟩);have Afc:=oz _ q3;refine⟨_,w,_,_,_,Da,hk,k1,k2,(BP.sub (c':=(qF.getD cap).toNat-(It.getD 0).toNat) EG rfl al (l:=(It.getD 0).toNat) (m:=(MJ.getD es.length).toNat) ch ch ch _ ?_).up _⟩;split
         ·rename_i e;exact .inr ⟨by omega,rfl⟩
         ·exact .inl rfl
      ·exact hk.elim
     ·exact hk.elim
    ·exact hk.elim
  ·exact hk.elim
 ·exact hk.elim
theorem Wc(hT:CL P cx.T){d:Option Nat}{ty:Nat}{n c:AV}{vn vc:Value}(hn:BP g w (AT h) n vn)(hc:BP g w (AT h) c vc)(hk:Kj cx d h ty n c K) :
  Po P w0 g0 h0 h g w (Instr.makeSlice ty vn vc) K:=by
 unfold Kj at hk;split at hk
 ·rename_i e n c hs;obtain rfl:=hn.v_eq;obtain rfl:=hc.v_eq;split at hk
  ·rename_i Tc;split at hk
   ·rename_i NZ;have NZ:=AM NZ;split at hk
    ·exact hk.elim
    ·rename_i k Ev;obtain⟨⟨h1,h2,h3,h4⟩,hk⟩:=hk;obtain⟨i,z,i1,i2,i3,i4,i5⟩:=Ie hT Ev;have sv:(cx.T e).zc≠[]:=fun e0=>by rw[e0]at NZ;rw[Ev]at NZ;cases NZ
     have wn:IntKind.i64.wrap n=n:=NV ⟨by omega,by omega⟩;have wc:IntKind.i64.wrap c=c:=NV ⟨by omega,by omega⟩;have Gr:∀l:List AV,(∀a∈l,one a=true)→Hz l=true:=by
      intro l
      induction l with
      |nil=>intro _;rfl
      |cons a l ih=>intro h;simp[Hz,h a (List.mem_cons_self ..),ih (fun b hb=>h b (List.mem_cons_of_mem _ hb))]
     have sn:((Array.range (c.toNat*(cx.T e).size)).map fun k=>z.cells[k % z.cells.size]!).toList=(List.replicate c.toNat (cx.T e).zc).flatten:=by
      rw[ID c.toNat _ sv,NZ,i5];have e6:z.cells.size=(cx.T e).size:=by rw[←NZ,i5];simp
      simp[e6,Array.getElem!_eq_getD]
     have hzs:(cx.T e).zc.length=(cx.T e).size:=NZ;have ya:∀c'∈List.replicate c.toNat (cx.T e).zc,c'.length=(cx.T e).size:=fun c' hc=>by rw[Ci hc];exact NZ
     have Aaz : ∀c'∈List.replicate n.toNat ((cx.T e).zc.map AV.v),c'.length=(cx.T e).size:=fun c' hc=>by rw[Ci hc,A8];exact NZ
     have AaA:∀c'∈List.replicate n.toNat (cx.T e).zc,c'.length=(cx.T e).size:=fun c' hc=>by rw[Ci hc];exact NZ
     obtain⟨g',av,h',q1,q2,q3,q4⟩:=KN hI hk (vs:=(Array.range (c.toNat*(cx.T e).size)).map fun k=>z.cells[k % z.cells.size]!) (cap:=c.toNat) e Aaz (by rw[D0];omega) B0 (by
      rw[sn,D0];have e1:(List.replicate n.toNat ((cx.T e).zc.map AV.v)).flatten=(List.replicate n.toNat (cx.T e).zc).flatten.map AV.v:=by
       rw[TO,List.map_replicate]
      have e2:(List.replicate c.toNat (cx.T e).zc).flatten.take (n.toNat*(cx.T e).size)=(List.replicate n.toNat (cx.T e).zc).flatten:=by
       obtain⟨m,hm⟩:∃m,c.toNat=n.toNat+m:=⟨c.toNat-n.toNat,by omega⟩;rw[hm,←List.replicate_append_replicate,Cn,Ia (by rw[Dt AaA,D0])]
      rw[e1,e2];refine CU.vals (Gr _ (fun a ha=>?_));obtain⟨x,hx,rfl⟩:=Am.1 ha;obtain⟨l,hl,hx⟩:=Eh.1 hx;rw[Ci hl]at hx;exact Nu Tc _ (Am.2 ⟨x,hx,rfl⟩)) w ⟨rfl,rfl,rfl,rfl⟩
     rw[D0]at q4;refine⟨_,_,g',av,h',?_,q1,q2,q3,q4⟩;have hb0:¬((cx.T e).bytes*c>2 ^ 48):=by rw[Int.mul_comm];omega
     have kF:((decide (c<0)||decide (((cx.T e).bytes:Int)*c>2 ^ 48))||decide (n<0)||decide (n>c))=false:=by
      simp only[Bool.or_eq_false_iff,KG];exact⟨⟨⟨by omega,hb0⟩,by omega⟩,by omega⟩
     simp only[Instr.makeSlice,Sem.run_bind,run_underlying (hT.slice hs),Result.andThen_ok,asInt,asIntOf,Sem.run_pure,typeInfo,run_program,i1,i4,wn,wc,kF,DA,GZ,run_askRoom,hT.size1 w Ev]
     by_cases hz:c.toNat*(k+1)=0
     ·have oo:c.toNat=0:=by
       rcases Nat.mul_eq_zero.1 hz with h | h
       ·exact h
       ·cases h
      rw[oo];simp only[Jx,SA];simp only[show Array.range 0=#[]from rfl,Array.map_empty];simp[newRow]
     ·simp only[Ae hz,Sem.run_bind,zeroValue,typeInfo,run_program,i1,i2,Result.andThen_ok,Sem.run_pure];rw[Ev];simp[newRow]
   ·exact hk.elim
  ·exact hk.elim
 ·exact hk.elim
end
end Go.Eng
