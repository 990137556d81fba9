/- Lemmas for the claims of this seat, without a condition: part 9 (EngR, EngS). -/
import Derived.Test.YtddfphmpfnmknaaGreatDoorFA08
namespace Go.Eng
theorem Cu.app{g:Gh}{w:World}{U:Nat→Prop}{T9 bs:List AV}{xs ys:List Value}(h:Cu g w U T9 xs)(k:Cu g w U bs ys):Cu g w U (T9++bs) (xs++ys):=by
 refine⟨by simp[h.1,k.1],fun x hx=>(AU.1 hx).elim (h.2.1 x) (k.2.1 x),fun i av x h1 h2=>?_⟩
 by_cases hi:i<T9.length
 ·rw[AX hi]at h1;rw[AX (by rw[h.1];exact hi)]at h2;exact h.2.2 i av x h1 h2
 ·rw[AY (by omega)]at h1;rw[AY (by rw[h.1];omega),h.1]at h2;exact k.2.2 _ av x h1 h2
section
variable {P:Program}{w0:World}{g0:Gh}{h0 h:Nat→HO}{g:Gh}{w:World}(hI:DB w0 g0 h0 h g w)
include hI
omit hI in
theorem PY(t ty e:TypeId)(i:TypeInfo)(ht:P.underlying t=some (.slice e))(hi:P.info? e=some i){E:TypeId}
  (g NR ZM:Nat) (FA:Array Value) (hg:w.heap[g]?=some (.cells FA E (0,0)))
  (a:Addr) (m c:Nat) (news:List Value) (hl:news.length=m*i.size) (IQ:∀j u,news[j]?=some u→w.cell? (a.add j)=some u) (h1:∀u∈news,u.oneCell'=true)
  (JN:NR+m≤ZM) (Zc:NR*i.size+news.length≤FA.size) :
  (Builtin.append_ #[t,t] ty #[.slice (some ⟨g,0,none⟩) NR ZM,.slice (some a) m c]).run P w =
   .ok (.slice (some ⟨g,0,none⟩) (NR+m) ZM) (w.setRow g (FA.toList.take (NR*i.size)++news++FA.toList.drop (NR*i.size+news.length)).toArray):=by
 have hf:=run_firstCells_some (P:=P) w i.size m a m c news hl IQ;have Jl:=run_storeCells_at P g (NR*i.size) E news 0 FA w hg (by simpa using Zc) h1;simp only[Gf]at Jl;simp[Builtin.append_,run_underlying ht,sizeOf,typeInfo,hi,Builtin.lenOf,JN,hf,Addr.add_lit,Jl]
omit hI in
theorem TF(t ty e:TypeId)(i:TypeInfo)(ht:P.underlying t=some (.slice e))(hi:P.info? e=some i){E:TypeId}
  (g off NR ZM:Nat) (FA:Array Value) (hg:w.heap[g]?=some (.cells FA E (0,0)))
  (a:Addr) (m c:Nat) (news:List Value) (hl:news.length=m*i.size) (IQ:∀j u,news[j]?=some u→w.cell? (a.add j)=some u) (h1:∀u∈news,u.oneCell'=true)
  (JN:NR+m≤ZM) (Zc:off+NR*i.size+news.length≤FA.size) :
  (Builtin.append_ #[t,t] ty #[.slice (some ⟨g,off,none⟩) NR ZM,.slice (some a) m c]).run P w =
   .ok (.slice (some ⟨g,off,none⟩) (NR+m) ZM) (w.setRow g (FA.toList.take (off+NR*i.size)++news++FA.toList.drop (off+NR*i.size+news.length)).toArray):=by
 have hf:=run_firstCells_some (P:=P) w i.size m a m c news hl IQ;have Jl:=run_storeCells_at P g (off+NR*i.size) E news 0 FA w hg (by simpa using Zc) h1;simp only[Gf]at Jl;simp[Builtin.append_,run_underlying ht,sizeOf,typeInfo,hi,Builtin.lenOf,JN,hf,Addr.add_lit,Jl]
omit hI in
theorem lj{b off n m sz cap:Nat}{FA:Array Value}{E:TypeId}{olds news:List Value}(hb:w.heap[b]?=some (.cells FA E (0,0)))(XF:FA.size=off+cap*sz)(hn:n≤cap)(hm:n+m≤cap)(hnl:news.length=m*sz)(hol:olds.length=n*sz)
  (GC:∀j u,olds[j]?=some u→w.cell? ⟨b,off+j,none⟩=some u) :
  (FA.toList.take (off+n*sz)++news++FA.toList.drop (off+n*sz+news.length)).length=off+cap*sz ∧
  ((FA.toList.take (off+n*sz)++news++FA.toList.drop (off+n*sz+news.length)).drop off).take ((n+m)*sz)=olds++news ∧
  ∀o,o<off+n*sz→(FA.toList.take (off+n*sz)++news++FA.toList.drop (off+n*sz+news.length)).toArray[o]?=FA[o]?:=by
 have hcl:FA.toList.length=off+cap*sz:=by rw[BY];exact XF
 have PH:(n+m)*sz≤cap*sz:=Be _ hm;have fR:n*sz≤cap*sz:=Be _ hn;rw[EL]at PH;have Kt:(FA.toList.take (off+n*sz)).drop off=olds:=by
  apply CX;intro j
  by_cases hj:j<n*sz
  ·rw[Dr,BE (by omega)];have hx:olds[j]?=some olds[j]:=At (by omega)
   have:=GC j _ hx
   rw[FD hb]at this;rw[A0,this,hx]
  ·rw[A1 (by rw[Do,AB];omega),A1 (by omega)]
 have l7:(FA.toList.take (off+n*sz)).length=off+n*sz:=by rw[AB];omega
 refine⟨?_,?_,fun o ho=>?_⟩
 ·rw[Ad,Ad,l7,Do,hcl,hnl];omega
 ·rw[BH,List.drop_append_of_le_length (by rw[l7];omega),Kt,←BH,Hq (by rw[Ad,hol,hnl,EL])]
 ·rw[FY,BH,AX (by rw[l7];exact ho),BE ho,A0]
omit hI in
theorem iq{b n m sz cap:Nat}{FA:Array Value}{E:TypeId}{olds news:List Value}(hb:w.heap[b]?=some (.cells FA E (0,0)))(XF:FA.size=cap*sz)(hn:n≤cap)(hm:n+m≤cap)(hnl:news.length=m*sz)(hol:olds.length=n*sz)
  (GC:∀j u,olds[j]?=some u→w.cell? ⟨b,j,none⟩=some u) :
  (FA.toList.take (n*sz)++news++FA.toList.drop (n*sz+news.length)).length=cap*sz ∧
  (FA.toList.take (n*sz)++news++FA.toList.drop (n*sz+news.length)).take ((n+m)*sz)=olds++news ∧
  ∀o,o<n*sz→(FA.toList.take (n*sz)++news++FA.toList.drop (n*sz+news.length)).toArray[o]?=FA[o]?:=by
 have hcl:FA.toList.length=cap*sz:=by rw[BY];exact XF
 have PH:(n+m)*sz≤cap*sz:=Be _ hm;have fR:n*sz≤cap*sz:=Be _ hn;rw[EL]at PH;have Kt:FA.toList.take (n*sz)=olds:=by
  apply CX;intro j
  by_cases hj:j<n*sz
  ·rw[BE hj];have hx:olds[j]?=some olds[j]:=At (by omega)
   have:=GC j _ hx
   rw[FD hb]at this;rw[A0,this,hx]
  ·rw[A1 (by rw[AB];omega),A1 (by omega)]
 have l7:(FA.toList.take (n*sz)).length=n*sz:=by rw[AB];omega
 refine⟨?_,?_,fun o ho=>?_⟩
 ·rw[Ad,Ad,l7,Do,hcl,hnl];omega
 ·rw[Kt,Hq (by rw[Ad,hol,hnl,EL])]
 ·rw[FY,BH,AX (by rw[l7];exact ho),BE ho,A0]
theorem UD{r n sz:Nat}{es:List (List AV)}{x:Value}(he:h r=.arr sz es)(hx:BD g w (AP h) (.msl r n) x)(hn:n=es.length) :
  x=g.ρ r∧∃news,N5 w x es.length sz news∧Cu g w Fi es.flatten news:=by
 have ho:=hI.objs r;rw[he]at ho;obtain⟨t1,l1,al,a1⟩:=ho;cases hx with
 |msl _ _ _ a cap hu ht XM ha Ly =>
  have e:=Ly (hn.trans l1.symm);refine⟨e,?_⟩;rw[e];rcases a1 with ⟨rfl,e2,e3⟩ | ⟨b,KO,E,vs,e1,e2,e3,e4,e5,e6,e7⟩
  ·exact⟨[],⟨by simp,by simp,none,0,e2,.inl rfl⟩,by simp,by simp,fun i av x h1 h2=>by simp at h2⟩
  ·have XF:vs.toList.length=KO*sz:=by rw[BY];exact e5
   have Ho:es.length*sz≤vs.toList.length:=by rw[XF];exact Be _ e3
   refine⟨vs.toList.take (es.length*sz),⟨by rw[AB,Nat.min_eq_left Ho],e6.2.1,_,_,e1,.inr ⟨_,rfl,fun j u hj=>?_⟩⟩,e6⟩;rw[Addr.add_lit,Bg,FD e4];have DA:=(Ap.1 hj).1;rw[AB]at DA;rw[BE (by omega),A0]at hj;exact hj
theorem bS{sz:Nat}{x:AV}{vx:Value}{K:List (List AV)→Prop}(hx:BD g w (AP h) x vx)(hk:KW h x K) :
  ∃es,K es∧((∀c∈es,c.length=sz)→∃news,N5 w vx es.length sz news∧Cu g w Fi es.flatten news):=by
 unfold KW at hk;split at hk
 ·exact⟨_,hk,fun hl=>N5.of_rep hx.slice_none hl⟩
 ·obtain rfl:=hx.v_eq;exact⟨[],hk,fun _=>⟨[],⟨by simp,by simp,none,0,rfl,.inl rfl⟩,by simp,by simp,fun i av x h1 h2=>by simp at h2⟩⟩
 ·rename_i r n;split at hk
  ·rename_i Gq es e;obtain⟨hn,hk⟩:=hk;refine⟨es,hk,fun hl=>?_⟩;obtain⟨_,news,n1,n2⟩:=UD hI e hx hn;refine⟨news,?_,n2⟩
   have:news.length=es.length*sz:=by rw[n2.1,C3 hl]
   exact⟨this,n1.2.1,n1.2.2⟩
  ·exact hk.elim
 ·exact hk.elim
theorem cM{cx:Cx}{d:Option Nat}{sz:Nat}{K:HK}(hk:Eu cx d h sz [] K) :
  ∃g' av h',K av h'∧DB w0 g0 h0 h' g' w∧Le h g w h' g' w∧BD g' w (AP h') av (.slice none 0 0):=by
 have base:∀(d:Nat) (o' : HO),h d=.free→o'≠.free→(∀g' : Gh,g'.ρ d=.slice none 0 0→g'.ln d=0→g'.tk d=true→g'.own d=none→D6 g' w (AP (AT h d o')) d o') →
   DB w0 g0 h0 (AT h d o') (g.upd d (.slice none 0 0) 0 true none g.S) w∧Le h g w (AT h d o') (g.upd d (.slice none 0 0) 0 true none g.S) w:=by
  intro d o' hd Dt Jk;refine hI.upd d o' _ _ _ _ _ w none ⟨rfl,rfl,rfl,Al _⟩ (fun _ _ _=>rfl) (fun b e=>by cases e) (fun _ _ h=>h) (fun _ _ h=>.inl h) (fun b o e=>by cases e) (fun b _ e=>by cases e) Dt (fun hu=>absurd hd hu) (fun _ _=>?_);obtain⟨u1,u2,u3,u4⟩:=Bw g d (.slice none 0 0) 0 true none g.S;exact Jk _ u1 u2 u3 u4
 unfold Eu at hk;split at hk
 ·exact hk.elim
 ·rename_i d;generalize Kp cx d=d1 at hk;split at hk
  ·rename_i hd;split at hk
   ·obtain⟨k1,k2⟩:=base d1 (.arr sz []) hd (by simp) (fun g' u1 u2 u3 u4=>⟨u3,u2,by simp,.inl ⟨rfl,u1,u4⟩⟩);exact⟨_,_,_,hk,k1,k2,.msl _ d1 0 none 0 (by unfold AP;rw[Ba];simp) (by simp[Gh.upd]) (AJ _) (.inl rfl) (fun _=>by simp[Gh.upd])⟩
   ·obtain⟨k1,k2⟩:=base d1 (.tok sz 0) hd (by simp) (fun g' u1 u2 u3 u4=>⟨u3,u2,none,0,u1,.inl ⟨rfl,u4⟩⟩);exact⟨_,_,_,hk,k1,k2,.tok _ d1 sz [] _ (.snil _ _ _) (by simp) (by unfold AP;rw[Ba];simp) (by simp[Gh.upd]) (AJ _) (fun _=>by simp[Gh.upd])⟩
  ·exact hk.elim
theorem YQ{cx:Cx}(hT:Cn P cx.T){d:Option Nat}{t ty:Nat}{s x:AV}{vs vx:Value}{K:HK}(hs:BD g w (AP h) s vs)(hx:BD g w (AP h) x vx)(hk:Ie cx d h t s x K) :
  N0 P w0 g0 h0 h g w (Builtin.append_ #[t,t] ty #[vs,vx]) K:=by
 unfold Ie at hk;split at hk
 ·rename_i e ht;split at hk
  ·exact hk.elim
  ·rename_i hz;have hz:=AH hz;split at hk
   ·exact hk.elim
   ·rename_i k Ew;have h5:=bS hI (sz:=(cx.T e).size) hx hk
    clear hk
    obtain⟨es2,hk,h6⟩:=h5;split at hk
    ·obtain⟨⟨q1,q2,q3⟩,hk⟩:=hk;obtain rfl:=hs.v_eq;obtain⟨news,n1,n2⟩:=h6 (FQ q1);obtain⟨m1,m2,a,c,rfl,m4⟩:=n1
     by_cases hm:es2.length=0
     ·obtain rfl:=AN hm;obtain⟨g',av,h',k1,k2,k3,k4⟩:=cM hI hk;exact⟨_,w,g',av,h',II hT w ht Ew none a 0 0 c (Al _),k1,k2,k3,k4⟩
     ·obtain⟨nc,rest,r1,r2,r3⟩:=HP hT w (ty:=ty) ht Ew hz (olds:=[]) (a:=none) (n:=0) (cap:=0) ⟨by simp,by simp,none,0,rfl,.inl rfl⟩ rfl (fun _=>rfl) ⟨m1,m2,a,c,rfl,m4⟩ rfl (by omega) (by omega) (by rw[Bg];exact q2) (by omega);obtain⟨g',av,h',k1,k2,k3,k4⟩:=JQ hI hk (vs:=([]++news++rest).toArray) (cap:=nc) e (FQ q1) (by omega) (by simpa using r3) (by
       rw[Fx,show(news++rest).toArray.toList=news++rest from rfl,Hq m1];exact n2) w.drew ⟨rfl,rfl,rfl,rfl⟩
      rw[Bg]at r1;exact⟨_,_,g',av,h',r1,k1,k2,k3,k4⟩
    ·rename_i Gq es;split at hk
     ·rename_i QI;obtain QI:=AH QI;obtain⟨⟨q1,q2,q3,q4⟩,hk⟩:=hk;obtain⟨news,n1,n2⟩:=h6 (FQ q1);obtain⟨m1,m2,a2,c2,rfl,m4⟩:=n1;cases hs with
      |full _ _ _ _ hr WO Ly =>
       obtain⟨a,rfl⟩:=Ly;have GP:∀c∈es++es2,c.length=(cx.T e).size:=fun c hc=>(AU.1 hc).elim (fun h=>(WO c h).trans QI) (FQ q1 c);obtain⟨olds,o1,o2⟩:=N5.of_rep hr (sz:=(cx.T e).size) (fun c hc=>(WO c hc).trans QI);have hrl:=o2.app n2;rw[←Cw]at hrl;have ha:a=none→es.length=0:=by
        rintro rfl
        obtain⟨p1,p2,a',c',p3,p4⟩:=o1;cases p3;rcases p4 with h | ⟨b',h,_⟩
        ·exact h
        ·cases h
       obtain⟨nc,rest,r1,r2,r3⟩:=HP hT w (ty:=ty) ht Ew hz o1 rfl ha ⟨m1,m2,a2,c2,rfl,m4⟩ rfl q2 (by omega) q3 q4;obtain⟨g',av,h',k1,k2,k3,k4⟩:=JQ hI hk (vs:=(olds++news++rest).toArray) (cap:=nc) e GP (by rw[Ad];exact r2) (by rw[Fs];exact r3) (by
        rw[show(olds++news++rest).toArray.toList=olds++news++rest from rfl,Hq (by rw[Ad,Ad,o1.1,m1,EL])];exact hrl) w.drew ⟨rfl,rfl,rfl,rfl⟩
       rw[Ad]at k4;exact⟨_,_,g',av,h',r1,k1,k2,k3,k4⟩
     ·exact hk.elim
    ·rename_i r Gq es;have ho:=hI.objs r;split at hk
     ·rename_i sz n e0;rw[e0]at ho;split at hk
      ·rename_i QI vJ;obtain rfl:=AH vJ;obtain QI:=AH QI;obtain⟨⟨q1,q2,q3,q4⟩,hk⟩:=hk;rw[QI]at q1;obtain⟨news,n1,n2⟩:=h6 (FQ q1);obtain⟨m1,m2,a2,c2,rfl,m4⟩:=n1;obtain⟨t1,l1,a,cap,a1,a3⟩:=ho;have hl:(h r).live:=by rw[e0];trivial
       have GP:∀c∈es++es2,es.length=n→True:=fun _ _ _=>trivial;cases hs with
       |tok _ _ _ _ _ hr WO hu ht' hn Ly =>
        have hv:=Ly (q2.trans l1.symm);rw[a1]at hv;subst hv;subst q2;have GP:∀c∈es++es2,c.length=Gq:=fun c hc=>(AU.1 hc).elim (WO c) (fun h=>(FQ q1 c h).trans QI.symm);obtain⟨olds,o1,o2⟩:=N5.of_rep hr WO;have hrl:=o2.app n2;rw[←Cw]at hrl;have ar:es.length≤cap:=by rcases a3 with ⟨e1,_⟩ | ⟨e1,_⟩<;>omega
        by_cases hm:es2.length=0
        ·obtain rfl:=AN hm;have Jk:=hI.objs r;rw[e0]at Jk
         obtain⟨k1,k2⟩:=hI.upd r (.tok Gq (es.length+([]:List (List AV)).length)) (g.ρ r) (g.ln r) (g.tk r) (g.own r) g.S w none ⟨rfl,rfl,rfl,Al _⟩ (fun _ _ _=>rfl) (fun b e=>by cases e) (fun _ _ h=>h) (fun _ _ h=>.inl h) (fun b o e=>by cases e)
          (fun b _ e=>⟨(hI.loc r b hl e).1,.inl ⟨hl,e⟩⟩) (by simp) (fun _=>⟨rfl,Al _,fun _=>rfl,fun _=>rfl⟩) (fun hg HZ=>by
           obtain⟨u1,u2,u3,u4⟩:=Bw g r (g.ρ r) (g.ln r) (g.tk r) (g.own r) g.S;rw[AF,Gf];exact Jk.same HZ (fun i hi=>DI (by simp) i hi) hg u1 u2 u3 u4 (fun b _ _=>⟨rfl,fun _ h=>h⟩))
         refine⟨_,w,_,_,_,II hT w ht Ew a a2 es.length cap c2 ar,hk,k1,k2,?_⟩;rw[BP];exact(BD.tok (AP h) r Gq es _ hr WO hu ht' hn Ly).le k2
        ·by_cases JN:es.length+es2.length≤cap
         ·rcases a3 with ⟨e1,_⟩ | ⟨e1,b,E,FA,off,rfl,e3,e4,e5,e6⟩
          ·omega
          ·rcases m4 with h | ⟨ba,rfl,IQ⟩
           ·omega
           ·obtain⟨i,z,i1,i2,i3,i4,i5⟩:=Hs hT Ew;have PH:(es.length+es2.length)*Gq≤cap*Gq:=Be _ JN;have lS:news.length=es2.length*Gq:=by rw[QI];exact m1
            have Zd:i.size=Gq:=i3.trans QI.symm;have CD:=TF (P:=P) t ty e i (hT.slice ht) i1 b off es.length cap FA e4 ba es2.length c2 news (by rw[Zd];exact lS) IQ m2 JN (by rw[Zd,lS,e5];rw[EL]at PH;omega);rw[Zd]at CD;have GC:∀j u,olds[j]?=some u→w.cell? ⟨b,off+j,none⟩=some u:=by
             obtain⟨p1,p2,a',c',p3,p4⟩:=o1;cases p3;intro j u hj;rcases p4 with h | ⟨b',h,h'⟩
             ·rw[h,IF]at p1;rw[AN p1]at hj;simp at hj
             ·cases h
              have:=h' j u hj
              rwa [Addr.add_lit]at this
            obtain⟨p1,p2,p3⟩:=lj e4 e5 e1 JN lS o1.1 GC;generalize hnewd:FA.toList.take (off+es.length*Gq)++news++FA.toList.drop (off+es.length*Gq+news.length)=new at CD p1 p2 p3;have EQ:=setRow_heap w b FA new.toArray E (0,0) e4;have cf:=(hI.loc r b hl e3).1
            obtain⟨k1,k2⟩:=hI.upd r (.tok Gq (es.length+es2.length)) (.slice (some ⟨b,off,none⟩) (es.length+es2.length) cap) (es.length+es2.length) (g.tk r) (g.own r) (g.more b (off+(es.length+es2.length)*Gq)) (w.setRow b new.toArray) (some b)
             ⟨rfl,rfl,rfl,by rw[size_setRow];exact Al _⟩ (fun k _ Dt=>setRow_other w b k _ (fun e=>Dt (by rw[e]))) (fun b' e=>by cases e;exact⟨hl,e3⟩) (fun _ _ h=>.inl h)
             (fun b' o hs=>hs.elim .inl (fun hs=>.inr ⟨by rw[size_setRow,hs.1];exact cf,.inr ⟨hl,by rw[hs.1];exact e3⟩⟩))
             (fun b' o e hs=>by
              cases e
              refine⟨?_,fun es ck he=>by rw[e4]at he;cases he⟩;rw[FD EQ,FD e4];exact p3 o (e6 o hs)) (fun b' _ e=>by
              rw[e3]at e;cases e;exact⟨by rw[size_setRow];exact cf,.inl ⟨hl,e3⟩⟩) (by simp) (fun _=>⟨rfl,by omega,fun e=>(by rw[t1]at e;cases e),fun e=>by omega⟩) (fun hg HZ=>by
              obtain⟨u1,u2,u3,u4⟩:=Bw g r (.slice (some ⟨b,off,none⟩) (es.length+es2.length) cap) (es.length+es2.length) (g.tk r) (g.own r) (g.more b (off+(es.length+es2.length)*Gq));exact⟨u3.trans t1,u2,_,cap,u1,  .inr ⟨JN,b,E,_,off,rfl,u4.trans e3,EQ,by rw[Fs];exact p1,fun o ho=>by
               rcases ho with ho | ⟨_,ho⟩
               ·have h1:=e6 o ho;have h2:es.length*Gq≤(es.length+es2.length)*Gq:=Be _ (by omega);omega
               ·exact ho⟩⟩)
            have Ed:=BD.slice_off (g:=g.upd r (.slice (some ⟨b,off,none⟩) (es.length+es2.length) cap) (es.length+es2.length) (g.tk r) (g.own r) (g.more b (off+(es.length+es2.length)*Gq))) (U:=AP (AT h r (.tok Gq (es.length+es2.length)))) (cap:=cap) (es:=es++es2) EQ GP (by rw[Ad];exact JN) (by
             rw[Ad,show new.toArray.toList=new from rfl,p2];exact hrl.mono k2.keeps (fun _ h=>h) (fun _ h=>h.elim)) (fun o ho=>.inr ⟨rfl,by rw[Ad]at ho;exact Nat.add_lt_add_left ho off⟩)
            rw[Ad]at Ed;exact⟨_,_,_,_,_,CD,hk,k1,k2,.tok _ r Gq _ _ Ed GP (by unfold AP;rw[Ba];simp) (by simp[Gh.upd,t1]) (by simp[Gh.upd]) (fun _=>by simp[Gh.upd])⟩
         ·have fP:cap<es.length+es2.length:=by omega
          have ha:a=none→cap=0:=by
           rintro rfl
           rcases a3 with ⟨e1,_⟩ | ⟨_,b,_,_,_,e2,_⟩
           ·obtain⟨p1,p2,a',c',p3,p4⟩:=o1;cases p3;rcases p4 with h | ⟨b',h,_⟩
            ·omega
            ·cases h
           ·cases e2
          obtain⟨nc,rest,r1,r2,r3⟩:=HP hT w (ty:=ty) ht Ew hz (by rw[←QI];exact o1) rfl ha ⟨m1,m2,a2,c2,rfl,m4⟩ rfl (by omega) fP q3 q4;have EQ:=HB w.drew (.cells (olds++news++rest).toArray e (0,0)) (b:=w.heap.size) rfl
          obtain⟨k1,k2⟩:=hI.upd r (.tok Gq (es.length+es2.length)) (.slice (some ⟨w.heap.size,0,none⟩) (es.length+es2.length) nc) (es.length+es2.length) (g.tk r) (some w.heap.size) (g.more w.heap.size ((es.length+es2.length)*Gq))
           (w.drew.alloc (.cells (olds++news++rest).toArray e (0,0))) none
           ⟨rfl,rfl,rfl,by rw[World.size_alloc];exact Nat.le_succ _⟩ (fun k J4 _=>by rw[heap_alloc_old _ _ (by exact J4)];rfl) (fun b' e=>by cases e) (fun _ _ h=>.inl h)
           (fun b' o hs=>hs.elim .inl (fun hs=>.inr ⟨by rw[World.size_alloc,hs.1];exact Lx _,.inl (by rw[hs.1];exact Al _)⟩))
           (fun b' o e=>by cases e) (fun b' _ e=>by cases e;exact⟨by rw[World.size_alloc];exact Lx _,.inr (Al _)⟩) (by simp) (fun _=>⟨rfl,by omega,fun e=>(by rw[t1]at e;cases e),fun e=>by omega⟩) (fun hg HZ=>by
            obtain⟨u1,u2,u3,u4⟩:=Bw g r (.slice (some ⟨w.heap.size,0,none⟩) (es.length+es2.length) nc) (es.length+es2.length) (g.tk r) (some w.heap.size) (g.more w.heap.size ((es.length+es2.length)*Gq));exact⟨u3.trans t1,u2,_,nc,u1,.inr ⟨r2,w.heap.size,e,_,0,rfl,u4,EQ,by rw[Fs,QI,Bg];exact r3,fun o ho=>by
             rcases ho with ho | ⟨_,ho⟩
             ·have:=hI.slt _ _ ho;omega
             ·omega⟩⟩)
          have Ed:=BD.slice_row (g:=g.upd r (.slice (some ⟨w.heap.size,0,none⟩) (es.length+es2.length) nc) (es.length+es2.length) (g.tk r) (some w.heap.size) (g.more w.heap.size ((es.length+es2.length)*Gq))) (U:=AP (AT h r (.tok Gq (es.length+es2.length)))) (cap:=nc) (es:=es++es2) EQ GP (by rw[Ad];exact r2) (by
           rw[Ad,show(olds++news++rest).toArray.toList=olds++news++rest from rfl,Hq (by rw[Ad,o1.1,m1,QI,EL])];exact hrl.mono k2.keeps (fun _ h=>h) (fun _ h=>h.elim)) (fun o ho=>.inr ⟨rfl,by rw[Ad]at ho;exact ho⟩)
          rw[Ad]at Ed;exact⟨_,_,_,_,_,r1,hk,k1,k2,.tok _ r Gq _ _ Ed GP (by unfold AP;rw[Ba];simp) (by simp[Gh.upd,t1]) (by simp[Gh.upd]) (fun _=>by simp[Gh.upd])⟩
      ·exact hk.elim
     ·exact hk.elim
    ·rename_i r n;have ho:=hI.objs r;split at hk
     ·rename_i sz es e0;split at hk
      ·rename_i QI;obtain QI:=AH QI;obtain⟨⟨q1,q2,q3,q4⟩,hk⟩:=hk;rw[QI]at q1;obtain⟨news,n1,n2⟩:=h6 (FQ q1);obtain⟨m1,m2,a2,c2,rfl,m4⟩:=n1;obtain⟨hv,olds,o1,o2⟩:=UD hI e0 hs q2.symm;have Jk:=ho;rw[e0]at ho;obtain⟨t1,l1,al,a3⟩:=ho;have hl:(h r).live:=by rw[e0];trivial
       subst hv;have GP:∀c∈es++es2,c.length=sz:=fun c hc=>(AU.1 hc).elim (al c) (fun h=>(FQ q1 c h).trans QI.symm);have hrl:=o2.app n2;rw[←Cw]at hrl;obtain⟨a,cap,hρ,ar,ha⟩:∃a cap,g.ρ r=.slice a es.length cap∧es.length≤cap∧(a=none→cap=0):=by
        rcases a3 with ⟨rfl,e2,e3⟩ | ⟨b,cap,E,FA,e1,e2,e3,e4,e5,e6,e7⟩
        ·exact⟨none,0,e2,Al _,fun _=>rfl⟩
        ·exact⟨_,cap,e1,e3,fun e=>by cases e⟩
       by_cases hm:es2.length=0
       ·obtain rfl:=AN hm;rw[e0]at Jk
        obtain⟨k1,k2⟩:=hI.upd r (.arr sz (es++[])) (g.ρ r) (g.ln r) (g.tk r) (g.own r) g.S w none ⟨rfl,rfl,rfl,Al _⟩ (fun _ _ _=>rfl) (fun b e=>by cases e) (fun _ _ h=>h) (fun _ _ h=>.inl h) (fun b o e=>by cases e)
         (fun b _ e=>⟨(hI.loc r b hl e).1,.inl ⟨hl,e⟩⟩) (by simp) (fun _=>⟨rfl,Al _,fun _=>rfl,fun _=>rfl⟩) (fun hg HZ=>by
          obtain⟨u1,u2,u3,u4⟩:=Bw g r (g.ρ r) (g.ln r) (g.tk r) (g.own r) g.S;rw[BP];exact Jk.same HZ (fun i hi=>DI (by simp) i hi) hg u1 u2 u3 u4 (fun b _ _=>⟨rfl,fun _ h=>h⟩))
        refine⟨g.ρ r,w,_,_,_,?_,hk,k1,k2,?_⟩
        ·rw[hρ];exact II hT w ht Ew a a2 es.length cap c2 ar
        ·have:=hs.le k2
         rw[←q2]at this;exact this
       ·by_cases JN:es.length+es2.length≤cap
        ·rcases a3 with ⟨rfl,e2,e3⟩ | ⟨b,KO,E,FA,e1,e2,e3,e4,e5,e6,e7⟩
         ·rw[e2]at hρ;cases hρ;omega
         ·rw[e1]at hρ;simp only[Value.slice.injEq,true_and]at hρ;obtain⟨rfl,rfl⟩:=hρ;rcases m4 with h | ⟨ba,rfl,IQ⟩
          ·omega
          ·obtain⟨i,z,i1,i2,i3,i4,i5⟩:=Hs hT Ew;have PH:(es.length+es2.length)*sz≤KO*sz:=Be _ JN;have lS:news.length=es2.length*sz:=by rw[QI];exact m1
           have Zd:i.size=sz:=i3.trans QI.symm;have CD:=PY (P:=P) t ty e i (hT.slice ht) i1 b es.length KO FA e4 ba es2.length c2 news (by rw[Zd];exact lS) IQ m2 JN (by rw[Zd,lS,←EL,e5];exact PH);rw[Zd]at CD;have GC:∀j u,olds[j]?=some u→w.cell? ⟨b,j,none⟩=some u:=by
            obtain⟨p1,p2,a',c',p3,p4⟩:=o1;rw[e1]at p3;cases p3;intro j u hj;rcases p4 with h | ⟨b',h,h'⟩
            ·rw[h,IF]at p1;rw[AN p1]at hj;simp at hj
            ·cases h
             have:=h' j u hj
             rwa [Addr.add_lit,Bg]at this
           obtain⟨p1,p2,p3⟩:=iq e4 e5 e3 JN lS o1.1 GC;generalize hnewd:FA.toList.take (es.length*sz)++news++FA.toList.drop (es.length*sz+news.length)=new at CD p1 p2 p3;have EQ:=setRow_heap w b FA new.toArray E (0,0) e4;have cf:=(hI.loc r b hl e2).1
           obtain⟨k1,k2⟩:=hI.upd r (.arr sz (es++es2)) (.slice (some ⟨b,0,none⟩) (es.length+es2.length) KO) (es.length+es2.length) (g.tk r) (g.own r) g.S (w.setRow b new.toArray) (some b)
            ⟨rfl,rfl,rfl,by rw[size_setRow];exact Al _⟩ (fun k _ Dt=>setRow_other w b k _ (fun e=>Dt (by rw[e]))) (fun b' e=>by cases e;exact⟨hl,e2⟩) (fun _ _ h=>h) (fun _ _ h=>.inl h)
            (fun b' o e hs=>by cases e;exact absurd hs (e7 o)) (fun b' _ e=>by
             rw[e2]at e;cases e;exact⟨by rw[size_setRow];exact cf,.inl ⟨hl,e2⟩⟩) (by simp) (fun _=>⟨rfl,by omega,fun e=>(by rw[t1]at e;cases e),fun e=>by omega⟩) (fun hg HZ=>by
             obtain⟨u1,u2,u3,u4⟩:=Bw g r (.slice (some ⟨b,0,none⟩) (es.length+es2.length) KO) (es.length+es2.length) (g.tk r) (g.own r) g.S;refine⟨u3.trans t1,by rw[u2,Ad],GP,.inr ⟨b,KO,E,_,by rw[u1,Ad],u4.trans e2,by rw[Ad];exact JN,EQ,by rw[Fs];exact p1,?_,e7⟩⟩;rw[Ad,show new.toArray.toList=new from rfl,p2];exact hrl.mono HZ (fun _ h=>h) (fun _ h=>h.elim))
           rw[e1];exact⟨_,_,_,_,_,CD,hk,k1,k2,.msl _ r _ _ _ (by unfold AP;rw[Ba];simp) (by simp[Gh.upd,t1]) (by simp[Gh.upd]) (.inr ⟨_,rfl⟩) (fun _=>by simp[Gh.upd])⟩
        ·have fP:cap<es.length+es2.length:=by omega
         obtain⟨nc,rest,r1,r2,r3⟩:=HP hT w (ty:=ty) ht Ew hz (by rw[←QI];exact o1) hρ ha ⟨m1,m2,a2,c2,rfl,m4⟩ rfl (by omega) fP q3 q4;have EQ:=HB w.drew (.cells (olds++news++rest).toArray e (0,0)) (b:=w.heap.size) rfl
         obtain⟨k1,k2⟩:=hI.upd r (.arr sz (es++es2)) (.slice (some ⟨w.heap.size,0,none⟩) (es.length+es2.length) nc) (es.length+es2.length) (g.tk r) (some w.heap.size) g.S
          (w.drew.alloc (.cells (olds++news++rest).toArray e (0,0))) none
          ⟨rfl,rfl,rfl,by rw[World.size_alloc];exact Nat.le_succ _⟩ (fun k J4 _=>by rw[heap_alloc_old _ _ (by exact J4)];rfl) (fun b' e=>by cases e) (fun _ _ h=>h) (fun _ _ h=>.inl h)
          (fun b' o e=>by cases e) (fun b' _ e=>by cases e;exact⟨by rw[World.size_alloc];exact Lx _,.inr (Al _)⟩) (by simp) (fun _=>⟨rfl,by omega,fun e=>(by rw[t1]at e;cases e),fun e=>by omega⟩) (fun hg HZ=>by
           obtain⟨u1,u2,u3,u4⟩:=Bw g r (.slice (some ⟨w.heap.size,0,none⟩) (es.length+es2.length) nc) (es.length+es2.length) (g.tk r) (some w.heap.size) g.S;refine⟨u3.trans t1,by rw[u2,Ad],GP,.inr ⟨w.heap.size,nc,e,_,by rw[u1,Ad],u4,by rw[Ad];exact r2,EQ,by rw[Fs,QI];exact r3,?_,fun o ho=>by have:=hI.slt _ _ ho;omega⟩⟩;rw[Ad,show(olds++news++rest).toArray.toList=olds++news++rest from rfl,Hq (by rw[Ad,o1.1,m1,QI,EL])];exact hrl.mono HZ (fun _ h=>h) (fun _ h=>h.elim))
         exact⟨_,_,_,_,_,r1,hk,k1,k2,.msl _ r _ _ _ (by unfold AP;rw[Ba];simp) (by simp[Gh.upd,t1]) (by simp[Gh.upd]) (.inr ⟨_,rfl⟩) (fun _=>by simp[Gh.upd])⟩
      ·exact hk.elim
     ·exact hk.elim
    ·exact hk.elim
 ·exact hk.elim
end
section
variable {P:Program}{w0:World}{g0:Gh}{h0 h:Nat→HO}{g:Gh}{w:World}(hI:DB w0 g0 h0 h g w)
include hI
theorem NM{d sz n:Nat}{es:List (List AV)}{a:Option Addr}(hd:h d=.free)(hl:∀c∈es,c.length=sz)(hn:es.length=n)(hr:BD g w Fi (.slice .none es) (.slice a n n)) :
  ∃g',DB w0 g0 h0 (AT h d (.tok sz n)) g' w∧Le h g w (AT h d (.tok sz n)) g' w∧BD g' w (AP (AT h d (.tok sz n))) (.slice (.id d sz) es) (.slice a n n):=by
 obtain⟨k1,k2⟩:=hI.upd d (.tok sz n) (.slice a n n) n true none g.S w none ⟨rfl,rfl,rfl,Al _⟩ (fun _ _ _=>rfl) (fun b e=>by cases e) (fun _ _ h=>h) (fun _ _ h=>.inl h) (fun b o e=>by cases e) (fun b _ e=>by cases e) (by simp)
  (fun hu=>absurd hd hu) (fun _ _=>by
   obtain⟨u1,u2,u3,u4⟩:=Bw g d (.slice a n n) n true none g.S;exact⟨u3,u2,a,n,u1,.inl ⟨rfl,u4⟩⟩)
 exact⟨_,k1,k2,.tok _ d sz es _ (((hr.up (AP h)).le k2)) hl (by unfold AP;rw[Ba];simp) (by simp[Gh.upd]) (by simp[Gh.upd,hn]) (fun _=>by simp[Gh.upd])⟩
theorem YR{cx:Cx}{d:Option Nat}{x:AV}{vx:Value}{K:HK}(hx:BD g w (AP h) x vx)(hk:Oa cx d h x K):∃g' av h',K av h'∧DB w0 g0 h0 h' g' w∧Le h g w h' g' w∧BD g' w (AP h') av vx:=by
 have plain:K x h→∃g' av h',K av h'∧DB w0 g0 h0 h' g' w∧Le h g w h' g' w∧BD g' w (AP h') av vx:=fun hk=>⟨g,x,h,hk,hI,.refl _ _ _,hx⟩;unfold Oa at hk;split at hk
 ·exact plain hk
 ·rename_i d;split at hk
  ·rename_i sz _;split at hk
   ·refine⟨g,yW x,h,hk,hI,.refl _ _ _,?_⟩;cases x with
    |slice tk es=>exact(BD.slice_none hx).up _
    |_=>exact hx
   ·split at hk
    ·split at hk
     ·rename_i hd;obtain rfl:=hx.v_eq;obtain⟨g',k1,k2,k3⟩:=NM hI (sz:=sz) (es:=[]) (a:=none) hd (by simp) rfl (.snil _ _ _);exact⟨g',_,_,hk,k1,k2,k3⟩
     ·exact hk.elim
    ·exact plain hk
  ·split at hk
   ·rename_i sz _;split at hk
    ·split at hk
     ·rename_i hd;obtain rfl:=hx.v_eq
      obtain⟨k1,k2⟩:=hI.upd d (.arr sz []) (.slice none 0 0) 0 true none g.S w none ⟨rfl,rfl,rfl,Al _⟩ (fun _ _ _=>rfl) (fun b e=>by cases e) (fun _ _ h=>h) (fun _ _ h=>.inl h) (fun b o e=>by cases e) (fun b _ e=>by cases e) (by simp)
       (fun hu=>absurd hd hu) (fun _ _=>by
        obtain⟨u1,u2,u3,u4⟩:=Bw g d (.slice none 0 0) 0 true none g.S;exact⟨u3,u2,by simp,.inl ⟨rfl,u1,u4⟩⟩)
      exact⟨_,_,_,hk,k1,k2,.msl _ d 0 none 0 (by unfold AP;rw[Ba];simp) (by simp[Gh.upd]) (AJ _) (.inl rfl) (fun _=>by simp[Gh.upd])⟩
     ·exact hk.elim
    ·exact plain hk
   ·exact plain hk
theorem XZ{T:Gs}{mku:List Nat}{d:Option Nat}{ty:Nat}{K:HK}(hk:Kv T mku d h ty K):N0 P w0 g0 h0 h g w (Instr.makeMap ty none) K:=by
 unfold Kv at hk;split at hk
 ·exact hk.elim
 ·rename_i d;split at hk
  ·rename_i hd;split at hk
   ·split at hk
    ·rename_i sh _;split at hk
     ·obtain⟨k1,k2⟩:=hI.newOwn hd (.mapU sh []) (.map #[] 0) (.map (some w.heap.size)) 0 false w ⟨rfl,rfl,rfl,rfl⟩ (by simp) (fun hg HZ=>by
       obtain⟨u1,u2,u3,u4⟩:=Bw g d (.map (some w.heap.size)) 0 false (some w.heap.size) g.S;exact⟨u3,w.heap.size,#[],0,u4,u1,HB w _ rfl,⟨rfl,by simp,by simp,by simp,by simp,by simp⟩,by simp,fun o ho=>by have:=hI.slt _ _ ho;omega⟩)
      refine⟨_,_,_,_,_,?_,hk,k1,k2,.mref _ d w.heap.size (by unfold AP;rw[Ba];simp) ?_ ?_⟩
      ·simp[Instr.makeMap]
      ·simp[Gh.upd]
      ·simp[Gh.upd]
     ·obtain⟨k1,k2⟩:=hI.newOwn hd (.map sh []) (.map #[] 0) (.map (some w.heap.size)) 0 false w ⟨rfl,rfl,rfl,rfl⟩ (by simp) (fun hg HZ=>by
       obtain⟨u1,u2,u3,u4⟩:=Bw g d (.map (some w.heap.size)) 0 false (some w.heap.size) g.S;exact⟨u3,w.heap.size,#[],0,u4,u1,HB w _ rfl,⟨rfl,by simp,by simp,by simp,by simp,by simp⟩,by simp,fun o ho=>by have:=hI.slt _ _ ho;omega⟩)
      refine⟨_,_,_,_,_,?_,hk,k1,k2,.mref _ d w.heap.size (by unfold AP;rw[Ba];simp) ?_ ?_⟩
      ·simp[Instr.makeMap]
      ·simp[Gh.upd]
      ·simp[Gh.upd]
    ·exact hk.elim
   ·exact hk.elim
  ·exact hk.elim
omit hI in
theorem BD.sub{es:List (List AV)}{sz l m:Nat}{x:Value}{a:Option Addr}{n cap:Nat}(hr:BD g w Fi (.slice .none es) x)(hx:x=.slice a n cap)(hl:∀c∈es,c.length=sz)(h1:l≤m)(h2:m≤es.length)(c' : Nat)(hc:m-l≤c')(a' : Option Addr)
  (ha:a'=a.map (·.add (l*sz))∨(m=l∧a'=a)):BD g w Fi (.slice .none ((es.take m).drop l)) (.slice a' (m-l) c'):=by
 subst hx;have Cq:((es.take m).drop l).length=m-l:=by rw[Do,AB];omega
 by_cases h0:m-l=0
 ·have:(es.take m).drop l=[]:=AN (by omega)
  rw[this,h0];exact .snil _ _ _
 ·cases hr with
  |snil=>simp at h2;omega
  |slice _ _ b off Gq cap val o6 PG Dw Ed =>
   have hz:Gq=sz:=by
    have:(0:Nat)<es.length:=by omega
    have h3:=PG 0 es[0] (At this);rw[←h3];exact hl _ (AC this)
   subst hz;have zP : a'=some ⟨b,off+l*Gq,none⟩:=by
    rcases ha with h | ⟨h,_⟩
    ·rw[h];simp[Addr.add_lit]
    ·omega
   subst zP;rw[←Cq];have Fc:∀(i:Nat) (cs:List AV),((es.take m).drop l)[i]?=some cs→es[l+i]?=some cs:=fun i cs h=>by
    rw[Dr]at h
    by_cases hi:l+i<m
    ·rwa [BE hi]at h
    ·rw[A1 (by rw[AB];omega)]at h;cases h
   refine .slice _ _ b (off+l*Gq) Gq c' (fun i j=>val (l+i) j) (by rw[Cq];exact hc) (fun i cs h=>PG _ _ (Fc i cs h)) (fun i cs j av h1 h2=>?_) (fun i cs j av h1 h2=>Ed _ _ _ _ (Fc i cs h1) h2)
   have:=Dw _ _ _ _ (Fc i cs h1) h2
   rwa [show off+(l+i)*Gq+j=off+l*Gq+i*Gq+j by rw[EL];omega]at this
omit hI in
theorem KA{t:Nat→AV}{ρ:Operand→Value}(ht:∀x:Operand,BD g w (AP h) (ev t x) (ρ x)){o:Option Operand}{i:Option Int}(hk:B2 t o=some i):o.map ρ=i.map fun n=>.int .i64 n:=by
 cases o with
 |none=>cases hk;rfl
 |some x =>
  unfold B2 at hk;dsimp only at hk;split at hk
  ·rename_i n e;cases hk
   have:=ht x
   rw[e]at this;simp[this.v_eq]
  ·cases hk
omit hI in
theorem TG(b:Bool)(len cap:Nat)(lo hi mx:Option Int)(kf:mx=none∨hi≠none)(h0:0≤lo.getD 0)(h1:lo.getD 0≤hi.getD len)(h2:hi.getD len≤mx.getD cap)(h3:mx.getD cap≤cap) :
  (Instr.sliceBounds b len cap (lo.map fun n=>.int .i64 n) (hi.map fun n=>.int .i64 n) (mx.map fun n=>.int .i64 n)).run P w=.ok ((lo.getD 0).toNat,(hi.getD len).toNat,(mx.getD cap).toNat) w:=by
 have e1:∀n:Int,0≤n→(n.toNat:Int)=n:=fun n hn=>Int.toNat_of_nonneg hn;cases mx with
 |none =>
  cases hi with
  |none =>
   cases lo with
   |none=>simp[Instr.sliceBounds]
   |some l =>
    simp only[Cj,DZ]at h0 h1 h2;simp[Instr.sliceBounds,run_sliceBound,h0,h1]
  |some hh =>
   simp only[Cj,DZ]at h1 h2;have qD:0≤hh:=by omega
   cases lo with
   |none=>simp[Instr.sliceBounds,run_sliceBound,qD,h2]
   |some l =>
    simp only[Cj]at h0 h1;simp[Instr.sliceBounds,run_sliceBound,h0,h1,h2,qD,e1]
 |some m =>
  cases hi with
  |none=>simp at kf
  |some hh =>
   simp only[Cj]at h1 h2 h3;have qD:0≤hh:=by omega
   have sT:0≤m:=by omega
   cases lo with
   |none=>simp[Instr.sliceBounds,run_sliceBound,h2,h3,qD,sT,e1]
   |some l =>
    simp only[Cj]at h0 h1;simp[Instr.sliceBounds,run_sliceBound,h0,h1,h2,h3,qD,sT,e1]
omit hI in
theorem EI{T:Gs}(hT:Cn P T){ty e k:Nat}(ht:(T ty).d=.slice e)(hk:(T e).size=k+1)(a:Option Addr)(len cap:Nat)(lo hi mx:Option Int)(kf:mx=none∨hi≠none)(h0:0≤lo.getD 0)(h1:lo.getD 0≤hi.getD len)(h2:hi.getD len≤mx.getD cap)(h3:mx.getD cap≤cap) :
  (Instr.sliceAt ty (.slice a len cap) (lo.map fun n=>.int .i64 n) (hi.map fun n=>.int .i64 n) (mx.map fun n=>.int .i64 n)).run P w =
   .ok (.slice (if(mx.getD cap).toNat=(lo.getD 0).toNat then a else a.map (·.add ((lo.getD 0).toNat*(T e).size))) ((hi.getD len).toNat-(lo.getD 0).toNat) ((mx.getD cap).toNat-(lo.getD 0).toNat)) w:=by
 have hu:=hT.slice ht;have hb:=TG (P:=P) (w:=w) true len cap lo hi mx kf h0 h1 h2 h3;simp only[Instr.sliceAt,Sem.run_bind,run_underlying hu,Result.andThen_ok,Instr.slice,hb,hT.size1 w hk,Sem.run_pure];rw[hk]
theorem DB.moveO(r r2:Nat)(Dt:r2≠r)(hf:h r2=.free)(hl:(h r).live){ob:Option Nat}(ho:∀c,ob=some c→g.own r=some c)(o' : HO)(x:Value)(n:Nat)(t:Bool)(hn:o'≠.free)
  (Jk:EA g w (g.upd r2 x n t ob g.S) w→D6 (g.upd r2 x n t ob g.S) w (AP (AT (AT h r .dead) r2 o')) r2 o') :
  DB w0 g0 h0 (AT (AT h r .dead) r2 o') (g.upd r2 x n t ob g.S) w∧Le h g w (AT (AT h r .dead) r2 o') (g.upd r2 x n t ob g.S) w:=by
 have dL:JX g (g.upd r2 x n t ob g.S) (AP h):=by
  intro i hi;have e:i≠r2:=fun e=>hi (by rw[e];exact hf);refine⟨by simp[Gh.upd,e],by simp[Gh.upd,e],fun _=>by simp[Gh.upd,e],fun _=>by simp[Gh.upd,e]⟩
 have hK:EA g w (g.upd r2 x n t ob g.S) w:=fun b o hb=>⟨hb,rfl,fun _ _ h=>h⟩;have Kd:∀i,AP h i→AP (AT (AT h r .dead) r2 o') i:=fun i hi=>DI hn i (DI (by simp) i hi);have key:∀i,i≠r2→(AT (AT h r .dead) r2 o' i).live→i≠r∧(h i).live:=fun i h2 hl=>by
  rw[BV _ _ _ _ h2]at hl
  by_cases e:i=r
  ·subst e;rw[Ba]at hl;exact hl.elim
  ·rw[BV _ _ _ _ e]at hl;exact⟨e,hl⟩
 have own:∀i,i≠r2→(g.upd r2 x n t ob g.S).own i=g.own i:=fun i e=>by simp[Gh.upd,e]
 have Tt:(g.upd r2 x n t ob g.S).own r2=ob:=by simp[Gh.upd]
 refine⟨⟨hI.os,hI.tape,hI.output,hI.size,hI.frame,hI.slt,fun i=>?_,fun i j c hi hj ei ej=>?_,fun i c hi ei=>?_,hI.sg,hI.glob.keep hK⟩,dL,Kd,hK⟩
 ·by_cases e:i=r2
  ·subst e;rw[Ba];exact Jk hK
  ·rw[BV _ _ _ _ e]
   by_cases e1:i=r
   ·subst e1;rw[Ba];trivial
   ·rw[BV _ _ _ _ e1];exact(hI.objs i).same hK Kd dL (by simp[Gh.upd,e]) (by simp[Gh.upd,e]) (by simp[Gh.upd,e]) (by simp[Gh.upd,e]) (fun b hl hb=>⟨rfl,fun k hk=>hk⟩)
 ·by_cases e1:i=r2<;>by_cases e2:j=r2
  ·exact e1.trans e2.symm
  ·subst e1;rw[Tt]at ei;rw[own j e2]at ej;obtain⟨a1,a2⟩:=key j e2 hj;exact absurd (hI.inj j r _ a2 hl ej (ho _ ei)) a1
  ·subst e2;rw[Tt]at ej;rw[own i e1]at ei;obtain⟨a1,a2⟩:=key i e1 hi;exact absurd (hI.inj i r _ a2 hl ei (ho _ ej)) a1
  ·rw[own i e1]at ei;rw[own j e2]at ej;exact hI.inj i j c (key i e1 hi).2 (key j e2 hj).2 ei ej
 ·by_cases e1:i=r2
  ·subst e1;rw[Tt]at ei;exact hI.loc r _ hl (ho _ ei)
  ·rw[own i e1]at ei;exact hI.loc i c (key i e1 hi).2 ei
theorem Yr{cx:Cx}(hT:Cn P cx.T){d:Option Nat}{ty:Nat}{x:AV}{vx:Value}{t:Nat→AV}{ρ:Operand→Value}(ht:∀x:Operand,BD g w (AP h) (ev t x) (ρ x)){lo hi mx:Option Operand}{K:HK}(hx:BD g w (AP h) x vx)
  (hk:TC cx d h ty x (B2 t lo) hi mx K):N0 P w0 g0 h0 h g w (Instr.sliceAt ty vx (lo.map ρ) (hi.map ρ) (mx.map ρ)) K:=by
 unfold TC at hk;split at hk
 ·rename_i d HD e1;rw[KA ht e1];split at hk
  ·rename_i e hs;split at hk
   ·exact hk.elim
   ·rename_i k Ew;split at hk
    ·rename_i r sz es;split at hk
     ·rename_i Gq n e0;split at hk
      ·rename_i hd;split at hk
       ·rename_i q1 q2;obtain rfl:=AH q1;have q2:=AH q2;obtain⟨⟨rfl,h1,h2⟩,hk⟩:=hk;have hl:(h r).live:=by rw[e0];trivial
        have Dt:Kp cx d≠r:=fun e=>by rw[e,e0]at hd;cases hd
        have ho:=hI.objs r;rw[e0]at ho;obtain⟨t1,l1,a,cap,a1,a3⟩:=ho;have hr:=hx.slice_none;cases hx with
        |tok _ _ _ _ _ ph WO hu ht' hn Ly =>
         have hv:=Ly l1.symm;rw[a1]at hv;subst hv;have ar:es.length≤cap:=by rcases a3 with ⟨e1,_⟩ | ⟨e1,_⟩<;>omega
         have CD:=EI (P:=P) (w:=w) hT hs Ew a es.length cap (some HD) none none (.inl rfl) h1 h2 (by simp only[DZ];omega) (by simp);simp only[Cj,DZ,Ch]at CD;have Cq:(es.drop HD.toNat).length=es.length-HD.toNat:=Do;have fX:=BD.sub (c':=cap-HD.toNat) hr rfl WO (l:=HD.toNat) (m:=es.length) (by omega) (Al _) (by omega) (if cap=HD.toNat then a else a.map (·.add (HD.toNat*(cx.T e).size))) (by
          split
          ·exact .inr ⟨by omega,rfl⟩
          ·rw[q2];exact .inl rfl)
         rw[DX]at fX
         have fin:∀ob:Option Nat,(∀c,ob=some c→g.own r=some c)→(es.length-HD.toNat=cap-HD.toNat∧ob=none∨es.length-HD.toNat≤cap-HD.toNat∧∃b E vs off,(if cap=HD.toNat then a else a.map (·.add (HD.toNat*(cx.T e).size)))=some ⟨b,off,none⟩∧ob=some b∧w.heap[b]?=some (.cells vs E (0,0))∧vs.size=off+(cap-HD.toNat)*Gq∧∀o,g.S b o→o<off+(es.length-HD.toNat)*Gq) →
           N0 P w0 g0 h0 h g w (Instr.sliceAt ty (.slice a es.length cap) ((some HD).map fun n=>.int .i64 n) ((none:Option Operand).map ρ) ((none:Option Operand).map ρ)) K:=fun ob ho qR=>by
          obtain⟨k1,k2⟩:=hI.moveO r (Kp cx d) Dt hd hl ho (.tok Gq (es.drop HD.toNat).length) (.slice (if cap=HD.toNat then a else a.map (·.add (HD.toNat*(cx.T e).size))) (es.length-HD.toNat) (cap-HD.toNat)) (es.length-HD.toNat) true (by simp) (fun HZ=>by
           obtain⟨u1,u2,u3,u4⟩:=Bw g (Kp cx d) (.slice (if cap=HD.toNat then a else a.map (·.add (HD.toNat*(cx.T e).size))) (es.length-HD.toNat) (cap-HD.toNat)) (es.length-HD.toNat) true ob g.S;refine⟨u3,u2.trans Cq.symm,_,_,by rw[Cq];exact u1,?_⟩;rw[Cq,u4];exact qR)
          exact⟨_,w,_,_,_,CD,hk,k1,k2,.tok _ _ _ _ _ (((fX.mono k2.keeps (fun _ h=>h) (fun _ h=>h.elim))).up _) (fun c hc=>WO c (Im hc)) (by unfold AP;rw[Ba];simp) (by simp[Gh.upd]) (by simp[Gh.upd]) (fun _=>by simp[Gh.upd])⟩
         rcases a3 with ⟨e1,e2⟩ | ⟨e1,b,E,vs,off,rfl,e3,e4,e5,e6⟩
         ·exact fin none (fun c h=>by cases h) (.inl ⟨by omega,rfl⟩)
         ·by_cases hc:cap=HD.toNat
          ·exact fin none (fun c h=>by cases h) (.inl ⟨by omega,rfl⟩)
          ·refine fin (some b) (fun c h=>by cases h;exact e3) (.inr ⟨by omega,b,E,vs,off+HD.toNat*Gq,?_,rfl,e4,?_,fun o ho=>?_⟩)
           ·rw[Ah hc];simp[Addr.add_lit,q2]
           ·rw[e5,Nat.sub_mul]
            have:=Be Gq (show HD.toNat≤cap by omega)
            omega
           ·have:=e6 o ho
            rw[Nat.sub_mul]
            have:=Be Gq (show HD.toNat≤es.length by omega)
            omega
       ·exact hk.elim
      ·exact hk.elim
     ·exact hk.elim
    ·exact hk.elim
  ·exact hk.elim
 ·exact hk.elim
omit hI in
theorem Nu{sz:Nat}:∀{es:List (List AV)},(∀cs∈es,cs.length=sz)→∀k,(es.take k).flatten=es.flatten.take (k*sz)
 | [],_,k=>by simp
 |c::es,hl,0=>by simp
 |c::es,hl,k+1=>by
  have h1:=hl c (Aa ..);have h2:c.length≤k*sz+sz:=by omega
  rw[IU,Bv,Bv,Nu (fun x hx=>hl x (Ag _ hx)) k,List.take_append,h1,DY,
   AE h2,show k*sz+sz-sz=k*sz by omega]
omit hI in
theorem Cu.takeE{U:Nat→Prop}{sz k:Nat}{es:List (List AV)}{vs:List Value}(hl:∀cs∈es,cs.length=sz)(hk:k≤es.length)(h:Cu g w U es.flatten (vs.take (es.length*sz))):Cu g w U (es.take k).flatten (vs.take (k*sz)):=by
 have e:vs.take (k*sz)=(vs.take (es.length*sz)).take (k*sz):=by
  rw[List.take_take,Nat.min_eq_left (Be _ hk)]
 rw[Nu hl,e];refine⟨by rw[AB (l:=vs.take (es.length*sz)),h.1,AB],fun x hx=>h.2.1 x (DQ hx),fun i av x q1 q2=>?_⟩;have hi:i<k*sz:=by
  rcases ED i (k*sz)with q | q
  ·exact q
  ·rw[JB,Ah (by omega)]at q1;cases q1
 rw[JB,Ao hi]at q1 q2;exact h.2.2 i av x q1 q2
theorem aU{cx:Cx}(hT:Cn P cx.T){d:Option Nat}{ty:Nat}{x:AV}{vx:Value}{t:Nat→AV}{ρ:Operand→Value}(ht:∀x:Operand,BD g w (AP h) (ev t x) (ρ x)){hi:Option Operand}{K:HK}(hx:BD g w (AP h) x vx)
  (hk:ic cx d h ty x (B2 t hi) K):N0 P w0 g0 h0 h g w (Instr.sliceAt ty vx none (hi.map ρ) none) K:=by
 unfold ic at hk;split at hk
 ·rename_i d LH e1;rw[KA ht e1];split at hk
  ·rename_i e hs;split at hk
   ·exact hk.elim
   ·rename_i k Ew;split at hk
    ·rename_i r n;split at hk
     ·rename_i sz es e0;split at hk
      ·rename_i hd;split at hk
       ·rename_i q1 q3;have q1:=AH q1;obtain⟨⟨rfl,h1,h2⟩,hk⟩:=hk;have hl:(h r).live:=by rw[e0];trivial
        have Dt:Kp cx d≠r:=fun e=>by rw[e,e0]at hd;cases hd
        have ho:=hI.objs r;rw[e0]at ho;obtain⟨t1,l1,al,a2⟩:=ho;have Cq:(es.take LH.toNat).length=LH.toNat:=by rw[AB];omega
        cases hx with
        |msl _ _ _ a cap hu ht' XM ha Ly =>
         have hv:=Ly l1.symm;have OH:es.length≤cap:=by
          rcases a2 with ⟨b1,_,_⟩ | ⟨b,KO,E,vs,b1,_,b3,_⟩
          ·subst b1;exact AJ _
          ·rw[b1]at hv;cases hv;exact b3
         have CD:=EI (P:=P) (w:=w) hT hs Ew a es.length cap none (some LH) none (.inl rfl) (by simp) (by simp only[DZ,Cj];exact h1) (by simp only[Cj,DZ];omega) (by simp);have Lr:(if cap-(0:Nat)=0 then a else a.map (·.add (0*(cx.T e).size)))=a:=by
          rw[IF];split
          ·rfl
          ·rcases ha with e3 | ⟨b,rfl⟩
           ·cases a with
            |none=>rfl
            |some a=>simp[Addr.add]
           ·rfl
         simp only[Cj,DZ,Ch,Int.toNat_zero,Nat.sub_zero]at CD Lr;have key:∃a',(Instr.sliceAt ty (.slice a es.length cap) ((none:Option Int).map fun n=>.int .i64 n) ((some LH).map fun n=>.int .i64 n) ((none:Option Int).map fun n=>.int .i64 n)).run P w=.ok (.slice a' LH.toNat cap) w∧(a'=a):=⟨_,CD,by first | exact Lr | (split<;>first | rfl | exact Lr | (simp_all))⟩
         obtain⟨a',CD,rfl⟩:=key;have hval:BD (g.upd (Kp cx d) (.slice a' LH.toNat cap) LH.toNat true (g.own r) g.S) w (AP (AT (AT h r .dead) (Kp cx d) (.arr sz (es.take LH.toNat)))) (.msl (Kp cx d) LH.toNat) (.slice a' LH.toNat cap) :=
          .msl _ _ _ _ _ (by unfold AP;rw[Ba];simp) (by simp[Gh.upd]) (by simp[Gh.upd]) (ha.elim (fun e=>.inl (by omega)) .inr) (fun _=>by simp[Gh.upd])
         obtain⟨k1,k2⟩:=hI.moveO r (Kp cx d) Dt hd hl (ob:=g.own r) (fun c h=>h) (.arr sz (es.take LH.toNat)) (.slice a' LH.toNat cap) LH.toNat true (by simp) (fun HZ=>by
          obtain⟨u1,u2,u3,u4⟩:=Bw g (Kp cx d) (.slice a' LH.toNat cap) LH.toNat true (g.own r) g.S;refine⟨u3,u2.trans Cq.symm,fun c hc=>al c (DQ hc),?_⟩;rcases a2 with ⟨b1,b2,b3⟩ | ⟨b,KO,E,vs,b1,b2,b3,b4,b5,b6,b7⟩
          ·subst b1;rw[b2]at hv;cases hv;have h0:LH.toNat=0:=by simp only[AF]at h2;omega
           exact .inl ⟨List.take_nil,by rw[u1,h0],u4.trans b3⟩
          ·rw[b1]at hv;cases hv;refine .inr ⟨b,cap,E,vs,by rw[Cq];exact u1,u4.trans b2,by rw[Cq];omega,b4,b5,?_,b7⟩;rw[Cq];exact(Cu.takeE al (by omega) b6).mono HZ (fun _ h=>h) (fun _ h=>h.elim))
         exact⟨_,w,_,_,_,CD,hk,k1,k2,hval⟩
       ·exact hk.elim
      ·exact hk.elim
     ·exact hk.elim
    ·exact hk.elim
  ·exact hk.elim
 ·exact hk.elim
theorem Vp{cx:Cx}(hT:Cn P cx.T){d:Option Nat}{ty:Nat}{x:AV}{vx:Value}{t:Nat→AV}{ρ:Operand→Value}(ht:∀x:Operand,BD g w (AP h) (ev t x) (ρ x)){lo hi mx:Option Operand}{K:HK}(hx:BD g w (AP h) x vx)
  (hk:Gp cx d h ty x (B2 t lo) (B2 t hi) (B2 t mx) K):N0 P w0 g0 h0 h g w (Instr.sliceAt ty vx (lo.map ρ) (hi.map ρ) (mx.map ρ)) K:=by
 unfold Gp at hk;split at hk
 ·rename_i HD LH mg e1 e2 e3;rw[KA ht e1,KA ht e2,KA ht e3];split at hk
  ·rename_i hs;split at hk
   ·rename_i s;obtain⟨⟨h1,h2,h3⟩,hk⟩:=hk;obtain rfl:=hx.v_eq;have hb:=TG (P:=P) (w:=w) false s.size s.size HD LH none (.inl rfl) h1 h2 (by simpa using h3) (by simp);refine(BF.val (x:=.string (s.extract (HD.getD 0).toNat (LH.getD s.size).toNat)) ?_ hk).does hI;simp only[Instr.sliceAt,Sem.run_bind,run_underlying (hT.string hs),Result.andThen_ok,Instr.slice];simp only[Option.map_none,Option.isSome_none,Dd,Gk]at hb⊢;simp only[Sem.run_bind,hb,Result.andThen_ok,Sem.run_pure]
   ·exact hk.elim
  ·rename_i e hs;split at hk
   ·exact hk.elim
   ·rename_i k Ew;split at hk
    ·rename_i tk es;have hr:=hx.slice_none;obtain⟨a,cap,hv,OH⟩:∃a cap,vx=.slice a es.length cap∧es.length≤cap:=by
      cases hr with
      |snil _ a cap=>exact⟨a,cap,rfl,AJ _⟩
      |slice _ _ b off sz cap val hc=>exact⟨_,cap,rfl,hc⟩
     subst hv;split at hk
     ·obtain⟨⟨h1,h2,h3⟩,hl,hk⟩:=hk;have CD:=EI (P:=P) (w:=w) hT hs Ew a es.length cap HD LH none (.inl rfl) h1 h2 (by simp only[DZ];omega) (by simp);refine BF.does hI ⟨_,_,CD,hk,(BD.sub (c':=cap-(HD.getD 0).toNat) hr rfl hl (l:=(HD.getD 0).toNat) (m:=(LH.getD es.length).toNat) (by omega) (by omega) (by simp;omega) _ ?_).up _⟩;split
      ·rename_i e;simp only[DZ,Ch]at e;exact .inr ⟨by omega,rfl⟩
      ·exact .inl rfl
     ·rename_i m;split at hk
      ·rename_i d hh;split at hk
       ·obtain⟨⟨h1,h2,rfl,h3⟩,hl,hk⟩:=hk;have CD:=EI (P:=P) (w:=w) hT hs Ew a es.length cap HD (some m) (some m) (.inr (by simp)) h1 h2 (by simp) (by simp only[Cj];omega);simp only[Cj]at CD;have Cq:((es.take m.toNat).drop (HD.getD 0).toNat).length=m.toNat-(HD.getD 0).toNat:=by rw[Do,AB];omega
        refine BF.does hI ⟨_,_,CD,hk,.full _ _ _ _ ((BD.sub (c':=m.toNat-(HD.getD 0).toNat) hr rfl hl (l:=(HD.getD 0).toNat) (m:=m.toNat) (by omega) (by omega) (by omega) _ ?_).up _) (fun c hc=>hl c (DQ (Im hc))) ⟨_,by rw[Cq]⟩⟩;split
        ·rename_i e;exact .inr ⟨e,rfl⟩
        ·exact .inl rfl
       split at hk
       ·rename_i hd;obtain⟨⟨h1,h2,rfl,h3⟩,hl,hk⟩:=hk;have CD:=EI (P:=P) (w:=w) hT hs Ew a es.length cap HD (some m) (some m) (.inr (by simp)) h1 h2 (by simp) (by simp only[Cj];omega);simp only[Cj]at CD
        obtain⟨g',k1,k2,k3⟩:=NM hI (sz:=(cx.T e).size) (n:=m.toNat-(HD.getD 0).toNat) hd (es:=(es.take m.toNat).drop (HD.getD 0).toNat) (fun c hc=>hl c (DQ (Im hc))) (by rw[Do,AB];omega)
         (BD.sub (c':=m.toNat-(HD.getD 0).toNat) hr rfl hl (l:=(HD.getD 0).toNat) (m:=m.toNat) (by omega) (by omega) (by omega) (if m.toNat=(HD.getD 0).toNat then a else a.map (·.add ((HD.getD 0).toNat*(cx.T e).size))) (by
          split
          ·rename_i e;exact .inr ⟨e,rfl⟩
          ·exact .inl rfl))
        exact⟨_,w,g',_,_,CD,hk,k1,k2,k3⟩
       ·exact hk.elim
      ·exact hk.elim
    ·obtain⟨⟨h1,h2,h3⟩,h4,hk⟩:=hk;obtain rfl:=hx.v_eq;have CD:=EI (P:=P) (w:=w) hT hs Ew none 0 0 HD LH mg h4 (by omega) (by simp only[IB]at *;omega) (by simp only[IB]at *;omega) (by simp only[IB]at *;omega);refine BF.does hI (BF.val (x:=.slice none 0 0) ?_ hk);rw[CD];simp only[h1,IB,h2,h3];simp
    ·rename_i r n;split at hk
     ·rename_i sz es e0;split at hk
      ·rename_i QI;obtain rfl:=AH QI;obtain⟨⟨h1,h2,h3,h4,h5⟩,hk⟩:=hk;have ho:=hI.objs r;rw[e0]at ho;obtain⟨t1,l1,al,a3⟩:=ho;have hl:(h r).live:=by rw[e0];trivial
       have qP:mg=none∨LH≠none:=h5.imp id (fun q=>q.2);cases hx with
       |msl _ _ _ a cap hu ht' hn ha Ly =>
        have hv:=Ly (h1.trans l1.symm);subst h1;have kf:∀c:Nat,es.length≤c→LH.getD es.length≤mg.getD c∧mg.getD c≤c:=fun c hc=>by
         rcases h5 with h5 | ⟨h5,Dt⟩
         ·rw[h5];simp only[DZ];omega
         ·obtain⟨m,hm⟩:=Option.ne_none_iff_exists'.1 Dt;rw[h5,hm];rw[hm]at h3 h4;simp only[Cj]at h3 h4⊢;omega
        rcases a3 with ⟨rfl,q2,q3⟩ | ⟨b,KO,E,vs,q1,q2,q3,q4,q5,q6,q7⟩
        ·rw[q2]at hv;cases hv;have CD:=EI (P:=P) (w:=w) hT hs Ew none 0 0 HD LH mg qP h2 h3 (kf 0 (by simp)).1 (kf 0 (by simp)).2
         obtain⟨k1,k2⟩:=hI.upd r .dead (g.ρ r) (g.ln r) (g.tk r) (g.own r) g.S w none ⟨rfl,rfl,rfl,Al _⟩ (fun _ _ _=>rfl) (fun b e=>by cases e) (fun _ _ h=>h) (fun _ _ h=>.inl h) (fun b o e=>by cases e) (fun b hh _=>by cases hh) (by simp)
          (fun _=>⟨rfl,Al _,fun _=>rfl,fun _=>rfl⟩) (fun _ _=>trivial)
         refine⟨_,w,_,_,_,CD,hk,k1,k2,?_⟩;have z1:((HD.getD 0).toNat)=0:=by simp only[AF,IB]at h3 h4;omega
         have z2:((LH.getD (([]:List (List AV)).length:Int)).toNat)=0:=by simp only[AF,IB]at h3 h4⊢;omega
         simp only[List.take_nil,List.drop_nil];have z3:((LH.getD ((0:Nat):Int)).toNat)=0:=z2;rw[z1,z3];exact .snil _ _ _
        ·rw[q1]at hv;cases hv;have CD:=EI (P:=P) (w:=w) hT hs Ew (some ⟨b,0,none⟩) es.length cap HD LH mg qP h2 h3 (kf _ q3).1 (kf _ q3).2;have cf:=(hI.loc r b hl q2).1
         obtain⟨k1,k2⟩:=hI.upd r .dead (g.ρ r) (g.ln r) (g.tk r) (g.own r) (g.more b (es.length*(cx.T e).size)) w none ⟨rfl,rfl,rfl,Al _⟩ (fun _ _ _=>rfl) (fun b e=>by cases e) (fun _ _ h=>.inl h)
          (fun b' o hs=>hs.elim .inl (fun hs=>.inr ⟨by rw[hs.1];exact cf,.inr ⟨hl,by rw[hs.1];exact q2⟩⟩)) (fun b o e=>by cases e) (fun b hh _=>by cases hh) (by simp)
          (fun _=>⟨rfl,Al _,fun _=>rfl,fun _=>rfl⟩) (fun _ _=>trivial)
         have Ed:=BD.slice_row (g:=g.upd r (g.ρ r) (g.ln r) (g.tk r) (g.own r) (g.more b (es.length*(cx.T e).size))) (U:=Fi) q4 al q3 (q6.mono k2.keeps (fun _ h=>h) (fun _ h=>h.elim)) (fun o ho=>.inr ⟨rfl,ho⟩);have Aaa:=kf _ q3;refine⟨_,w,_,_,_,CD,hk,k1,k2,(BD.sub (c':=(mg.getD cap).toNat-(HD.getD 0).toNat) Ed rfl al (l:=(HD.getD 0).toNat) (m:=(LH.getD es.length).toNat) (by omega) (by omega) (by omega) _ ?_).up _⟩;split
         ·rename_i e;exact .inr ⟨by omega,rfl⟩
         ·exact .inl rfl
      ·exact hk.elim
     ·exact hk.elim
    ·exact hk.elim
  ·exact hk.elim
 ·exact hk.elim
theorem Up{cx:Cx}(hT:Cn P cx.T){d:Option Nat}{ty:Nat}{n c:AV}{vn vc:Value}{K:HK}(hn:BD g w (AP h) n vn)(hc:BD g w (AP h) c vc)(hk:Jq cx d h ty n c K) :
  N0 P w0 g0 h0 h g w (Instr.makeSlice ty vn vc) K:=by
 unfold Jq at hk;split at hk
 ·rename_i e n c hs;obtain rfl:=hn.v_eq;obtain rfl:=hc.v_eq;split at hk
  ·rename_i Rj;split at hk
   ·rename_i MQ;have MQ:=AH MQ;split at hk
    ·exact hk.elim
    ·rename_i k Ew;obtain⟨⟨h1,h2,h3,h4⟩,hk⟩:=hk;obtain⟨i,z,i1,i2,i3,i4,i5⟩:=Hs hT Ew;have nW:(cx.T e).zc≠[]:=fun e0=>by rw[e0]at MQ;rw[Ew]at MQ;cases MQ
     have wn:IntKind.i64.wrap n=n:=MM ⟨by omega,by omega⟩;have wc:IntKind.i64.wrap c=c:=MM ⟨by omega,by omega⟩;have GP:∀l:List AV,(∀a∈l,one a=true)→GV l=true:=by
      intro l
      induction l with
      |nil=>intro _;rfl
      |cons a l ih=>intro h;simp[GV,h a (List.mem_cons_self ..),ih (fun b hb=>h b (List.mem_cons_of_mem _ hb))]
     have nR:((Array.range (c.toNat*(cx.T e).size)).map fun k=>z.cells[k % z.cells.size]!).toList=(List.replicate c.toNat (cx.T e).zc).flatten:=by
      rw[HM c.toNat _ nW,MQ,i5];have e6:z.cells.size=(cx.T e).size:=by rw[←MQ,i5];simp
      simp[e6,Array.getElem!_eq_getD]
     have hzs:(cx.T e).zc.length=(cx.T e).size:=MQ;have sR:∀c'∈List.replicate c.toNat (cx.T e).zc,c'.length=(cx.T e).size:=fun c' hc=>by rw[B8 hc];exact MQ
     have vg : ∀c'∈List.replicate n.toNat ((cx.T e).zc.map AV.v),c'.length=(cx.T e).size:=fun c' hc=>by rw[B8 hc,A6];exact MQ
     have vh:∀c'∈List.replicate n.toNat (cx.T e).zc,c'.length=(cx.T e).size:=fun c' hc=>by rw[B8 hc];exact MQ
     obtain⟨g',av,h',q1,q2,q3,q4⟩:=JQ hI hk (vs:=(Array.range (c.toNat*(cx.T e).size)).map fun k=>z.cells[k % z.cells.size]!) (cap:=c.toNat) e vg (by rw[DG];omega) (by simp) (by
      rw[nR,DG];have e1:(List.replicate n.toNat ((cx.T e).zc.map AV.v)).flatten=(List.replicate n.toNat (cx.T e).zc).flatten.map AV.v:=by
       rw[RM,List.map_replicate]
      have e2:(List.replicate c.toNat (cx.T e).zc).flatten.take (n.toNat*(cx.T e).size)=(List.replicate n.toNat (cx.T e).zc).flatten:=by
       obtain⟨m,hm⟩:∃m,c.toNat=n.toNat+m:=⟨c.toNat-n.toNat,by omega⟩;rw[hm,←List.replicate_append_replicate,Cw,Hq (by rw[C3 vh,DG])]
      rw[e1,e2];refine Cu.vals (GP _ (fun a ha=>?_));obtain⟨x,hx,rfl⟩:=Ak.1 ha;obtain⟨l,hl,hx⟩:=El.1 hx;rw[B8 hl]at hx;exact Mm Rj _ (Ak.2 ⟨x,hx,rfl⟩)) w ⟨rfl,rfl,rfl,rfl⟩
     rw[DG]at q4;refine⟨_,_,g',av,h',?_,q1,q2,q3,q4⟩;have uN:¬((cx.T e).bytes*c>2 ^ 48):=by rw[Int.mul_comm];omega
     have fM:((decide (c<0)||decide (((cx.T e).bytes:Int)*c>2 ^ 48))||decide (n<0)||decide (n>c))=false:=by
      simp only[Bool.or_eq_false_iff,JK];exact⟨⟨⟨by omega,uN⟩,by omega⟩,by omega⟩
     simp only[Instr.makeSlice,Sem.run_bind,run_underlying (hT.slice hs),Result.andThen_ok,asInt,asIntOf,Sem.run_pure,typeInfo,run_program,i1,i4,wn,wc,fM,Dd,Gk,run_askRoom,hT.size1 w Ew]
     by_cases hz:c.toNat*(k+1)=0
     ·have j8:c.toNat=0:=by
       rcases Nat.mul_eq_zero.1 hz with h | h
       ·exact h
       ·cases h
      rw[j8];simp only[IF,QK];simp only[show Array.range 0=#[]from rfl,Array.map_empty];simp[newRow]
     ·simp only[Ah hz,Sem.run_bind,zeroValue,typeInfo,run_program,i1,i2,Result.andThen_ok,Sem.run_pure];rw[Ew];simp[newRow]
   ·exact hk.elim
  ·exact hk.elim
 ·exact hk.elim
end
end Go.Eng
