/- Lemmas for the claims of this seat, without a condition: part 9 (EngR, EngS). -/
import Derived.Test.YtddfphmpfnmknaaGreatDoorBA08
namespace Go.Eng
theorem Cu.app{g:Gh}{w:World}{U:Nat→Prop}{TB bs:List AV}{xs ys:List Value}(h:Cu g w U TB xs)(k:Cu g w U bs ys):Cu g w U (TB++bs) (xs++ys):=by
 refine⟨by simp[h.1,k.1],fun x hx=>(AL.1 hx).elim (h.2.1 x) (k.2.1 x),fun i av x h1 h2=>?_⟩
 by_cases hi:i<TB.length
 ·rw[AY hi]at h1;rw[AY (by rw[h.1];exact hi)]at h2;exact h.2.2 i av x h1 h2
 ·rw[AZ (by omega)]at h1;rw[AZ (by rw[h.1];omega),h.1]at h2;exact k.2.2 _ av x h1 h2
section
variable {P:Program}{w0:World}{g0:Gh}{h0 h:Nat→HO}{g:Gh}{w:World}(hI:Dz w0 g0 h0 h g w)
include hI
omit hI in
theorem Px(t ty e:TypeId)(i:TypeInfo)(ht:P.underlying t=some (.slice e))(hi:P.info? e=some i){E:TypeId}
  (g Nx YZ:Nat) (Fq:Array Value) (hg:w.heap[g]?=some (.cells Fq E (0,0)))
  (a:Addr) (m c:Nat) (news:List Value) (hl:news.length=m*i.size) (ID:∀j u,news[j]?=some u→w.cell? (a.add j)=some u) (h1:∀u∈news,u.oneCell'=true)
  (Jy:Nx+m≤YZ) (Yu:Nx*i.size+news.length≤Fq.size) :
  (Builtin.append_ #[t,t] ty #[.slice (some ⟨g,0,none⟩) Nx YZ,.slice (some a) m c]).run P w =
   .ok (.slice (some ⟨g,0,none⟩) (Nx+m) YZ) (w.setRow g (Fq.toList.take (Nx*i.size)++news++Fq.toList.drop (Nx*i.size+news.length)).toArray):=by
 have hf:=run_firstCells_some (P:=P) w i.size m a m c news hl ID;have I7:=run_storeCells_at P g (Nx*i.size) E news 0 Fq w hg (by simpa using Yu) h1;simp only[G8]at I7;simp[Builtin.append_,run_underlying ht,sizeOf,typeInfo,hi,Builtin.lenOf,Jy,hf,Addr.add_lit,I7]
omit hI in
theorem S0(t ty e:TypeId)(i:TypeInfo)(ht:P.underlying t=some (.slice e))(hi:P.info? e=some i){E:TypeId}
  (g off Nx YZ:Nat) (Fq:Array Value) (hg:w.heap[g]?=some (.cells Fq E (0,0)))
  (a:Addr) (m c:Nat) (news:List Value) (hl:news.length=m*i.size) (ID:∀j u,news[j]?=some u→w.cell? (a.add j)=some u) (h1:∀u∈news,u.oneCell'=true)
  (Jy:Nx+m≤YZ) (Yu:off+Nx*i.size+news.length≤Fq.size) :
  (Builtin.append_ #[t,t] ty #[.slice (some ⟨g,off,none⟩) Nx YZ,.slice (some a) m c]).run P w =
   .ok (.slice (some ⟨g,off,none⟩) (Nx+m) YZ) (w.setRow g (Fq.toList.take (off+Nx*i.size)++news++Fq.toList.drop (off+Nx*i.size+news.length)).toArray):=by
 have hf:=run_firstCells_some (P:=P) w i.size m a m c news hl ID;have I7:=run_storeCells_at P g (off+Nx*i.size) E news 0 Fq w hg (by simpa using Yu) h1;simp only[G8]at I7;simp[Builtin.append_,run_underlying ht,sizeOf,typeInfo,hi,Builtin.lenOf,Jy,hf,Addr.add_lit,I7]
omit hI in
theorem j9{b off n m sz cap:Nat}{Fq:Array Value}{E:TypeId}{olds news:List Value}(hb:w.heap[b]?=some (.cells Fq E (0,0)))(W0:Fq.size=off+cap*sz)(hn:n≤cap)(hm:n+m≤cap)(hnl:news.length=m*sz)(hol:olds.length=n*sz)
  (Gr:∀j u,olds[j]?=some u→w.cell? ⟨b,off+j,none⟩=some u) :
  (Fq.toList.take (off+n*sz)++news++Fq.toList.drop (off+n*sz+news.length)).length=off+cap*sz ∧
  ((Fq.toList.take (off+n*sz)++news++Fq.toList.drop (off+n*sz+news.length)).drop off).take ((n+m)*sz)=olds++news ∧
  ∀o,o<off+n*sz→(Fq.toList.take (off+n*sz)++news++Fq.toList.drop (off+n*sz+news.length)).toArray[o]?=Fq[o]?:=by
 have hcl:Fq.toList.length=off+cap*sz:=by rw[BW];exact W0
 have Sh:(n+m)*sz≤cap*sz:=Be _ hm;have eI:n*sz≤cap*sz:=Be _ hn;rw[E2]at Sh;have Kj:(Fq.toList.take (off+n*sz)).drop off=olds:=by
  apply CV;intro j
  by_cases hj:j<n*sz
  ·rw[Dq,BB (by omega)];have hx:olds[j]?=some olds[j]:=As (by omega)
   have:=Gr j _ hx
   rw[Ft hb]at this;rw[A1,this,hx]
  ·rw[A2 (by rw[Dn,AB];omega),A2 (by omega)]
 have mN:(Fq.toList.take (off+n*sz)).length=off+n*sz:=by rw[AB];omega
 refine⟨?_,?_,fun o ho=>?_⟩
 ·rw[Ac,Ac,mN,Dn,hcl,hnl];omega
 ·rw[BH,List.drop_append_of_le_length (by rw[mN];omega),Kj,←BH,He (by rw[Ac,hol,hnl,E2])]
 ·rw[FP,BH,AY (by rw[mN];exact ho),BB ho,A1]
omit hI in
theorem gy{b n m sz cap:Nat}{Fq:Array Value}{E:TypeId}{olds news:List Value}(hb:w.heap[b]?=some (.cells Fq E (0,0)))(W0:Fq.size=cap*sz)(hn:n≤cap)(hm:n+m≤cap)(hnl:news.length=m*sz)(hol:olds.length=n*sz)
  (Gr:∀j u,olds[j]?=some u→w.cell? ⟨b,j,none⟩=some u) :
  (Fq.toList.take (n*sz)++news++Fq.toList.drop (n*sz+news.length)).length=cap*sz ∧
  (Fq.toList.take (n*sz)++news++Fq.toList.drop (n*sz+news.length)).take ((n+m)*sz)=olds++news ∧
  ∀o,o<n*sz→(Fq.toList.take (n*sz)++news++Fq.toList.drop (n*sz+news.length)).toArray[o]?=Fq[o]?:=by
 have hcl:Fq.toList.length=cap*sz:=by rw[BW];exact W0
 have Sh:(n+m)*sz≤cap*sz:=Be _ hm;have eI:n*sz≤cap*sz:=Be _ hn;rw[E2]at Sh;have Kj:Fq.toList.take (n*sz)=olds:=by
  apply CV;intro j
  by_cases hj:j<n*sz
  ·rw[BB hj];have hx:olds[j]?=some olds[j]:=As (by omega)
   have:=Gr j _ hx
   rw[Ft hb]at this;rw[A1,this,hx]
  ·rw[A2 (by rw[AB];omega),A2 (by omega)]
 have mN:(Fq.toList.take (n*sz)).length=n*sz:=by rw[AB];omega
 refine⟨?_,?_,fun o ho=>?_⟩
 ·rw[Ac,Ac,mN,Dn,hcl,hnl];omega
 ·rw[Kj,He (by rw[Ac,hol,hnl,E2])]
 ·rw[FP,BH,AY (by rw[mN];exact ho),BB ho,A1]
theorem T5{r n sz:Nat}{es:List (List AV)}{x:Value}(he:h r=.arr sz es)(hx:BC g w (AQ h) (.msl r n) x)(hn:n=es.length) :
  x=g.ρ r∧∃news,NK w x es.length sz news∧Cu g w E8 es.flatten news:=by
 have ho:=hI.objs r;rw[he]at ho;obtain⟨t1,l1,al,a1⟩:=ho;cases hx with
 |msl _ _ _ a cap hu ht W5 ha Li =>
  have e:=Li (hn.trans l1.symm);refine⟨e,?_⟩;rw[e];rcases a1 with ⟨rfl,e2,e3⟩ | ⟨b,KG,E,vs,e1,e2,e3,e4,e5,e6,e7⟩
  ·exact⟨[],⟨by simp,by simp,none,0,e2,.inl rfl⟩,by simp,by simp,fun i av x h1 h2=>by simp at h2⟩
  ·have W0:vs.toList.length=KG*sz:=by rw[BW];exact e5
   have Hb:es.length*sz≤vs.toList.length:=by rw[W0];exact Be _ e3
   refine⟨vs.toList.take (es.length*sz),⟨by rw[AB,Nat.min_eq_left Hb],e6.2.1,_,_,e1,.inr ⟨_,rfl,fun j u hj=>?_⟩⟩,e6⟩;rw[Addr.add_lit,Bg,Ft e4];have Ds:=(Ap.1 hj).1;rw[AB]at Ds;rw[BB (by omega),A1]at hj;exact hj
theorem aL{sz:Nat}{x:AV}{vx:Value}{K:List (List AV)→Prop}(hx:BC g w (AQ h) x vx)(hk:KM h x K) :
  ∃es,K es∧((∀c∈es,c.length=sz)→∃news,NK w vx es.length sz news∧Cu g w E8 es.flatten news):=by
 unfold KM at hk;split at hk
 ·exact⟨_,hk,fun hl=>NK.of_rep hx.slice_none hl⟩
 ·obtain rfl:=hx.v_eq;exact⟨[],hk,fun _=>⟨[],⟨by simp,by simp,none,0,rfl,.inl rfl⟩,by simp,by simp,fun i av x h1 h2=>by simp at h2⟩⟩
 ·rename_i r n;split at hk
  ·rename_i Gc es e;obtain⟨hn,hk⟩:=hk;refine⟨es,hk,fun hl=>?_⟩;obtain⟨_,news,n1,n2⟩:=T5 hI e hx hn;refine⟨news,?_,n2⟩
   have:news.length=es.length*sz:=by rw[n2.1,CZ hl]
   exact⟨this,n1.2.1,n1.2.2⟩
  ·exact hk.elim
 ·exact hk.elim
theorem bG{cx:Cx}{d:Option Nat}{sz:Nat}{K:HK}(hk:Er cx d h sz [] K) :
  ∃g' av h',K av h'∧Dz w0 g0 h0 h' g' w∧Le h g w h' g' w∧BC g' w (AQ h') av (.slice none 0 0):=by
 have base:∀(d:Nat) (o' : HO),h d=.free→o'≠.free→(∀g' : Gh,g'.ρ d=.slice none 0 0→g'.ln d=0→g'.tk d=true→g'.own d=none→D1 g' w (AQ (AU h d o')) d o') →
   Dz w0 g0 h0 (AU h d o') (g.upd d (.slice none 0 0) 0 true none g.S) w∧Le h g w (AU h d o') (g.upd d (.slice none 0 0) 0 true none g.S) w:=by
  intro d o' hd Dt I6;refine hI.upd d o' _ _ _ _ _ w none ⟨rfl,rfl,rfl,Am _⟩ (fun _ _ _=>rfl) (fun b e=>by cases e) (fun _ _ h=>h) (fun _ _ h=>.inl h) (fun b o e=>by cases e) (fun b _ e=>by cases e) Dt (fun hu=>absurd hd hu) (fun _ _=>?_);obtain⟨u1,u2,u3,u4⟩:=Bw g d (.slice none 0 0) 0 true none g.S;exact I6 _ u1 u2 u3 u4
 unfold Er at hk;split at hk
 ·exact hk.elim
 ·rename_i d;generalize Kf cx d=d1 at hk;split at hk
  ·rename_i hd;split at hk
   ·obtain⟨k1,k2⟩:=base d1 (.arr sz []) hd (by simp) (fun g' u1 u2 u3 u4=>⟨u3,u2,by simp,.inl ⟨rfl,u1,u4⟩⟩);exact⟨_,_,_,hk,k1,k2,.msl _ d1 0 none 0 (by unfold AQ;rw[A9];simp) (by simp[Gh.upd]) (AO _) (.inl rfl) (fun _=>by simp[Gh.upd])⟩
   ·obtain⟨k1,k2⟩:=base d1 (.tok sz 0) hd (by simp) (fun g' u1 u2 u3 u4=>⟨u3,u2,none,0,u1,.inl ⟨rfl,u4⟩⟩);exact⟨_,_,_,hk,k1,k2,.tok _ d1 sz [] _ (.snil _ _ _) (by simp) (by unfold AQ;rw[A9];simp) (by simp[Gh.upd]) (AO _) (fun _=>by simp[Gh.upd])⟩
  ·exact hk.elim
theorem X3{cx:Cx}(hT:Cq P cx.T){d:Option Nat}{t ty:Nat}{s x:AV}{vs vx:Value}{K:HK}(hs:BC g w (AQ h) s vs)(hx:BC g w (AQ h) x vx)(hk:H3 cx d h t s x K) :
  NF P w0 g0 h0 h g w (Builtin.append_ #[t,t] ty #[vs,vx]) K:=by
 unfold H3 at hk;split at hk
 ·rename_i e ht;split at hk
  ·exact hk.elim
  ·rename_i hz;have hz:=AH hz;split at hk
   ·exact hk.elim
   ·rename_i k Et;have h5:=aL hI (sz:=(cx.T e).size) hx hk
    clear hk
    obtain⟨es2,hk,h6⟩:=h5;split at hk
    ·obtain⟨⟨q1,q2,q3⟩,hk⟩:=hk;obtain rfl:=hs.v_eq;obtain⟨news,n1,n2⟩:=h6 (FE q1);obtain⟨m1,m2,a,c,rfl,m4⟩:=n1
     by_cases hm:es2.length=0
     ·obtain rfl:=AM hm;obtain⟨g',av,h',k1,k2,k3,k4⟩:=bG hI hk;exact⟨_,w,g',av,h',Ix hT w ht Et none a 0 0 c (Am _),k1,k2,k3,k4⟩
     ·obtain⟨nc,rest,r1,r2,r3⟩:=HB hT w (ty:=ty) ht Et hz (olds:=[]) (a:=none) (n:=0) (cap:=0) ⟨by simp,by simp,none,0,rfl,.inl rfl⟩ rfl (fun _=>rfl) ⟨m1,m2,a,c,rfl,m4⟩ rfl (by omega) (by omega) (by rw[Bg];exact q2) (by omega);obtain⟨g',av,h',k1,k2,k3,k4⟩:=JC hI hk (vs:=([]++news++rest).toArray) (cap:=nc) e (FE q1) (by omega) (by simpa using r3) (by
       rw[Fm,show(news++rest).toArray.toList=news++rest from rfl,He m1];exact n2) w.drew ⟨rfl,rfl,rfl,rfl⟩
      rw[Bg]at r1;exact⟨_,_,g',av,h',r1,k1,k2,k3,k4⟩
    ·rename_i Gc es;split at hk
     ·rename_i Qe;obtain Qe:=AH Qe;obtain⟨⟨q1,q2,q3,q4⟩,hk⟩:=hk;obtain⟨news,n1,n2⟩:=h6 (FE q1);obtain⟨m1,m2,a2,c2,rfl,m4⟩:=n1;cases hs with
      |full _ _ _ _ hr We Li =>
       obtain⟨a,rfl⟩:=Li;have GE:∀c∈es++es2,c.length=(cx.T e).size:=fun c hc=>(AL.1 hc).elim (fun h=>(We c h).trans Qe) (FE q1 c);obtain⟨olds,o1,o2⟩:=NK.of_rep hr (sz:=(cx.T e).size) (fun c hc=>(We c hc).trans Qe);have Wf:=o2.app n2;rw[←Cy]at Wf;have ha:a=none→es.length=0:=by
        rintro rfl
        obtain⟨p1,p2,a',c',p3,p4⟩:=o1;cases p3;rcases p4 with h | ⟨b',h,_⟩
        ·exact h
        ·cases h
       obtain⟨nc,rest,r1,r2,r3⟩:=HB hT w (ty:=ty) ht Et hz o1 rfl ha ⟨m1,m2,a2,c2,rfl,m4⟩ rfl q2 (by omega) q3 q4;obtain⟨g',av,h',k1,k2,k3,k4⟩:=JC hI hk (vs:=(olds++news++rest).toArray) (cap:=nc) e GE (by rw[Ac];exact r2) (by rw[Fg];exact r3) (by
        rw[show(olds++news++rest).toArray.toList=olds++news++rest from rfl,He (by rw[Ac,Ac,o1.1,m1,E2])];exact Wf) w.drew ⟨rfl,rfl,rfl,rfl⟩
       rw[Ac]at k4;exact⟨_,_,g',av,h',r1,k1,k2,k3,k4⟩
     ·exact hk.elim
    ·rename_i r Gc es;have ho:=hI.objs r;split at hk
     ·rename_i sz n e0;rw[e0]at ho;split at hk
      ·rename_i Qe uB;obtain rfl:=AH uB;obtain Qe:=AH Qe;obtain⟨⟨q1,q2,q3,q4⟩,hk⟩:=hk;rw[Qe]at q1;obtain⟨news,n1,n2⟩:=h6 (FE q1);obtain⟨m1,m2,a2,c2,rfl,m4⟩:=n1;obtain⟨t1,l1,a,cap,a1,a3⟩:=ho;have hl:(h r).live:=by rw[e0];trivial
       have GE:∀c∈es++es2,es.length=n→True:=fun _ _ _=>trivial;cases hs with
       |tok _ _ _ _ _ hr We hu ht' hn Li =>
        have hv:=Li (q2.trans l1.symm);rw[a1]at hv;subst hv;subst q2;have GE:∀c∈es++es2,c.length=Gc:=fun c hc=>(AL.1 hc).elim (We c) (fun h=>(FE q1 c h).trans Qe.symm);obtain⟨olds,o1,o2⟩:=NK.of_rep hr We;have Wf:=o2.app n2;rw[←Cy]at Wf;have Zp:es.length≤cap:=by rcases a3 with ⟨e1,_⟩ | ⟨e1,_⟩<;>omega
        by_cases hm:es2.length=0
        ·obtain rfl:=AM hm;have I6:=hI.objs r;rw[e0]at I6
         obtain⟨k1,k2⟩:=hI.upd r (.tok Gc (es.length+([]:List (List AV)).length)) (g.ρ r) (g.ln r) (g.tk r) (g.own r) g.S w none ⟨rfl,rfl,rfl,Am _⟩ (fun _ _ _=>rfl) (fun b e=>by cases e) (fun _ _ h=>h) (fun _ _ h=>.inl h) (fun b o e=>by cases e)
          (fun b _ e=>⟨(hI.loc r b hl e).1,.inl ⟨hl,e⟩⟩) (by simp) (fun _=>⟨rfl,Am _,fun _=>rfl,fun _=>rfl⟩) (fun hg HL=>by
           obtain⟨u1,u2,u3,u4⟩:=Bw g r (g.ρ r) (g.ln r) (g.tk r) (g.own r) g.S;rw[AF,G8];exact I6.same HL (fun i hi=>DG (by simp) i hi) hg u1 u2 u3 u4 (fun b _ _=>⟨rfl,fun _ h=>h⟩))
         refine⟨_,w,_,_,_,Ix hT w ht Et a a2 es.length cap c2 Zp,hk,k1,k2,?_⟩;rw[BT];exact(BC.tok (AQ h) r Gc es _ hr We hu ht' hn Li).le k2
        ·by_cases Jy:es.length+es2.length≤cap
         ·rcases a3 with ⟨e1,_⟩ | ⟨e1,b,E,Fq,off,rfl,e3,e4,e5,e6⟩
          ·omega
          ·rcases m4 with h | ⟨ba,rfl,ID⟩
           ·omega
           ·obtain⟨i,z,i1,i2,i3,i4,i5⟩:=Hg hT Et;have Sh:(es.length+es2.length)*Gc≤cap*Gc:=Be _ Jy;have kN:news.length=es2.length*Gc:=by rw[Qe];exact m1
            have Yv:i.size=Gc:=i3.trans Qe.symm;have CB:=S0 (P:=P) t ty e i (hT.slice ht) i1 b off es.length cap Fq e4 ba es2.length c2 news (by rw[Yv];exact kN) ID m2 Jy (by rw[Yv,kN,e5];rw[E2]at Sh;omega);rw[Yv]at CB;have Gr:∀j u,olds[j]?=some u→w.cell? ⟨b,off+j,none⟩=some u:=by
             obtain⟨p1,p2,a',c',p3,p4⟩:=o1;cases p3;intro j u hj;rcases p4 with h | ⟨b',h,h'⟩
             ·rw[h,J7]at p1;rw[AM p1]at hj;simp at hj
             ·cases h
              have:=h' j u hj
              rwa [Addr.add_lit]at this
            obtain⟨p1,p2,p3⟩:=j9 e4 e5 e1 Jy kN o1.1 Gr;generalize hnewd:Fq.toList.take (off+es.length*Gc)++news++Fq.toList.drop (off+es.length*Gc+news.length)=new at CB p1 p2 p3;have EJ:=setRow_heap w b Fq new.toArray E (0,0) e4;have aY:=(hI.loc r b hl e3).1
            obtain⟨k1,k2⟩:=hI.upd r (.tok Gc (es.length+es2.length)) (.slice (some ⟨b,off,none⟩) (es.length+es2.length) cap) (es.length+es2.length) (g.tk r) (g.own r) (g.more b (off+(es.length+es2.length)*Gc)) (w.setRow b new.toArray) (some b)
             ⟨rfl,rfl,rfl,by rw[size_setRow];exact Am _⟩ (fun k _ Dt=>setRow_other w b k _ (fun e=>Dt (by rw[e]))) (fun b' e=>by cases e;exact⟨hl,e3⟩) (fun _ _ h=>.inl h)
             (fun b' o hs=>hs.elim .inl (fun hs=>.inr ⟨by rw[size_setRow,hs.1];exact aY,.inr ⟨hl,by rw[hs.1];exact e3⟩⟩))
             (fun b' o e hs=>by
              cases e
              refine⟨?_,fun es ck he=>by rw[e4]at he;cases he⟩;rw[Ft EJ,Ft e4];exact p3 o (e6 o hs)) (fun b' _ e=>by
              rw[e3]at e;cases e;exact⟨by rw[size_setRow];exact aY,.inl ⟨hl,e3⟩⟩) (by simp) (fun _=>⟨rfl,by omega,fun e=>(by rw[t1]at e;cases e),fun e=>by omega⟩) (fun hg HL=>by
              obtain⟨u1,u2,u3,u4⟩:=Bw g r (.slice (some ⟨b,off,none⟩) (es.length+es2.length) cap) (es.length+es2.length) (g.tk r) (g.own r) (g.more b (off+(es.length+es2.length)*Gc));exact⟨u3.trans t1,u2,_,cap,u1,  .inr ⟨Jy,b,E,_,off,rfl,u4.trans e3,EJ,by rw[Fg];exact p1,fun o ho=>by
               rcases ho with ho | ⟨_,ho⟩
               ·have h1:=e6 o ho;have h2:es.length*Gc≤(es.length+es2.length)*Gc:=Be _ (by omega);omega
               ·exact ho⟩⟩)
            have D8:=BC.slice_off (g:=g.upd r (.slice (some ⟨b,off,none⟩) (es.length+es2.length) cap) (es.length+es2.length) (g.tk r) (g.own r) (g.more b (off+(es.length+es2.length)*Gc))) (U:=AQ (AU h r (.tok Gc (es.length+es2.length)))) (cap:=cap) (es:=es++es2) EJ GE (by rw[Ac];exact Jy) (by
             rw[Ac,show new.toArray.toList=new from rfl,p2];exact Wf.mono k2.keeps (fun _ h=>h) (fun _ h=>h.elim)) (fun o ho=>.inr ⟨rfl,by rw[Ac]at ho;exact Nat.add_lt_add_left ho off⟩)
            rw[Ac]at D8;exact⟨_,_,_,_,_,CB,hk,k1,k2,.tok _ r Gc _ _ D8 GE (by unfold AQ;rw[A9];simp) (by simp[Gh.upd,t1]) (by simp[Gh.upd]) (fun _=>by simp[Gh.upd])⟩
         ·have eG:cap<es.length+es2.length:=by omega
          have ha:a=none→cap=0:=by
           rintro rfl
           rcases a3 with ⟨e1,_⟩ | ⟨_,b,_,_,_,e2,_⟩
           ·obtain⟨p1,p2,a',c',p3,p4⟩:=o1;cases p3;rcases p4 with h | ⟨b',h,_⟩
            ·omega
            ·cases h
           ·cases e2
          obtain⟨nc,rest,r1,r2,r3⟩:=HB hT w (ty:=ty) ht Et hz (by rw[←Qe];exact o1) rfl ha ⟨m1,m2,a2,c2,rfl,m4⟩ rfl (by omega) eG q3 q4;have EJ:=Hq w.drew (.cells (olds++news++rest).toArray e (0,0)) (b:=w.heap.size) rfl
          obtain⟨k1,k2⟩:=hI.upd r (.tok Gc (es.length+es2.length)) (.slice (some ⟨w.heap.size,0,none⟩) (es.length+es2.length) nc) (es.length+es2.length) (g.tk r) (some w.heap.size) (g.more w.heap.size ((es.length+es2.length)*Gc))
           (w.drew.alloc (.cells (olds++news++rest).toArray e (0,0))) none
           ⟨rfl,rfl,rfl,by rw[World.size_alloc];exact Nat.le_succ _⟩ (fun k JP _=>by rw[heap_alloc_old _ _ (by exact JP)];rfl) (fun b' e=>by cases e) (fun _ _ h=>.inl h)
           (fun b' o hs=>hs.elim .inl (fun hs=>.inr ⟨by rw[World.size_alloc,hs.1];exact Lg _,.inl (by rw[hs.1];exact Am _)⟩))
           (fun b' o e=>by cases e) (fun b' _ e=>by cases e;exact⟨by rw[World.size_alloc];exact Lg _,.inr (Am _)⟩) (by simp) (fun _=>⟨rfl,by omega,fun e=>(by rw[t1]at e;cases e),fun e=>by omega⟩) (fun hg HL=>by
            obtain⟨u1,u2,u3,u4⟩:=Bw g r (.slice (some ⟨w.heap.size,0,none⟩) (es.length+es2.length) nc) (es.length+es2.length) (g.tk r) (some w.heap.size) (g.more w.heap.size ((es.length+es2.length)*Gc));exact⟨u3.trans t1,u2,_,nc,u1,.inr ⟨r2,w.heap.size,e,_,0,rfl,u4,EJ,by rw[Fg,Qe,Bg];exact r3,fun o ho=>by
             rcases ho with ho | ⟨_,ho⟩
             ·have:=hI.slt _ _ ho;omega
             ·omega⟩⟩)
          have D8:=BC.slice_row (g:=g.upd r (.slice (some ⟨w.heap.size,0,none⟩) (es.length+es2.length) nc) (es.length+es2.length) (g.tk r) (some w.heap.size) (g.more w.heap.size ((es.length+es2.length)*Gc))) (U:=AQ (AU h r (.tok Gc (es.length+es2.length)))) (cap:=nc) (es:=es++es2) EJ GE (by rw[Ac];exact r2) (by
           rw[Ac,show(olds++news++rest).toArray.toList=olds++news++rest from rfl,He (by rw[Ac,o1.1,m1,Qe,E2])];exact Wf.mono k2.keeps (fun _ h=>h) (fun _ h=>h.elim)) (fun o ho=>.inr ⟨rfl,by rw[Ac]at ho;exact ho⟩)
          rw[Ac]at D8;exact⟨_,_,_,_,_,r1,hk,k1,k2,.tok _ r Gc _ _ D8 GE (by unfold AQ;rw[A9];simp) (by simp[Gh.upd,t1]) (by simp[Gh.upd]) (fun _=>by simp[Gh.upd])⟩
      ·exact hk.elim
     ·exact hk.elim
    ·rename_i r n;have ho:=hI.objs r;split at hk
     ·rename_i sz es e0;split at hk
      ·rename_i Qe;obtain Qe:=AH Qe;obtain⟨⟨q1,q2,q3,q4⟩,hk⟩:=hk;rw[Qe]at q1;obtain⟨news,n1,n2⟩:=h6 (FE q1);obtain⟨m1,m2,a2,c2,rfl,m4⟩:=n1;obtain⟨hv,olds,o1,o2⟩:=T5 hI e0 hs q2.symm;have I6:=ho;rw[e0]at ho;obtain⟨t1,l1,al,a3⟩:=ho;have hl:(h r).live:=by rw[e0];trivial
       subst hv;have GE:∀c∈es++es2,c.length=sz:=fun c hc=>(AL.1 hc).elim (al c) (fun h=>(FE q1 c h).trans Qe.symm);have Wf:=o2.app n2;rw[←Cy]at Wf;obtain⟨a,cap,hρ,Zp,ha⟩:∃a cap,g.ρ r=.slice a es.length cap∧es.length≤cap∧(a=none→cap=0):=by
        rcases a3 with ⟨rfl,e2,e3⟩ | ⟨b,cap,E,Fq,e1,e2,e3,e4,e5,e6,e7⟩
        ·exact⟨none,0,e2,Am _,fun _=>rfl⟩
        ·exact⟨_,cap,e1,e3,fun e=>by cases e⟩
       by_cases hm:es2.length=0
       ·obtain rfl:=AM hm;rw[e0]at I6
        obtain⟨k1,k2⟩:=hI.upd r (.arr sz (es++[])) (g.ρ r) (g.ln r) (g.tk r) (g.own r) g.S w none ⟨rfl,rfl,rfl,Am _⟩ (fun _ _ _=>rfl) (fun b e=>by cases e) (fun _ _ h=>h) (fun _ _ h=>.inl h) (fun b o e=>by cases e)
         (fun b _ e=>⟨(hI.loc r b hl e).1,.inl ⟨hl,e⟩⟩) (by simp) (fun _=>⟨rfl,Am _,fun _=>rfl,fun _=>rfl⟩) (fun hg HL=>by
          obtain⟨u1,u2,u3,u4⟩:=Bw g r (g.ρ r) (g.ln r) (g.tk r) (g.own r) g.S;rw[BT];exact I6.same HL (fun i hi=>DG (by simp) i hi) hg u1 u2 u3 u4 (fun b _ _=>⟨rfl,fun _ h=>h⟩))
        refine⟨g.ρ r,w,_,_,_,?_,hk,k1,k2,?_⟩
        ·rw[hρ];exact Ix hT w ht Et a a2 es.length cap c2 Zp
        ·have:=hs.le k2
         rw[←q2]at this;exact this
       ·by_cases Jy:es.length+es2.length≤cap
        ·rcases a3 with ⟨rfl,e2,e3⟩ | ⟨b,KG,E,Fq,e1,e2,e3,e4,e5,e6,e7⟩
         ·rw[e2]at hρ;cases hρ;omega
         ·rw[e1]at hρ;simp only[Value.slice.injEq,true_and]at hρ;obtain⟨rfl,rfl⟩:=hρ;rcases m4 with h | ⟨ba,rfl,ID⟩
          ·omega
          ·obtain⟨i,z,i1,i2,i3,i4,i5⟩:=Hg hT Et;have Sh:(es.length+es2.length)*sz≤KG*sz:=Be _ Jy;have kN:news.length=es2.length*sz:=by rw[Qe];exact m1
           have Yv:i.size=sz:=i3.trans Qe.symm;have CB:=Px (P:=P) t ty e i (hT.slice ht) i1 b es.length KG Fq e4 ba es2.length c2 news (by rw[Yv];exact kN) ID m2 Jy (by rw[Yv,kN,←E2,e5];exact Sh);rw[Yv]at CB;have Gr:∀j u,olds[j]?=some u→w.cell? ⟨b,j,none⟩=some u:=by
            obtain⟨p1,p2,a',c',p3,p4⟩:=o1;rw[e1]at p3;cases p3;intro j u hj;rcases p4 with h | ⟨b',h,h'⟩
            ·rw[h,J7]at p1;rw[AM p1]at hj;simp at hj
            ·cases h
             have:=h' j u hj
             rwa [Addr.add_lit,Bg]at this
           obtain⟨p1,p2,p3⟩:=gy e4 e5 e3 Jy kN o1.1 Gr;generalize hnewd:Fq.toList.take (es.length*sz)++news++Fq.toList.drop (es.length*sz+news.length)=new at CB p1 p2 p3;have EJ:=setRow_heap w b Fq new.toArray E (0,0) e4;have aY:=(hI.loc r b hl e2).1
           obtain⟨k1,k2⟩:=hI.upd r (.arr sz (es++es2)) (.slice (some ⟨b,0,none⟩) (es.length+es2.length) KG) (es.length+es2.length) (g.tk r) (g.own r) g.S (w.setRow b new.toArray) (some b)
            ⟨rfl,rfl,rfl,by rw[size_setRow];exact Am _⟩ (fun k _ Dt=>setRow_other w b k _ (fun e=>Dt (by rw[e]))) (fun b' e=>by cases e;exact⟨hl,e2⟩) (fun _ _ h=>h) (fun _ _ h=>.inl h)
            (fun b' o e hs=>by cases e;exact absurd hs (e7 o)) (fun b' _ e=>by
             rw[e2]at e;cases e;exact⟨by rw[size_setRow];exact aY,.inl ⟨hl,e2⟩⟩) (by simp) (fun _=>⟨rfl,by omega,fun e=>(by rw[t1]at e;cases e),fun e=>by omega⟩) (fun hg HL=>by
             obtain⟨u1,u2,u3,u4⟩:=Bw g r (.slice (some ⟨b,0,none⟩) (es.length+es2.length) KG) (es.length+es2.length) (g.tk r) (g.own r) g.S;refine⟨u3.trans t1,by rw[u2,Ac],GE,.inr ⟨b,KG,E,_,by rw[u1,Ac],u4.trans e2,by rw[Ac];exact Jy,EJ,by rw[Fg];exact p1,?_,e7⟩⟩;rw[Ac,show new.toArray.toList=new from rfl,p2];exact Wf.mono HL (fun _ h=>h) (fun _ h=>h.elim))
           rw[e1];exact⟨_,_,_,_,_,CB,hk,k1,k2,.msl _ r _ _ _ (by unfold AQ;rw[A9];simp) (by simp[Gh.upd,t1]) (by simp[Gh.upd]) (.inr ⟨_,rfl⟩) (fun _=>by simp[Gh.upd])⟩
        ·have eG:cap<es.length+es2.length:=by omega
         obtain⟨nc,rest,r1,r2,r3⟩:=HB hT w (ty:=ty) ht Et hz (by rw[←Qe];exact o1) hρ ha ⟨m1,m2,a2,c2,rfl,m4⟩ rfl (by omega) eG q3 q4;have EJ:=Hq w.drew (.cells (olds++news++rest).toArray e (0,0)) (b:=w.heap.size) rfl
         obtain⟨k1,k2⟩:=hI.upd r (.arr sz (es++es2)) (.slice (some ⟨w.heap.size,0,none⟩) (es.length+es2.length) nc) (es.length+es2.length) (g.tk r) (some w.heap.size) g.S
          (w.drew.alloc (.cells (olds++news++rest).toArray e (0,0))) none
          ⟨rfl,rfl,rfl,by rw[World.size_alloc];exact Nat.le_succ _⟩ (fun k JP _=>by rw[heap_alloc_old _ _ (by exact JP)];rfl) (fun b' e=>by cases e) (fun _ _ h=>h) (fun _ _ h=>.inl h)
          (fun b' o e=>by cases e) (fun b' _ e=>by cases e;exact⟨by rw[World.size_alloc];exact Lg _,.inr (Am _)⟩) (by simp) (fun _=>⟨rfl,by omega,fun e=>(by rw[t1]at e;cases e),fun e=>by omega⟩) (fun hg HL=>by
           obtain⟨u1,u2,u3,u4⟩:=Bw g r (.slice (some ⟨w.heap.size,0,none⟩) (es.length+es2.length) nc) (es.length+es2.length) (g.tk r) (some w.heap.size) g.S;refine⟨u3.trans t1,by rw[u2,Ac],GE,.inr ⟨w.heap.size,nc,e,_,by rw[u1,Ac],u4,by rw[Ac];exact r2,EJ,by rw[Fg,Qe];exact r3,?_,fun o ho=>by have:=hI.slt _ _ ho;omega⟩⟩;rw[Ac,show(olds++news++rest).toArray.toList=olds++news++rest from rfl,He (by rw[Ac,o1.1,m1,Qe,E2])];exact Wf.mono HL (fun _ h=>h) (fun _ h=>h.elim))
         exact⟨_,_,_,_,_,r1,hk,k1,k2,.msl _ r _ _ _ (by unfold AQ;rw[A9];simp) (by simp[Gh.upd,t1]) (by simp[Gh.upd]) (.inr ⟨_,rfl⟩) (fun _=>by simp[Gh.upd])⟩
      ·exact hk.elim
     ·exact hk.elim
    ·exact hk.elim
 ·exact hk.elim
end
section
variable {P:Program}{w0:World}{g0:Gh}{h0 h:Nat→HO}{g:Gh}{w:World}(hI:Dz w0 g0 h0 h g w)
include hI
theorem Nr{d sz n:Nat}{es:List (List AV)}{a:Option Addr}(hd:h d=.free)(hl:∀c∈es,c.length=sz)(hn:es.length=n)(hr:BC g w E8 (.slice .none es) (.slice a n n)) :
  ∃g',Dz w0 g0 h0 (AU h d (.tok sz n)) g' w∧Le h g w (AU h d (.tok sz n)) g' w∧BC g' w (AQ (AU h d (.tok sz n))) (.slice (.id d sz) es) (.slice a n n):=by
 obtain⟨k1,k2⟩:=hI.upd d (.tok sz n) (.slice a n n) n true none g.S w none ⟨rfl,rfl,rfl,Am _⟩ (fun _ _ _=>rfl) (fun b e=>by cases e) (fun _ _ h=>h) (fun _ _ h=>.inl h) (fun b o e=>by cases e) (fun b _ e=>by cases e) (by simp)
  (fun hu=>absurd hd hu) (fun _ _=>by
   obtain⟨u1,u2,u3,u4⟩:=Bw g d (.slice a n n) n true none g.S;exact⟨u3,u2,a,n,u1,.inl ⟨rfl,u4⟩⟩)
 exact⟨_,k1,k2,.tok _ d sz es _ (((hr.up (AQ h)).le k2)) hl (by unfold AQ;rw[A9];simp) (by simp[Gh.upd]) (by simp[Gh.upd,hn]) (fun _=>by simp[Gh.upd])⟩
theorem X4{cx:Cx}{d:Option Nat}{x:AV}{vx:Value}{K:HK}(hx:BC g w (AQ h) x vx)(hk:NP cx d h x K):∃g' av h',K av h'∧Dz w0 g0 h0 h' g' w∧Le h g w h' g' w∧BC g' w (AQ h') av vx:=by
 have plain:K x h→∃g' av h',K av h'∧Dz w0 g0 h0 h' g' w∧Le h g w h' g' w∧BC g' w (AQ h') av vx:=fun hk=>⟨g,x,h,hk,hI,.refl _ _ _,hx⟩;unfold NP at hk;split at hk
 ·exact plain hk
 ·rename_i d;split at hk
  ·rename_i sz _;split at hk
   ·refine⟨g,xV x,h,hk,hI,.refl _ _ _,?_⟩;cases x with
    |slice tk es=>exact(BC.slice_none hx).up _
    |_=>exact hx
   ·split at hk
    ·split at hk
     ·rename_i hd;obtain rfl:=hx.v_eq;obtain⟨g',k1,k2,k3⟩:=Nr hI (sz:=sz) (es:=[]) (a:=none) hd (by simp) rfl (.snil _ _ _);exact⟨g',_,_,hk,k1,k2,k3⟩
     ·exact hk.elim
    ·exact plain hk
  ·split at hk
   ·rename_i sz _;split at hk
    ·split at hk
     ·rename_i hd;obtain rfl:=hx.v_eq
      obtain⟨k1,k2⟩:=hI.upd d (.arr sz []) (.slice none 0 0) 0 true none g.S w none ⟨rfl,rfl,rfl,Am _⟩ (fun _ _ _=>rfl) (fun b e=>by cases e) (fun _ _ h=>h) (fun _ _ h=>.inl h) (fun b o e=>by cases e) (fun b _ e=>by cases e) (by simp)
       (fun hu=>absurd hd hu) (fun _ _=>by
        obtain⟨u1,u2,u3,u4⟩:=Bw g d (.slice none 0 0) 0 true none g.S;exact⟨u3,u2,by simp,.inl ⟨rfl,u1,u4⟩⟩)
      exact⟨_,_,_,hk,k1,k2,.msl _ d 0 none 0 (by unfold AQ;rw[A9];simp) (by simp[Gh.upd]) (AO _) (.inl rfl) (fun _=>by simp[Gh.upd])⟩
     ·exact hk.elim
    ·exact plain hk
   ·exact plain hk
theorem Xk{T:Gf}{mku:List Nat}{d:Option Nat}{ty:Nat}{K:HK}(hk:Km T mku d h ty K):NF P w0 g0 h0 h g w (Instr.makeMap ty none) K:=by
 unfold Km at hk;split at hk
 ·exact hk.elim
 ·rename_i d;split at hk
  ·rename_i hd;split at hk
   ·split at hk
    ·rename_i sh _;split at hk
     ·obtain⟨k1,k2⟩:=hI.newOwn hd (.mapU sh []) (.map #[] 0) (.map (some w.heap.size)) 0 false w ⟨rfl,rfl,rfl,rfl⟩ (by simp) (fun hg HL=>by
       obtain⟨u1,u2,u3,u4⟩:=Bw g d (.map (some w.heap.size)) 0 false (some w.heap.size) g.S;exact⟨u3,w.heap.size,#[],0,u4,u1,Hq w _ rfl,⟨rfl,by simp,by simp,by simp,by simp,by simp⟩,by simp,fun o ho=>by have:=hI.slt _ _ ho;omega⟩)
      refine⟨_,_,_,_,_,?_,hk,k1,k2,.mref _ d w.heap.size (by unfold AQ;rw[A9];simp) ?_ ?_⟩
      ·simp[Instr.makeMap]
      ·simp[Gh.upd]
      ·simp[Gh.upd]
     ·obtain⟨k1,k2⟩:=hI.newOwn hd (.map sh []) (.map #[] 0) (.map (some w.heap.size)) 0 false w ⟨rfl,rfl,rfl,rfl⟩ (by simp) (fun hg HL=>by
       obtain⟨u1,u2,u3,u4⟩:=Bw g d (.map (some w.heap.size)) 0 false (some w.heap.size) g.S;exact⟨u3,w.heap.size,#[],0,u4,u1,Hq w _ rfl,⟨rfl,by simp,by simp,by simp,by simp,by simp⟩,by simp,fun o ho=>by have:=hI.slt _ _ ho;omega⟩)
      refine⟨_,_,_,_,_,?_,hk,k1,k2,.mref _ d w.heap.size (by unfold AQ;rw[A9];simp) ?_ ?_⟩
      ·simp[Instr.makeMap]
      ·simp[Gh.upd]
      ·simp[Gh.upd]
    ·exact hk.elim
   ·exact hk.elim
  ·exact hk.elim
omit hI in
theorem BC.sub{es:List (List AV)}{sz l m:Nat}{x:Value}{a:Option Addr}{n cap:Nat}(hr:BC g w E8 (.slice .none es) x)(hx:x=.slice a n cap)(hl:∀c∈es,c.length=sz)(h1:l≤m)(h2:m≤es.length)(c' : Nat)(hc:m-l≤c')(a' : Option Addr)
  (ha:a'=a.map (·.add (l*sz))∨(m=l∧a'=a)):BC g w E8 (.slice .none ((es.take m).drop l)) (.slice a' (m-l) c'):=by
 subst hx;have Cw:((es.take m).drop l).length=m-l:=by rw[Dn,AB];omega
 by_cases h0:m-l=0
 ·have:(es.take m).drop l=[]:=AM (by omega)
  rw[this,h0];exact .snil _ _ _
 ·cases hr with
  |snil=>simp at h2;omega
  |slice _ _ b off Gc cap val nT Pf Du D8 =>
   have hz:Gc=sz:=by
    have:(0:Nat)<es.length:=by omega
    have h3:=Pf 0 es[0] (As this);rw[←h3];exact hl _ (At this)
   subst hz;have yO : a'=some ⟨b,off+l*Gc,none⟩:=by
    rcases ha with h | ⟨h,_⟩
    ·rw[h];simp[Addr.add_lit]
    ·omega
   subst yO;rw[←Cw];have E5:∀(i:Nat) (cs:List AV),((es.take m).drop l)[i]?=some cs→es[l+i]?=some cs:=fun i cs h=>by
    rw[Dq]at h
    by_cases hi:l+i<m
    ·rwa [BB hi]at h
    ·rw[A2 (by rw[AB];omega)]at h;cases h
   refine .slice _ _ b (off+l*Gc) Gc c' (fun i j=>val (l+i) j) (by rw[Cw];exact hc) (fun i cs h=>Pf _ _ (E5 i cs h)) (fun i cs j av h1 h2=>?_) (fun i cs j av h1 h2=>D8 _ _ _ _ (E5 i cs h1) h2)
   have:=Du _ _ _ _ (E5 i cs h1) h2
   rwa [show off+(l+i)*Gc+j=off+l*Gc+i*Gc+j by rw[E2];omega]at this
omit hI in
theorem Kr{t:Nat→AV}{ρ:Operand→Value}(ht:∀x:Operand,BC g w (AQ h) (ev t x) (ρ x)){o:Option Operand}{i:Option Int}(hk:BY t o=some i):o.map ρ=i.map fun n=>.int .i64 n:=by
 cases o with
 |none=>cases hk;rfl
 |some x =>
  unfold BY at hk;dsimp only at hk;split at hk
  ·rename_i n e;cases hk
   have:=ht x
   rw[e]at this;simp[this.v_eq]
  ·cases hk
omit hI in
theorem S7(b:Bool)(len cap:Nat)(lo hi mx:Option Int)(jj:mx=none∨hi≠none)(h0:0≤lo.getD 0)(h1:lo.getD 0≤hi.getD len)(h2:hi.getD len≤mx.getD cap)(h3:mx.getD cap≤cap) :
  (Instr.sliceBounds b len cap (lo.map fun n=>.int .i64 n) (hi.map fun n=>.int .i64 n) (mx.map fun n=>.int .i64 n)).run P w=.ok ((lo.getD 0).toNat,(hi.getD len).toNat,(mx.getD cap).toNat) w:=by
 have e1:∀n:Int,0≤n→(n.toNat:Int)=n:=fun n hn=>Int.toNat_of_nonneg hn;cases mx with
 |none =>
  cases hi with
  |none =>
   cases lo with
   |none=>simp[Instr.sliceBounds]
   |some l =>
    simp only[Co,DT]at h0 h1 h2;simp[Instr.sliceBounds,run_sliceBound,h0,h1]
  |some hh =>
   simp only[Co,DT]at h1 h2;have pP:0≤hh:=by omega
   cases lo with
   |none=>simp[Instr.sliceBounds,run_sliceBound,pP,h2]
   |some l =>
    simp only[Co]at h0 h1;simp[Instr.sliceBounds,run_sliceBound,h0,h1,h2,pP,e1]
 |some m =>
  cases hi with
  |none=>simp at jj
  |some hh =>
   simp only[Co]at h1 h2 h3;have pP:0≤hh:=by omega
   have rN:0≤m:=by omega
   cases lo with
   |none=>simp[Instr.sliceBounds,run_sliceBound,h2,h3,pP,rN,e1]
   |some l =>
    simp only[Co]at h0 h1;simp[Instr.sliceBounds,run_sliceBound,h0,h1,h2,h3,pP,rN,e1]
omit hI in
theorem EC{T:Gf}(hT:Cq P T){ty e k:Nat}(ht:(T ty).d=.slice e)(hk:(T e).size=k+1)(a:Option Addr)(len cap:Nat)(lo hi mx:Option Int)(jj:mx=none∨hi≠none)(h0:0≤lo.getD 0)(h1:lo.getD 0≤hi.getD len)(h2:hi.getD len≤mx.getD cap)(h3:mx.getD cap≤cap) :
  (Instr.sliceAt ty (.slice a len cap) (lo.map fun n=>.int .i64 n) (hi.map fun n=>.int .i64 n) (mx.map fun n=>.int .i64 n)).run P w =
   .ok (.slice (if(mx.getD cap).toNat=(lo.getD 0).toNat then a else a.map (·.add ((lo.getD 0).toNat*(T e).size))) ((hi.getD len).toNat-(lo.getD 0).toNat) ((mx.getD cap).toNat-(lo.getD 0).toNat)) w:=by
 have hu:=hT.slice ht;have hb:=S7 (P:=P) (w:=w) true len cap lo hi mx jj h0 h1 h2 h3;simp only[Instr.sliceAt,Sem.run_bind,run_underlying hu,Result.andThen_ok,Instr.slice,hb,hT.size1 w hk,Sem.run_pure];rw[hk]
theorem Dz.moveO(r r2:Nat)(Dt:r2≠r)(hf:h r2=.free)(hl:(h r).live){ob:Option Nat}(ho:∀c,ob=some c→g.own r=some c)(o' : HO)(x:Value)(n:Nat)(t:Bool)(hn:o'≠.free)
  (I6:Ey g w (g.upd r2 x n t ob g.S) w→D1 (g.upd r2 x n t ob g.S) w (AQ (AU (AU h r .dead) r2 o')) r2 o') :
  Dz w0 g0 h0 (AU (AU h r .dead) r2 o') (g.upd r2 x n t ob g.S) w∧Le h g w (AU (AU h r .dead) r2 o') (g.upd r2 x n t ob g.S) w:=by
 have cL:JI g (g.upd r2 x n t ob g.S) (AQ h):=by
  intro i hi;have e:i≠r2:=fun e=>hi (by rw[e];exact hf);refine⟨by simp[Gh.upd,e],by simp[Gh.upd,e],fun _=>by simp[Gh.upd,e],fun _=>by simp[Gh.upd,e]⟩
 have hK:Ey g w (g.upd r2 x n t ob g.S) w:=fun b o hb=>⟨hb,rfl,fun _ _ h=>h⟩;have JZ:∀i,AQ h i→AQ (AU (AU h r .dead) r2 o') i:=fun i hi=>DG hn i (DG (by simp) i hi);have key:∀i,i≠r2→(AU (AU h r .dead) r2 o' i).live→i≠r∧(h i).live:=fun i h2 hl=>by
  rw[BR _ _ _ _ h2]at hl
  by_cases e:i=r
  ·subst e;rw[A9]at hl;exact hl.elim
  ·rw[BR _ _ _ _ e]at hl;exact⟨e,hl⟩
 have own:∀i,i≠r2→(g.upd r2 x n t ob g.S).own i=g.own i:=fun i e=>by simp[Gh.upd,e]
 have SN:(g.upd r2 x n t ob g.S).own r2=ob:=by simp[Gh.upd]
 refine⟨⟨hI.os,hI.tape,hI.output,hI.size,hI.frame,hI.slt,fun i=>?_,fun i j c hi hj ei ej=>?_,fun i c hi ei=>?_,hI.sg,hI.glob.keep hK⟩,cL,JZ,hK⟩
 ·by_cases e:i=r2
  ·subst e;rw[A9];exact I6 hK
  ·rw[BR _ _ _ _ e]
   by_cases e1:i=r
   ·subst e1;rw[A9];trivial
   ·rw[BR _ _ _ _ e1];exact(hI.objs i).same hK JZ cL (by simp[Gh.upd,e]) (by simp[Gh.upd,e]) (by simp[Gh.upd,e]) (by simp[Gh.upd,e]) (fun b hl hb=>⟨rfl,fun k hk=>hk⟩)
 ·by_cases e1:i=r2<;>by_cases e2:j=r2
  ·exact e1.trans e2.symm
  ·subst e1;rw[SN]at ei;rw[own j e2]at ej;obtain⟨a1,a2⟩:=key j e2 hj;exact absurd (hI.inj j r _ a2 hl ej (ho _ ei)) a1
  ·subst e2;rw[SN]at ej;rw[own i e1]at ei;obtain⟨a1,a2⟩:=key i e1 hi;exact absurd (hI.inj i r _ a2 hl ei (ho _ ej)) a1
  ·rw[own i e1]at ei;rw[own j e2]at ej;exact hI.inj i j c (key i e1 hi).2 (key j e2 hj).2 ei ej
 ·by_cases e1:i=r2
  ·subst e1;rw[SN]at ei;exact hI.loc r _ hl (ho _ ei)
  ·rw[own i e1]at ei;exact hI.loc i c (key i e1 hi).2 ei
theorem XL{cx:Cx}(hT:Cq P cx.T){d:Option Nat}{ty:Nat}{x:AV}{vx:Value}{t:Nat→AV}{ρ:Operand→Value}(ht:∀x:Operand,BC g w (AQ h) (ev t x) (ρ x)){lo hi mx:Option Operand}{K:HK}(hx:BC g w (AQ h) x vx)
  (hk:SY cx d h ty x (BY t lo) hi mx K):NF P w0 g0 h0 h g w (Instr.sliceAt ty vx (lo.map ρ) (hi.map ρ) (mx.map ρ)) K:=by
 unfold SY at hk;split at hk
 ·rename_i d Hs e1;rw[Kr ht e1];split at hk
  ·rename_i e hs;split at hk
   ·exact hk.elim
   ·rename_i k Et;split at hk
    ·rename_i r sz es;split at hk
     ·rename_i Gc n e0;split at hk
      ·rename_i hd;split at hk
       ·rename_i q1 q2;obtain rfl:=AH q1;have q2:=AH q2;obtain⟨⟨rfl,h1,h2⟩,hk⟩:=hk;have hl:(h r).live:=by rw[e0];trivial
        have Dt:Kf cx d≠r:=fun e=>by rw[e,e0]at hd;cases hd
        have ho:=hI.objs r;rw[e0]at ho;obtain⟨t1,l1,a,cap,a1,a3⟩:=ho;have hr:=hx.slice_none;cases hx with
        |tok _ _ _ _ _ n9 We hu ht' hn Li =>
         have hv:=Li l1.symm;rw[a1]at hv;subst hv;have Zp:es.length≤cap:=by rcases a3 with ⟨e1,_⟩ | ⟨e1,_⟩<;>omega
         have CB:=EC (P:=P) (w:=w) hT hs Et a es.length cap (some Hs) none none (.inl rfl) h1 h2 (by simp only[DT];omega) (by simp);simp only[Co,DT,Cn]at CB;have Cw:(es.drop Hs.toNat).length=es.length-Hs.toNat:=Dn;have eX:=BC.sub (c':=cap-Hs.toNat) hr rfl We (l:=Hs.toNat) (m:=es.length) (by omega) (Am _) (by omega) (if cap=Hs.toNat then a else a.map (·.add (Hs.toNat*(cx.T e).size))) (by
          split
          ·exact .inr ⟨by omega,rfl⟩
          ·rw[q2];exact .inl rfl)
         rw[DA]at eX
         have fin:∀ob:Option Nat,(∀c,ob=some c→g.own r=some c)→(es.length-Hs.toNat=cap-Hs.toNat∧ob=none∨es.length-Hs.toNat≤cap-Hs.toNat∧∃b E vs off,(if cap=Hs.toNat then a else a.map (·.add (Hs.toNat*(cx.T e).size)))=some ⟨b,off,none⟩∧ob=some b∧w.heap[b]?=some (.cells vs E (0,0))∧vs.size=off+(cap-Hs.toNat)*Gc∧∀o,g.S b o→o<off+(es.length-Hs.toNat)*Gc) →
           NF P w0 g0 h0 h g w (Instr.sliceAt ty (.slice a es.length cap) ((some Hs).map fun n=>.int .i64 n) ((none:Option Operand).map ρ) ((none:Option Operand).map ρ)) K:=fun ob ho p7=>by
          obtain⟨k1,k2⟩:=hI.moveO r (Kf cx d) Dt hd hl ho (.tok Gc (es.drop Hs.toNat).length) (.slice (if cap=Hs.toNat then a else a.map (·.add (Hs.toNat*(cx.T e).size))) (es.length-Hs.toNat) (cap-Hs.toNat)) (es.length-Hs.toNat) true (by simp) (fun HL=>by
           obtain⟨u1,u2,u3,u4⟩:=Bw g (Kf cx d) (.slice (if cap=Hs.toNat then a else a.map (·.add (Hs.toNat*(cx.T e).size))) (es.length-Hs.toNat) (cap-Hs.toNat)) (es.length-Hs.toNat) true ob g.S;refine⟨u3,u2.trans Cw.symm,_,_,by rw[Cw];exact u1,?_⟩;rw[Cw,u4];exact p7)
          exact⟨_,w,_,_,_,CB,hk,k1,k2,.tok _ _ _ _ _ (((eX.mono k2.keeps (fun _ h=>h) (fun _ h=>h.elim))).up _) (fun c hc=>We c (Ia hc)) (by unfold AQ;rw[A9];simp) (by simp[Gh.upd]) (by simp[Gh.upd]) (fun _=>by simp[Gh.upd])⟩
         rcases a3 with ⟨e1,e2⟩ | ⟨e1,b,E,vs,off,rfl,e3,e4,e5,e6⟩
         ·exact fin none (fun c h=>by cases h) (.inl ⟨by omega,rfl⟩)
         ·by_cases hc:cap=Hs.toNat
          ·exact fin none (fun c h=>by cases h) (.inl ⟨by omega,rfl⟩)
          ·refine fin (some b) (fun c h=>by cases h;exact e3) (.inr ⟨by omega,b,E,vs,off+Hs.toNat*Gc,?_,rfl,e4,?_,fun o ho=>?_⟩)
           ·rw[Ai hc];simp[Addr.add_lit,q2]
           ·rw[e5,Nat.sub_mul]
            have:=Be Gc (show Hs.toNat≤cap by omega)
            omega
           ·have:=e6 o ho
            rw[Nat.sub_mul]
            have:=Be Gc (show Hs.toNat≤es.length by omega)
            omega
       ·exact hk.elim
      ·exact hk.elim
     ·exact hk.elim
    ·exact hk.elim
  ·exact hk.elim
 ·exact hk.elim
omit hI in
theorem M7{sz:Nat}:∀{es:List (List AV)},(∀cs∈es,cs.length=sz)→∀k,(es.take k).flatten=es.flatten.take (k*sz)
 | [],_,k=>by simp
 |c::es,hl,0=>by simp
 |c::es,hl,k+1=>by
  have h1:=hl c (Ab ..);have h2:c.length≤k*sz+sz:=by omega
  rw[IH,Bv,Bv,M7 (fun x hx=>hl x (Ag _ hx)) k,List.take_append,h1,DS,
   AD h2,show k*sz+sz-sz=k*sz by omega]
omit hI in
theorem Cu.takeE{U:Nat→Prop}{sz k:Nat}{es:List (List AV)}{vs:List Value}(hl:∀cs∈es,cs.length=sz)(hk:k≤es.length)(h:Cu g w U es.flatten (vs.take (es.length*sz))):Cu g w U (es.take k).flatten (vs.take (k*sz)):=by
 have e:vs.take (k*sz)=(vs.take (es.length*sz)).take (k*sz):=by
  rw[List.take_take,Nat.min_eq_left (Be _ hk)]
 rw[M7 hl,e];refine⟨by rw[AB (l:=vs.take (es.length*sz)),h.1,AB],fun x hx=>h.2.1 x (Ei hx),fun i av x q1 q2=>?_⟩;have hi:i<k*sz:=by
  rcases Ez i (k*sz)with q | q
  ·exact q
  ·rw[Jl,Ai (by omega)]at q1;cases q1
 rw[Jl,Ao hi]at q1 q2;exact h.2.2 i av x q1 q2
theorem ZP{cx:Cx}(hT:Cq P cx.T){d:Option Nat}{ty:Nat}{x:AV}{vx:Value}{t:Nat→AV}{ρ:Operand→Value}(ht:∀x:Operand,BC g w (AQ h) (ev t x) (ρ x)){hi:Option Operand}{K:HK}(hx:BC g w (AQ h) x vx)
  (hk:gm cx d h ty x (BY t hi) K):NF P w0 g0 h0 h g w (Instr.sliceAt ty vx none (hi.map ρ) none) K:=by
 unfold gm at hk;split at hk
 ·rename_i d Lp e1;rw[Kr ht e1];split at hk
  ·rename_i e hs;split at hk
   ·exact hk.elim
   ·rename_i k Et;split at hk
    ·rename_i r n;split at hk
     ·rename_i sz es e0;split at hk
      ·rename_i hd;split at hk
       ·rename_i q1 q3;have q1:=AH q1;obtain⟨⟨rfl,h1,h2⟩,hk⟩:=hk;have hl:(h r).live:=by rw[e0];trivial
        have Dt:Kf cx d≠r:=fun e=>by rw[e,e0]at hd;cases hd
        have ho:=hI.objs r;rw[e0]at ho;obtain⟨t1,l1,al,a2⟩:=ho;have Cw:(es.take Lp.toNat).length=Lp.toNat:=by rw[AB];omega
        cases hx with
        |msl _ _ _ a cap hu ht' W5 ha Li =>
         have hv:=Li l1.symm;have Og:es.length≤cap:=by
          rcases a2 with ⟨b1,_,_⟩ | ⟨b,KG,E,vs,b1,_,b3,_⟩
          ·subst b1;exact AO _
          ·rw[b1]at hv;cases hv;exact b3
         have CB:=EC (P:=P) (w:=w) hT hs Et a es.length cap none (some Lp) none (.inl rfl) (by simp) (by simp only[DT,Co];exact h1) (by simp only[Co,DT];omega) (by simp);have K8:(if cap-(0:Nat)=0 then a else a.map (·.add (0*(cx.T e).size)))=a:=by
          rw[J7];split
          ·rfl
          ·rcases ha with e3 | ⟨b,rfl⟩
           ·cases a with
            |none=>rfl
            |some a=>simp[Addr.add]
           ·rfl
         simp only[Co,DT,Cn,Int.toNat_zero,Nat.sub_zero]at CB K8;have key:∃a',(Instr.sliceAt ty (.slice a es.length cap) ((none:Option Int).map fun n=>.int .i64 n) ((some Lp).map fun n=>.int .i64 n) ((none:Option Int).map fun n=>.int .i64 n)).run P w=.ok (.slice a' Lp.toNat cap) w∧(a'=a):=⟨_,CB,by first | exact K8 | (split<;>first | rfl | exact K8 | (simp_all))⟩
         obtain⟨a',CB,rfl⟩:=key;have JQ:BC (g.upd (Kf cx d) (.slice a' Lp.toNat cap) Lp.toNat true (g.own r) g.S) w (AQ (AU (AU h r .dead) (Kf cx d) (.arr sz (es.take Lp.toNat)))) (.msl (Kf cx d) Lp.toNat) (.slice a' Lp.toNat cap) :=
          .msl _ _ _ _ _ (by unfold AQ;rw[A9];simp) (by simp[Gh.upd]) (by simp[Gh.upd]) (ha.elim (fun e=>.inl (by omega)) .inr) (fun _=>by simp[Gh.upd])
         obtain⟨k1,k2⟩:=hI.moveO r (Kf cx d) Dt hd hl (ob:=g.own r) (fun c h=>h) (.arr sz (es.take Lp.toNat)) (.slice a' Lp.toNat cap) Lp.toNat true (by simp) (fun HL=>by
          obtain⟨u1,u2,u3,u4⟩:=Bw g (Kf cx d) (.slice a' Lp.toNat cap) Lp.toNat true (g.own r) g.S;refine⟨u3,u2.trans Cw.symm,fun c hc=>al c (Ei hc),?_⟩;rcases a2 with ⟨b1,b2,b3⟩ | ⟨b,KG,E,vs,b1,b2,b3,b4,b5,b6,b7⟩
          ·subst b1;rw[b2]at hv;cases hv;have h0:Lp.toNat=0:=by simp only[AF]at h2;omega
           exact .inl ⟨List.take_nil,by rw[u1,h0],u4.trans b3⟩
          ·rw[b1]at hv;cases hv;refine .inr ⟨b,cap,E,vs,by rw[Cw];exact u1,u4.trans b2,by rw[Cw];omega,b4,b5,?_,b7⟩;rw[Cw];exact(Cu.takeE al (by omega) b6).mono HL (fun _ h=>h) (fun _ h=>h.elim))
         exact⟨_,w,_,_,_,CB,hk,k1,k2,JQ⟩
       ·exact hk.elim
      ·exact hk.elim
     ·exact hk.elim
    ·exact hk.elim
  ·exact hk.elim
 ·exact hk.elim
theorem US{cx:Cx}(hT:Cq P cx.T){d:Option Nat}{ty:Nat}{x:AV}{vx:Value}{t:Nat→AV}{ρ:Operand→Value}(ht:∀x:Operand,BC g w (AQ h) (ev t x) (ρ x)){lo hi mx:Option Operand}{K:HK}(hx:BC g w (AQ h) x vx)
  (hk:Gb cx d h ty x (BY t lo) (BY t hi) (BY t mx) K):NF P w0 g0 h0 h g w (Instr.sliceAt ty vx (lo.map ρ) (hi.map ρ) (mx.map ρ)) K:=by
 unfold Gb at hk;split at hk
 ·rename_i Hs Lp lc e1 e2 e3;rw[Kr ht e1,Kr ht e2,Kr ht e3];split at hk
  ·rename_i hs;split at hk
   ·rename_i s;obtain⟨⟨h1,h2,h3⟩,hk⟩:=hk;obtain rfl:=hx.v_eq;have hb:=S7 (P:=P) (w:=w) false s.size s.size Hs Lp none (.inl rfl) h1 h2 (by simpa using h3) (by simp);refine(BF.val (x:=.string (s.extract (Hs.getD 0).toNat (Lp.getD s.size).toNat)) ?_ hk).does hI;simp only[Instr.sliceAt,Sem.run_bind,run_underlying (hT.string hs),Result.andThen_ok,Instr.slice];simp only[Option.map_none,Option.isSome_none,Dc,F7]at hb⊢;simp only[Sem.run_bind,hb,Result.andThen_ok,Sem.run_pure]
   ·exact hk.elim
  ·rename_i e hs;split at hk
   ·exact hk.elim
   ·rename_i k Et;split at hk
    ·rename_i tk es;have hr:=hx.slice_none;obtain⟨a,cap,hv,Og⟩:∃a cap,vx=.slice a es.length cap∧es.length≤cap:=by
      cases hr with
      |snil _ a cap=>exact⟨a,cap,rfl,AO _⟩
      |slice _ _ b off sz cap val hc=>exact⟨_,cap,rfl,hc⟩
     subst hv;split at hk
     ·obtain⟨⟨h1,h2,h3⟩,hl,hk⟩:=hk;have CB:=EC (P:=P) (w:=w) hT hs Et a es.length cap Hs Lp none (.inl rfl) h1 h2 (by simp only[DT];omega) (by simp);refine BF.does hI ⟨_,_,CB,hk,(BC.sub (c':=cap-(Hs.getD 0).toNat) hr rfl hl (l:=(Hs.getD 0).toNat) (m:=(Lp.getD es.length).toNat) (by omega) (by omega) (by simp;omega) _ ?_).up _⟩;split
      ·rename_i e;simp only[DT,Cn]at e;exact .inr ⟨by omega,rfl⟩
      ·exact .inl rfl
     ·rename_i m;split at hk
      ·rename_i d hh;split at hk
       ·obtain⟨⟨h1,h2,rfl,h3⟩,hl,hk⟩:=hk;have CB:=EC (P:=P) (w:=w) hT hs Et a es.length cap Hs (some m) (some m) (.inr (by simp)) h1 h2 (by simp) (by simp only[Co];omega);simp only[Co]at CB;have Cw:((es.take m.toNat).drop (Hs.getD 0).toNat).length=m.toNat-(Hs.getD 0).toNat:=by rw[Dn,AB];omega
        refine BF.does hI ⟨_,_,CB,hk,.full _ _ _ _ ((BC.sub (c':=m.toNat-(Hs.getD 0).toNat) hr rfl hl (l:=(Hs.getD 0).toNat) (m:=m.toNat) (by omega) (by omega) (by omega) _ ?_).up _) (fun c hc=>hl c (Ei (Ia hc))) ⟨_,by rw[Cw]⟩⟩;split
        ·rename_i e;exact .inr ⟨e,rfl⟩
        ·exact .inl rfl
       split at hk
       ·rename_i hd;obtain⟨⟨h1,h2,rfl,h3⟩,hl,hk⟩:=hk;have CB:=EC (P:=P) (w:=w) hT hs Et a es.length cap Hs (some m) (some m) (.inr (by simp)) h1 h2 (by simp) (by simp only[Co];omega);simp only[Co]at CB
        obtain⟨g',k1,k2,k3⟩:=Nr hI (sz:=(cx.T e).size) (n:=m.toNat-(Hs.getD 0).toNat) hd (es:=(es.take m.toNat).drop (Hs.getD 0).toNat) (fun c hc=>hl c (Ei (Ia hc))) (by rw[Dn,AB];omega)
         (BC.sub (c':=m.toNat-(Hs.getD 0).toNat) hr rfl hl (l:=(Hs.getD 0).toNat) (m:=m.toNat) (by omega) (by omega) (by omega) (if m.toNat=(Hs.getD 0).toNat then a else a.map (·.add ((Hs.getD 0).toNat*(cx.T e).size))) (by
          split
          ·rename_i e;exact .inr ⟨e,rfl⟩
          ·exact .inl rfl))
        exact⟨_,w,g',_,_,CB,hk,k1,k2,k3⟩
       ·exact hk.elim
      ·exact hk.elim
    ·obtain⟨⟨h1,h2,h3⟩,h4,hk⟩:=hk;obtain rfl:=hx.v_eq;have CB:=EC (P:=P) (w:=w) hT hs Et none 0 0 Hs Lp lc h4 (by omega) (by simp only[Is]at *;omega) (by simp only[Is]at *;omega) (by simp only[Is]at *;omega);refine BF.does hI (BF.val (x:=.slice none 0 0) ?_ hk);rw[CB];simp only[h1,Is,h2,h3];simp
    ·rename_i r n;split at hk
     ·rename_i sz es e0;split at hk
      ·rename_i Qe;obtain rfl:=AH Qe;obtain⟨⟨h1,h2,h3,h4,h5⟩,hk⟩:=hk;have ho:=hI.objs r;rw[e0]at ho;obtain⟨t1,l1,al,a3⟩:=ho;have hl:(h r).live:=by rw[e0];trivial
       have p5:lc=none∨Lp≠none:=h5.imp id (fun q=>q.2);cases hx with
       |msl _ _ _ a cap hu ht' hn ha Li =>
        have hv:=Li (h1.trans l1.symm);subst h1;have jj:∀c:Nat,es.length≤c→Lp.getD es.length≤lc.getD c∧lc.getD c≤c:=fun c hc=>by
         rcases h5 with h5 | ⟨h5,Dt⟩
         ·rw[h5];simp only[DT];omega
         ·obtain⟨m,hm⟩:=Option.ne_none_iff_exists'.1 Dt;rw[h5,hm];rw[hm]at h3 h4;simp only[Co]at h3 h4⊢;omega
        rcases a3 with ⟨rfl,q2,q3⟩ | ⟨b,KG,E,vs,q1,q2,q3,q4,q5,q6,q7⟩
        ·rw[q2]at hv;cases hv;have CB:=EC (P:=P) (w:=w) hT hs Et none 0 0 Hs Lp lc p5 h2 h3 (jj 0 (by simp)).1 (jj 0 (by simp)).2
         obtain⟨k1,k2⟩:=hI.upd r .dead (g.ρ r) (g.ln r) (g.tk r) (g.own r) g.S w none ⟨rfl,rfl,rfl,Am _⟩ (fun _ _ _=>rfl) (fun b e=>by cases e) (fun _ _ h=>h) (fun _ _ h=>.inl h) (fun b o e=>by cases e) (fun b hh _=>by cases hh) (by simp)
          (fun _=>⟨rfl,Am _,fun _=>rfl,fun _=>rfl⟩) (fun _ _=>trivial)
         refine⟨_,w,_,_,_,CB,hk,k1,k2,?_⟩;have z1:((Hs.getD 0).toNat)=0:=by simp only[AF,Is]at h3 h4;omega
         have z2:((Lp.getD (([]:List (List AV)).length:Int)).toNat)=0:=by simp only[AF,Is]at h3 h4⊢;omega
         simp only[List.take_nil,List.drop_nil];have z3:((Lp.getD ((0:Nat):Int)).toNat)=0:=z2;rw[z1,z3];exact .snil _ _ _
        ·rw[q1]at hv;cases hv;have CB:=EC (P:=P) (w:=w) hT hs Et (some ⟨b,0,none⟩) es.length cap Hs Lp lc p5 h2 h3 (jj _ q3).1 (jj _ q3).2;have aY:=(hI.loc r b hl q2).1
         obtain⟨k1,k2⟩:=hI.upd r .dead (g.ρ r) (g.ln r) (g.tk r) (g.own r) (g.more b (es.length*(cx.T e).size)) w none ⟨rfl,rfl,rfl,Am _⟩ (fun _ _ _=>rfl) (fun b e=>by cases e) (fun _ _ h=>.inl h)
          (fun b' o hs=>hs.elim .inl (fun hs=>.inr ⟨by rw[hs.1];exact aY,.inr ⟨hl,by rw[hs.1];exact q2⟩⟩)) (fun b o e=>by cases e) (fun b hh _=>by cases hh) (by simp)
          (fun _=>⟨rfl,Am _,fun _=>rfl,fun _=>rfl⟩) (fun _ _=>trivial)
         have D8:=BC.slice_row (g:=g.upd r (g.ρ r) (g.ln r) (g.tk r) (g.own r) (g.more b (es.length*(cx.T e).size))) (U:=E8) q4 al q3 (q6.mono k2.keeps (fun _ h=>h) (fun _ h=>h.elim)) (fun o ho=>.inr ⟨rfl,ho⟩);have zj:=jj _ q3;refine⟨_,w,_,_,_,CB,hk,k1,k2,(BC.sub (c':=(lc.getD cap).toNat-(Hs.getD 0).toNat) D8 rfl al (l:=(Hs.getD 0).toNat) (m:=(Lp.getD es.length).toNat) (by omega) (by omega) (by omega) _ ?_).up _⟩;split
         ·rename_i e;exact .inr ⟨by omega,rfl⟩
         ·exact .inl rfl
      ·exact hk.elim
     ·exact hk.elim
    ·exact hk.elim
  ·exact hk.elim
 ·exact hk.elim
theorem TQ{cx:Cx}(hT:Cq P cx.T){d:Option Nat}{ty:Nat}{n c:AV}{vn vc:Value}{K:HK}(hn:BC g w (AQ h) n vn)(hc:BC g w (AQ h) c vc)(hk:Ja cx d h ty n c K) :
  NF P w0 g0 h0 h g w (Instr.makeSlice ty vn vc) K:=by
 unfold Ja at hk;split at hk
 ·rename_i e n c hs;obtain rfl:=hn.v_eq;obtain rfl:=hc.v_eq;split at hk
  ·rename_i QH;split at hk
   ·rename_i Mz;have Mz:=AH Mz;split at hk
    ·exact hk.elim
    ·rename_i k Et;obtain⟨⟨h1,h2,h3,h4⟩,hk⟩:=hk;obtain⟨i,z,i1,i2,i3,i4,i5⟩:=Hg hT Et;have mP:(cx.T e).zc≠[]:=fun e0=>by rw[e0]at Mz;rw[Et]at Mz;cases Mz
     have wn:IntKind.i64.wrap n=n:=Mu ⟨by omega,by omega⟩;have wc:IntKind.i64.wrap c=c:=Mu ⟨by omega,by omega⟩;have GE:∀l:List AV,(∀a∈l,one a=true)→GL l=true:=by
      intro l
      induction l with
      |nil=>intro _;rfl
      |cons a l ih=>intro h;simp[GL,h a (List.mem_cons_self ..),ih (fun b hb=>h b (List.mem_cons_of_mem _ hb))]
     have mK:((Array.range (c.toNat*(cx.T e).size)).map fun k=>z.cells[k % z.cells.size]!).toList=(List.replicate c.toNat (cx.T e).zc).flatten:=by
      rw[Hz c.toNat _ mP,Mz,i5];have e6:z.cells.size=(cx.T e).size:=by rw[←Mz,i5];simp
      simp[e6,Array.getElem!_eq_getD]
     have hzs:(cx.T e).zc.length=(cx.T e).size:=Mz;have rM:∀c'∈List.replicate c.toNat (cx.T e).zc,c'.length=(cx.T e).size:=fun c' hc=>by rw[B7 hc];exact Mz
     have ud : ∀c'∈List.replicate n.toNat ((cx.T e).zc.map AV.v),c'.length=(cx.T e).size:=fun c' hc=>by rw[B7 hc,A7];exact Mz
     have ue:∀c'∈List.replicate n.toNat (cx.T e).zc,c'.length=(cx.T e).size:=fun c' hc=>by rw[B7 hc];exact Mz
     obtain⟨g',av,h',q1,q2,q3,q4⟩:=JC hI hk (vs:=(Array.range (c.toNat*(cx.T e).size)).map fun k=>z.cells[k % z.cells.size]!) (cap:=c.toNat) e ud (by rw[DD];omega) (by simp) (by
      rw[mK,DD];have e1:(List.replicate n.toNat ((cx.T e).zc.map AV.v)).flatten=(List.replicate n.toNat (cx.T e).zc).flatten.map AV.v:=by
       rw[Ri,List.map_replicate]
      have e2:(List.replicate c.toNat (cx.T e).zc).flatten.take (n.toNat*(cx.T e).size)=(List.replicate n.toNat (cx.T e).zc).flatten:=by
       obtain⟨m,hm⟩:∃m,c.toNat=n.toNat+m:=⟨c.toNat-n.toNat,by omega⟩;rw[hm,←List.replicate_append_replicate,Cy,He (by rw[CZ ue,DD])]
      rw[e1,e2];refine Cu.vals (GE _ (fun a ha=>?_));obtain⟨x,hx,rfl⟩:=Al.1 ha;obtain⟨l,hl,hx⟩:=Eh.1 hx;rw[B7 hl]at hx;exact L5 QH _ (Al.2 ⟨x,hx,rfl⟩)) w ⟨rfl,rfl,rfl,rfl⟩
     rw[DD]at q4;refine⟨_,_,g',av,h',?_,q1,q2,q3,q4⟩;have tK:¬((cx.T e).bytes*c>2 ^ 48):=by rw[Int.mul_comm];omega
     have eh:((decide (c<0)||decide (((cx.T e).bytes:Int)*c>2 ^ 48))||decide (n<0)||decide (n>c))=false:=by
      simp only[Bool.or_eq_false_iff,Jv];exact⟨⟨⟨by omega,tK⟩,by omega⟩,by omega⟩
     simp only[Instr.makeSlice,Sem.run_bind,run_underlying (hT.slice hs),Result.andThen_ok,asInt,asIntOf,Sem.run_pure,typeInfo,run_program,i1,i4,wn,wc,eh,Dc,F7,run_askRoom,hT.size1 w Et]
     by_cases hz:c.toNat*(k+1)=0
     ·have mo:c.toNat=0:=by
       rcases Nat.mul_eq_zero.1 hz with h | h
       ·exact h
       ·cases h
      rw[mo];simp only[J7,Qg];simp only[show Array.range 0=#[]from rfl,Array.map_empty];simp[newRow]
     ·simp only[Ai hz,Sem.run_bind,zeroValue,typeInfo,run_program,i1,i2,Result.andThen_ok,Sem.run_pure];rw[Et];simp[newRow]
   ·exact hk.elim
  ·exact hk.elim
 ·exact hk.elim
end
end Go.Eng
