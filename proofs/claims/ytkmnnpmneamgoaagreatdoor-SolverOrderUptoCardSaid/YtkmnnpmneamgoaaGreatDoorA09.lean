/- Lemmas for the claims of this seat, without a condition: part 9 (EngR, EngS). -/
import Derived.Test.YtkmnnpmneamgoaaGreatDoorA08
namespace Go.Eng

theorem CE.app{g:Gh}{w:World}{U:Nat→Prop}{TS bs:List AV}{xs ys:List Value}(h:CE g w U TS xs)(k:CE g w U bs ys):CE g w U (TS++bs) (xs++ys):=by
 refine⟨by simp[h.1,k.1],fun x hx=>(A2.1 hx).elim (h.2.1 x) (k.2.1 x),fun i av x h1 h2=>?_⟩
 by_cases hi:i<TS.length
 ·rw[AX hi]at h1;rw[AX (by rw[h.1];exact hi)]at h2;exact h.2.2 i av x h1 h2
 ·rw[A3 (by omega)]at h1;rw[A3 (by rw[h.1];omega),h.1]at h2;exact k.2.2 _ av x h1 h2

section
variable {P:Program}{w0:World}{g0:Gh}{h0 h:Nat→HO}{g:Gh}{w:World}(hI:Dk w0 g0 h0 h g w)
include hI

omit hI in
theorem PN(t ty e:TypeId)(i:TypeInfo)(ht:P.underlying t=some (.slice e))(hi:P.info? e=some i){E:TypeId}
  (g NO Zp:Nat) (F2:Array Value) (hg:w.heap[g]?=some (.cells F2 E (0,0)))
  (a:Addr) (m c:Nat) (news:List Value) (hl:news.length=m*i.size) (IK:∀j u,news[j]?=some u→w.cell? (a.add j)=some u) (h1:∀u∈news,u.oneCell'=true)
  (JL:NO+m≤Zp) (YQ:NO*i.size+news.length≤F2.size) :
  (Builtin.append_ #[t,t] ty #[.slice (some ⟨g,0,none⟩) NO Zp,.slice (some a) m c]).run P w =
   .ok (.slice (some ⟨g,0,none⟩) (NO+m) Zp) (w.setRow g (F2.toList.take (NO*i.size)++news++F2.toList.drop (NO*i.size+news.length)).toArray):=by
 have hf:=run_firstCells_some (P:=P) w i.size m a m c news hl IK;have FK:=run_storeCells_at P g (NO*i.size) E news 0 F2 w hg (by simpa using YQ) h1;simp only[Hg]at FK;simp[Builtin.append_,run_underlying ht,sizeOf,typeInfo,hi,Builtin.lenOf,JL,hf,Addr.add_lit,FK]

omit hI in
theorem Ts(t ty e:TypeId)(i:TypeInfo)(ht:P.underlying t=some (.slice e))(hi:P.info? e=some i){E:TypeId}
  (g off NO Zp:Nat) (F2:Array Value) (hg:w.heap[g]?=some (.cells F2 E (0,0)))
  (a:Addr) (m c:Nat) (news:List Value) (hl:news.length=m*i.size) (IK:∀j u,news[j]?=some u→w.cell? (a.add j)=some u) (h1:∀u∈news,u.oneCell'=true)
  (JL:NO+m≤Zp) (YQ:off+NO*i.size+news.length≤F2.size) :
  (Builtin.append_ #[t,t] ty #[.slice (some ⟨g,off,none⟩) NO Zp,.slice (some a) m c]).run P w =
   .ok (.slice (some ⟨g,off,none⟩) (NO+m) Zp) (w.setRow g (F2.toList.take (off+NO*i.size)++news++F2.toList.drop (off+NO*i.size+news.length)).toArray):=by
 have hf:=run_firstCells_some (P:=P) w i.size m a m c news hl IK;have FK:=run_storeCells_at P g (off+NO*i.size) E news 0 F2 w hg (by simpa using YQ) h1;simp only[Hg]at FK;simp[Builtin.append_,run_underlying ht,sizeOf,typeInfo,hi,Builtin.lenOf,JL,hf,Addr.add_lit,FK]

omit hI in
theorem kR{b off n m sz cap:Nat}{F2:Array Value}{E:TypeId}{olds news:List Value}(hb:w.heap[b]?=some (.cells F2 E (0,0)))(YP:F2.size=off+cap*sz)(hn:n≤cap)(hm:n+m≤cap)(hnl:news.length=m*sz)(sb:olds.length=n*sz)
  (GI:∀j u,olds[j]?=some u→w.cell? ⟨b,off+j,none⟩=some u) :
  (F2.toList.take (off+n*sz)++news++F2.toList.drop (off+n*sz+news.length)).length=off+cap*sz ∧
  ((F2.toList.take (off+n*sz)++news++F2.toList.drop (off+n*sz+news.length)).drop off).take ((n+m)*sz)=olds++news ∧
  ∀o,o<off+n*sz→(F2.toList.take (off+n*sz)++news++F2.toList.drop (off+n*sz+news.length)).toArray[o]?=F2[o]?:=by
 have hcl:F2.toList.length=off+cap*sz:=by rw[Cs];exact YP
 have T2:(n+m)*sz≤cap*sz:=Bc _ hm;have fD:n*sz≤cap*sz:=Bc _ hn;rw[Ff]at T2;have Kv:(F2.toList.take (off+n*sz)).drop off=olds:=by
  apply Dc;intro j
  by_cases hj:j<n*sz
  ·rw[Du,B2 (by omega)];have hx:olds[j]?=some olds[j]:=Ay (by omega)
   have:=GI j _ hx
   rw[F5 hb]at this;rw[A4,this,hx]
  ·rw[AZ (by rw[Da,AN];omega),AZ (by omega)]
 have oG:(F2.toList.take (off+n*sz)).length=off+n*sz:=by rw[AN];omega
 refine⟨?_,?_,fun o ho=>?_⟩
 ·rw[Ac,Ac,oG,Da,hcl,hnl];omega
 ·rw[BU,List.drop_append_of_le_length (by rw[oG];omega),Kv,←BU,Gk (by rw[Ac,sb,hnl,Ff])]
 ·rw[Lk,BU,AX (by rw[oG];exact ho),B2 ho,A4]

omit hI in
theorem ig{b n m sz cap:Nat}{F2:Array Value}{E:TypeId}{olds news:List Value}(hb:w.heap[b]?=some (.cells F2 E (0,0)))(YP:F2.size=cap*sz)(hn:n≤cap)(hm:n+m≤cap)(hnl:news.length=m*sz)(sb:olds.length=n*sz)
  (GI:∀j u,olds[j]?=some u→w.cell? ⟨b,j,none⟩=some u) :
  (F2.toList.take (n*sz)++news++F2.toList.drop (n*sz+news.length)).length=cap*sz ∧
  (F2.toList.take (n*sz)++news++F2.toList.drop (n*sz+news.length)).take ((n+m)*sz)=olds++news ∧
  ∀o,o<n*sz→(F2.toList.take (n*sz)++news++F2.toList.drop (n*sz+news.length)).toArray[o]?=F2[o]?:=by
 have hcl:F2.toList.length=cap*sz:=by rw[Cs];exact YP
 have T2:(n+m)*sz≤cap*sz:=Bc _ hm;have fD:n*sz≤cap*sz:=Bc _ hn;rw[Ff]at T2;have Kv:F2.toList.take (n*sz)=olds:=by
  apply Dc;intro j
  by_cases hj:j<n*sz
  ·rw[B2 hj];have hx:olds[j]?=some olds[j]:=Ay (by omega)
   have:=GI j _ hx
   rw[F5 hb]at this;rw[A4,this,hx]
  ·rw[AZ (by rw[AN];omega),AZ (by omega)]
 have oG:(F2.toList.take (n*sz)).length=n*sz:=by rw[AN];omega
 refine⟨?_,?_,fun o ho=>?_⟩
 ·rw[Ac,Ac,oG,Da,hcl,hnl];omega
 ·rw[Kv,Gk (by rw[Ac,sb,hnl,Ff])]
 ·rw[Lk,BU,AX (by rw[oG];exact ho),B2 ho,A4]

theorem Uo{r n sz:Nat}{es:List (List AV)}{x:Value}(he:h r=.arr sz es)(hx:BF g w (AK h) (.msl r n) x)(hn:n=es.length) :
  x=g.ρ r∧∃news,N3 w x es.length sz news∧CE g w E8 es.flatten news:=by
 have ho:=hI.objs r;rw[he]at ho;obtain⟨t1,l1,al,a1⟩:=ho;cases hx with
 |msl _ _ _ a cap hu ht Xk ha L6 =>
  have e:=L6 (hn.trans l1.symm);refine⟨e,?_⟩;rw[e];rcases a1 with ⟨rfl,e2,e3⟩ | ⟨b,Oa,E,vs,e1,e2,e3,e4,e5,e6,e7⟩
  ·exact⟨[],⟨by simp,by simp,none,0,e2,.inl rfl⟩,by simp,by simp,fun i av x h1 h2=>by simp at h2⟩
  ·have YP:vs.toList.length=Oa*sz:=by rw[Cs];exact e5
   have HI:es.length*sz≤vs.toList.length:=by rw[YP];exact Bc _ e3
   refine⟨vs.toList.take (es.length*sz),⟨by rw[AN,Ug HI],e6.2.1,_,_,e1,.inr ⟨_,rfl,fun j u hj=>?_⟩⟩,e6⟩;rw[Addr.add_lit,Bd,F5 e4];have Dt:=(At.1 hj).1;rw[AN]at Dt;rw[B2 (by omega),A4]at hj;exact hj

theorem bu{sz:Nat}{x:AV}{vx:Value}{K:List (List AV)→Prop}(hx:BF g w (AK h) x vx)(hk:K2 h x K) :
  ∃es,K es∧((∀c∈es,c.length=sz)→∃news,N3 w vx es.length sz news∧CE g w E8 es.flatten news):=by
 unfold K2 at hk;split at hk
 ·exact⟨_,hk,fun hl=>N3.of_rep hx.slice_none hl⟩
 ·obtain rfl:=hx.v_eq;exact⟨[],hk,fun _=>⟨[],⟨by simp,by simp,none,0,rfl,.inl rfl⟩,by simp,by simp,fun i av x h1 h2=>by simp at h2⟩⟩
 ·rename_i r n;split at hk
  ·rename_i GP es e;obtain⟨hn,hk⟩:=hk;refine⟨es,hk,fun hl=>?_⟩;obtain⟨_,news,n1,n2⟩:=Uo hI e hx hn;refine⟨news,?_,n2⟩
   have:news.length=es.length*sz:=by rw[n2.1,Ek hl]
   exact⟨this,n1.2.1,n1.2.2⟩
  ·exact hk.elim
 ·exact hk.elim

theorem ct{cx:Cx}{d:Option Nat}{sz:Nat}{K:HK}(hk:Ep cx d h sz [] K) :
  ∃g' av h',K av h'∧Dk w0 g0 h0 h' g' w∧Le h g w h' g' w∧BF g' w (AK h') av (.slice none 0 0):=by
 have base:∀(d:Nat) (o' : HO),h d=.free→o'≠.free→(∀g' : Gh,g'.ρ d=.slice none 0 0→g'.ln d=0→g'.tk d=true→g'.own d=none→D4 g' w (AK (AT h d o')) d o') →
   Dk w0 g0 h0 (AT h d o') (g.upd d (.slice none 0 0) 0 true none g.S) w∧Le h g w (AT h d o') (g.upd d (.slice none 0 0) 0 true none g.S) w:=by
  intro d o' hd Dn Jf;refine hI.upd d o' _ _ _ _ _ w none ⟨rfl,rfl,rfl,Ak _⟩ (fun _ _ _=>rfl) (fun b e=>by cases e) (fun _ _ h=>h) (fun _ _ h=>.inl h) (fun b o e=>by cases e) (fun b _ e=>by cases e) Dn (fun hu=>absurd hd hu) (fun _ _=>?_);obtain⟨u1,u2,u3,u4⟩:=BJ g d (.slice none 0 0) 0 true none g.S;exact Jf _ u1 u2 u3 u4
 unfold Ep at hk;split at hk
 ·exact hk.elim
 ·rename_i d;generalize Kq cx d=d1 at hk;split at hk
  ·rename_i hd;split at hk
   ·obtain⟨k1,k2⟩:=base d1 (.arr sz []) hd (by simp) (fun g' u1 u2 u3 u4=>⟨u3,u2,by simp,.inl ⟨rfl,u1,u4⟩⟩);exact⟨_,_,_,hk,k1,k2,.msl _ d1 0 none 0 (by unfold AK;rw[A9];simp) (by simp[Gh.upd]) (AS _) (.inl rfl) (fun _=>by simp[Gh.upd])⟩
   ·obtain⟨k1,k2⟩:=base d1 (.tok sz 0) hd (by simp) (fun g' u1 u2 u3 u4=>⟨u3,u2,none,0,u1,.inl ⟨rfl,u4⟩⟩);exact⟨_,_,_,hk,k1,k2,.tok _ d1 sz [] _ (.snil _ _ _) (by simp) (by unfold AK;rw[A9];simp) (by simp[Gh.upd]) (AS _) (fun _=>by simp[Gh.upd])⟩
  ·exact hk.elim

theorem Yn{cx:Cx}(hT:Cn P cx.T){d:Option Nat}{t ty:Nat}{s x:AV}{vs vx:Value}{K:HK}(hs:BF g w (AK h) s vs)(hx:BF g w (AK h) x vx)(hk:H2 cx d h t s x K) :
  NX P w0 g0 h0 h g w (Builtin.append_ #[t,t] ty #[vs,vx]) K:=by
 unfold H2 at hk;split at hk
 ·rename_i e ht;split at hk
  ·exact hk.elim
  ·rename_i hz;have hz:=AR hz;split at hk
   ·exact hk.elim
   ·rename_i k Ew;have h5:=bu hI (sz:=(cx.T e).size) hx hk
    clear hk
    obtain⟨es2,hk,h6⟩:=h5;split at hk
    ·obtain⟨⟨q1,q2,q3⟩,hk⟩:=hk;obtain rfl:=hs.v_eq;obtain⟨news,n1,n2⟩:=h6 (FU q1);obtain⟨m1,m2,a,c,rfl,m4⟩:=n1
     by_cases hm:es2.length=0
     ·obtain rfl:=AJ hm;obtain⟨g',av,h',k1,k2,k3,k4⟩:=ct hI hk;exact⟨_,w,g',av,h',ID hT w ht Ew none a 0 0 c (Ak _),k1,k2,k3,k4⟩
     ·obtain⟨nc,rest,r1,r2,r3⟩:=HD hT w (ty:=ty) ht Ew hz (olds:=[]) (a:=none) (n:=0) (cap:=0) ⟨by simp,by simp,none,0,rfl,.inl rfl⟩ rfl (fun _=>rfl) ⟨m1,m2,a,c,rfl,m4⟩ rfl (by omega) (by omega) (by rw[Bd];exact q2) (by omega);obtain⟨g',av,h',k1,k2,k3,k4⟩:=JP hI hk (vs:=([]++news++rest).toArray) (cap:=nc) e (FU q1) (by omega) (by simpa using r3) (by
       rw[D8,show(news++rest).toArray.toList=news++rest from rfl,Gk m1];exact n2) w.drew ⟨rfl,rfl,rfl,rfl⟩
      rw[Bd]at r1;exact⟨_,_,g',av,h',r1,k1,k2,k3,k4⟩
    ·rename_i GP es;split at hk
     ·rename_i Oy;obtain Oy:=AR Oy;obtain⟨⟨q1,q2,q3,q4⟩,hk⟩:=hk;obtain⟨news,n1,n2⟩:=h6 (FU q1);obtain⟨m1,m2,a2,c2,rfl,m4⟩:=n1;cases hs with
      |full _ _ _ _ hr Rg L6 =>
       obtain⟨a,rfl⟩:=L6;have HW:∀c∈es++es2,c.length=(cx.T e).size:=fun c hc=>(A2.1 hc).elim (fun h=>(Rg c h).trans Oy) (FU q1 c);obtain⟨olds,o1,o2⟩:=N3.of_rep hr (sz:=(cx.T e).size) (fun c hc=>(Rg c hc).trans Oy);have hrl:=o2.app n2;rw[←Ct]at hrl;have ha:a=none→es.length=0:=by
        rintro rfl
        obtain⟨p1,p2,a',c',p3,p4⟩:=o1;cases p3;rcases p4 with h | ⟨b',h,_⟩
        ·exact h
        ·cases h
       obtain⟨nc,rest,r1,r2,r3⟩:=HD hT w (ty:=ty) ht Ew hz o1 rfl ha ⟨m1,m2,a2,c2,rfl,m4⟩ rfl q2 (by omega) q3 q4;obtain⟨g',av,h',k1,k2,k3,k4⟩:=JP hI hk (vs:=(olds++news++rest).toArray) (cap:=nc) e HW (by rw[Ac];exact r2) (by rw[HM];exact r3) (by
        rw[show(olds++news++rest).toArray.toList=olds++news++rest from rfl,Gk (by rw[Ac,Ac,o1.1,m1,Ff])];exact hrl) w.drew ⟨rfl,rfl,rfl,rfl⟩
       rw[Ac]at k4;exact⟨_,_,g',av,h',r1,k1,k2,k3,k4⟩
     ·exact hk.elim
    ·rename_i r GP es;have ho:=hI.objs r;split at hk
     ·rename_i sz n e0;rw[e0]at ho;split at hk
      ·rename_i Oy vu;obtain rfl:=AR vu;obtain Oy:=AR Oy;obtain⟨⟨q1,q2,q3,q4⟩,hk⟩:=hk;rw[Oy]at q1;obtain⟨news,n1,n2⟩:=h6 (FU q1);obtain⟨m1,m2,a2,c2,rfl,m4⟩:=n1;obtain⟨t1,l1,a,cap,a1,a3⟩:=ho;have hl:(h r).live:=by rw[e0];trivial
       have HW:∀c∈es++es2,es.length=n→True:=fun _ _ _=>trivial;cases hs with
       |tok _ _ _ _ _ hr Rg hu ht' hn L6 =>
        have hv:=L6 (q2.trans l1.symm);rw[a1]at hv;subst hv;subst q2;have HW:∀c∈es++es2,c.length=GP:=fun c hc=>(A2.1 hc).elim (Rg c) (fun h=>(FU q1 c h).trans Oy.symm);obtain⟨olds,o1,o2⟩:=N3.of_rep hr Rg;have hrl:=o2.app n2;rw[←Ct]at hrl;have ZU:es.length≤cap:=by rcases a3 with ⟨e1,_⟩ | ⟨e1,_⟩<;>omega
        by_cases hm:es2.length=0
        ·obtain rfl:=AJ hm;have Jf:=hI.objs r;rw[e0]at Jf
         obtain⟨k1,k2⟩:=hI.upd r (.tok GP (es.length+([]:List (List AV)).length)) (g.ρ r) (g.ln r) (g.tk r) (g.own r) g.S w none ⟨rfl,rfl,rfl,Ak _⟩ (fun _ _ _=>rfl) (fun b e=>by cases e) (fun _ _ h=>h) (fun _ _ h=>.inl h) (fun b o e=>by cases e)
          (fun b _ e=>⟨(hI.loc r b hl e).1,.inl ⟨hl,e⟩⟩) (by simp) (fun _=>⟨rfl,Ak _,fun _=>rfl,fun _=>rfl⟩) (fun hg I0=>by
           obtain⟨u1,u2,u3,u4⟩:=BJ g r (g.ρ r) (g.ln r) (g.tk r) (g.own r) g.S;rw[Ar,Hg];exact Jf.same I0 (fun i hi=>DR (by simp) i hi) hg u1 u2 u3 u4 (fun b _ _=>⟨rfl,fun _ h=>h⟩))
         refine⟨_,w,_,_,_,ID hT w ht Ew a a2 es.length cap c2 ZU,hk,k1,k2,?_⟩;rw[CP];exact(BF.tok (AK h) r GP es _ hr Rg hu ht' hn L6).le k2
        ·by_cases JL:es.length+es2.length≤cap
         ·rcases a3 with ⟨e1,_⟩ | ⟨e1,b,E,F2,off,rfl,e3,e4,e5,e6⟩
          ·omega
          ·rcases m4 with h | ⟨ba,rfl,IK⟩
           ·omega
           ·obtain⟨i,z,i1,i2,i3,i4,i5⟩:=Hl hT Ew;have T2:(es.length+es2.length)*GP≤cap*GP:=Bc _ JL;have lz:news.length=es2.length*GP:=by rw[Oy];exact m1
            have YS:i.size=GP:=i3.trans Oy.symm;have CV:=Ts (P:=P) t ty e i (hT.slice ht) i1 b off es.length cap F2 e4 ba es2.length c2 news (by rw[YS];exact lz) IK m2 JL (by rw[YS,lz,e5];rw[Ff]at T2;omega);rw[YS]at CV;have GI:∀j u,olds[j]?=some u→w.cell? ⟨b,off+j,none⟩=some u:=by
             obtain⟨p1,p2,a',c',p3,p4⟩:=o1;cases p3;intro j u hj;rcases p4 with h | ⟨b',h,h'⟩
             ·rw[h,It]at p1;rw[AJ p1]at hj;simp at hj
             ·cases h
              have:=h' j u hj
              rwa [Addr.add_lit]at this
            obtain⟨p1,p2,p3⟩:=kR e4 e5 e1 JL lz o1.1 GI;generalize hnewd:F2.toList.take (off+es.length*GP)++news++F2.toList.drop (off+es.length*GP+news.length)=new at CV p1 p2 p3;have Fj:=setRow_heap w b F2 new.toArray E (0,0) e4;have bK:=(hI.loc r b hl e3).1
            obtain⟨k1,k2⟩:=hI.upd r (.tok GP (es.length+es2.length)) (.slice (some ⟨b,off,none⟩) (es.length+es2.length) cap) (es.length+es2.length) (g.tk r) (g.own r) (g.more b (off+(es.length+es2.length)*GP)) (w.setRow b new.toArray) (some b)
             ⟨rfl,rfl,rfl,by rw[size_setRow];exact Ak _⟩ (fun k _ Dn=>setRow_other w b k _ (fun e=>Dn (by rw[e]))) (fun b' e=>by cases e;exact⟨hl,e3⟩) (fun _ _ h=>.inl h)
             (fun b' o hs=>hs.elim .inl (fun hs=>.inr ⟨by rw[size_setRow,hs.1];exact bK,.inr ⟨hl,by rw[hs.1];exact e3⟩⟩))
             (fun b' o e hs=>by
              cases e
              refine⟨?_,fun es ck he=>by rw[e4]at he;cases he⟩;rw[F5 Fj,F5 e4];exact p3 o (e6 o hs)) (fun b' _ e=>by
              rw[e3]at e;cases e;exact⟨by rw[size_setRow];exact bK,.inl ⟨hl,e3⟩⟩) (by simp) (fun _=>⟨rfl,by omega,fun e=>(by rw[t1]at e;cases e),fun e=>by omega⟩) (fun hg I0=>by
              obtain⟨u1,u2,u3,u4⟩:=BJ g r (.slice (some ⟨b,off,none⟩) (es.length+es2.length) cap) (es.length+es2.length) (g.tk r) (g.own r) (g.more b (off+(es.length+es2.length)*GP));exact⟨u3.trans t1,u2,_,cap,u1,  .inr ⟨JL,b,E,_,off,rfl,u4.trans e3,Fj,by rw[HM];exact p1,fun o ho=>by
               rcases ho with ho | ⟨_,ho⟩
               ·have h1:=e6 o ho;have h2:es.length*GP≤(es.length+es2.length)*GP:=Bc _ (by omega);omega
               ·exact ho⟩⟩)
            have El:=BF.slice_off (g:=g.upd r (.slice (some ⟨b,off,none⟩) (es.length+es2.length) cap) (es.length+es2.length) (g.tk r) (g.own r) (g.more b (off+(es.length+es2.length)*GP))) (U:=AK (AT h r (.tok GP (es.length+es2.length)))) (cap:=cap) (es:=es++es2) Fj HW (by rw[Ac];exact JL) (by
             rw[Ac,show new.toArray.toList=new from rfl,p2];exact hrl.mono k2.keeps (fun _ h=>h) (fun _ h=>h.elim)) (fun o ho=>.inr ⟨rfl,by rw[Ac]at ho;exact Nat.add_lt_add_left ho off⟩)
            rw[Ac]at El;exact⟨_,_,_,_,_,CV,hk,k1,k2,.tok _ r GP _ _ El HW (by unfold AK;rw[A9];simp) (by simp[Gh.upd,t1]) (by simp[Gh.upd]) (fun _=>by simp[Gh.upd])⟩
         ·have fB:cap<es.length+es2.length:=by omega
          have ha:a=none→cap=0:=by
           rintro rfl
           rcases a3 with ⟨e1,_⟩ | ⟨_,b,_,_,_,e2,_⟩
           ·obtain⟨p1,p2,a',c',p3,p4⟩:=o1;cases p3;rcases p4 with h | ⟨b',h,_⟩
            ·omega
            ·cases h
           ·cases e2
          obtain⟨nc,rest,r1,r2,r3⟩:=HD hT w (ty:=ty) ht Ew hz (by rw[←Oy];exact o1) rfl ha ⟨m1,m2,a2,c2,rfl,m4⟩ rfl (by omega) fB q3 q4;have Fj:=Hw w.drew (.cells (olds++news++rest).toArray e (0,0)) (b:=w.heap.size) rfl
          obtain⟨k1,k2⟩:=hI.upd r (.tok GP (es.length+es2.length)) (.slice (some ⟨w.heap.size,0,none⟩) (es.length+es2.length) nc) (es.length+es2.length) (g.tk r) (some w.heap.size) (g.more w.heap.size ((es.length+es2.length)*GP))
           (w.drew.alloc (.cells (olds++news++rest).toArray e (0,0))) none
           ⟨rfl,rfl,rfl,by rw[World.size_alloc];exact Nat.le_succ _⟩ (fun k KN _=>by rw[heap_alloc_old _ _ (by exact KN)];rfl) (fun b' e=>by cases e) (fun _ _ h=>.inl h)
           (fun b' o hs=>hs.elim .inl (fun hs=>.inr ⟨by rw[World.size_alloc,hs.1];exact Ly _,.inl (by rw[hs.1];exact Ak _)⟩))
           (fun b' o e=>by cases e) (fun b' _ e=>by cases e;exact⟨by rw[World.size_alloc];exact Ly _,.inr (Ak _)⟩) (by simp) (fun _=>⟨rfl,by omega,fun e=>(by rw[t1]at e;cases e),fun e=>by omega⟩) (fun hg I0=>by
            obtain⟨u1,u2,u3,u4⟩:=BJ g r (.slice (some ⟨w.heap.size,0,none⟩) (es.length+es2.length) nc) (es.length+es2.length) (g.tk r) (some w.heap.size) (g.more w.heap.size ((es.length+es2.length)*GP));exact⟨u3.trans t1,u2,_,nc,u1,.inr ⟨r2,w.heap.size,e,_,0,rfl,u4,Fj,by rw[HM,Oy,Bd];exact r3,fun o ho=>by
             rcases ho with ho | ⟨_,ho⟩
             ·have:=hI.slt _ _ ho;omega
             ·omega⟩⟩)
          have El:=BF.slice_row (g:=g.upd r (.slice (some ⟨w.heap.size,0,none⟩) (es.length+es2.length) nc) (es.length+es2.length) (g.tk r) (some w.heap.size) (g.more w.heap.size ((es.length+es2.length)*GP))) (U:=AK (AT h r (.tok GP (es.length+es2.length)))) (cap:=nc) (es:=es++es2) Fj HW (by rw[Ac];exact r2) (by
           rw[Ac,show(olds++news++rest).toArray.toList=olds++news++rest from rfl,Gk (by rw[Ac,o1.1,m1,Oy,Ff])];exact hrl.mono k2.keeps (fun _ h=>h) (fun _ h=>h.elim)) (fun o ho=>.inr ⟨rfl,by rw[Ac]at ho;exact ho⟩)
          rw[Ac]at El;exact⟨_,_,_,_,_,r1,hk,k1,k2,.tok _ r GP _ _ El HW (by unfold AK;rw[A9];simp) (by simp[Gh.upd,t1]) (by simp[Gh.upd]) (fun _=>by simp[Gh.upd])⟩
      ·exact hk.elim
     ·exact hk.elim
    ·rename_i r n;have ho:=hI.objs r;split at hk
     ·rename_i sz es e0;split at hk
      ·rename_i Oy;obtain Oy:=AR Oy;obtain⟨⟨q1,q2,q3,q4⟩,hk⟩:=hk;rw[Oy]at q1;obtain⟨news,n1,n2⟩:=h6 (FU q1);obtain⟨m1,m2,a2,c2,rfl,m4⟩:=n1;obtain⟨hv,olds,o1,o2⟩:=Uo hI e0 hs q2.symm;have Jf:=ho;rw[e0]at ho;obtain⟨t1,l1,al,a3⟩:=ho;have hl:(h r).live:=by rw[e0];trivial
       subst hv;have HW:∀c∈es++es2,c.length=sz:=fun c hc=>(A2.1 hc).elim (al c) (fun h=>(FU q1 c h).trans Oy.symm);have hrl:=o2.app n2;rw[←Ct]at hrl;obtain⟨a,cap,hρ,ZU,ha⟩:∃a cap,g.ρ r=.slice a es.length cap∧es.length≤cap∧(a=none→cap=0):=by
        rcases a3 with ⟨rfl,e2,e3⟩ | ⟨b,cap,E,F2,e1,e2,e3,e4,e5,e6,e7⟩
        ·exact⟨none,0,e2,Ak _,fun _=>rfl⟩
        ·exact⟨_,cap,e1,e3,fun e=>by cases e⟩
       by_cases hm:es2.length=0
       ·obtain rfl:=AJ hm;rw[e0]at Jf
        obtain⟨k1,k2⟩:=hI.upd r (.arr sz (es++[])) (g.ρ r) (g.ln r) (g.tk r) (g.own r) g.S w none ⟨rfl,rfl,rfl,Ak _⟩ (fun _ _ _=>rfl) (fun b e=>by cases e) (fun _ _ h=>h) (fun _ _ h=>.inl h) (fun b o e=>by cases e)
         (fun b _ e=>⟨(hI.loc r b hl e).1,.inl ⟨hl,e⟩⟩) (by simp) (fun _=>⟨rfl,Ak _,fun _=>rfl,fun _=>rfl⟩) (fun hg I0=>by
          obtain⟨u1,u2,u3,u4⟩:=BJ g r (g.ρ r) (g.ln r) (g.tk r) (g.own r) g.S;rw[CP];exact Jf.same I0 (fun i hi=>DR (by simp) i hi) hg u1 u2 u3 u4 (fun b _ _=>⟨rfl,fun _ h=>h⟩))
        refine⟨g.ρ r,w,_,_,_,?_,hk,k1,k2,?_⟩
        ·rw[hρ];exact ID hT w ht Ew a a2 es.length cap c2 ZU
        ·have:=hs.le k2
         rw[←q2]at this;exact this
       ·by_cases JL:es.length+es2.length≤cap
        ·rcases a3 with ⟨rfl,e2,e3⟩ | ⟨b,Oa,E,F2,e1,e2,e3,e4,e5,e6,e7⟩
         ·rw[e2]at hρ;cases hρ;omega
         ·rw[e1]at hρ;simp only[Value.slice.injEq,true_and]at hρ;obtain⟨rfl,rfl⟩:=hρ;rcases m4 with h | ⟨ba,rfl,IK⟩
          ·omega
          ·obtain⟨i,z,i1,i2,i3,i4,i5⟩:=Hl hT Ew;have T2:(es.length+es2.length)*sz≤Oa*sz:=Bc _ JL;have lz:news.length=es2.length*sz:=by rw[Oy];exact m1
           have YS:i.size=sz:=i3.trans Oy.symm;have CV:=PN (P:=P) t ty e i (hT.slice ht) i1 b es.length Oa F2 e4 ba es2.length c2 news (by rw[YS];exact lz) IK m2 JL (by rw[YS,lz,←Ff,e5];exact T2);rw[YS]at CV;have GI:∀j u,olds[j]?=some u→w.cell? ⟨b,j,none⟩=some u:=by
            obtain⟨p1,p2,a',c',p3,p4⟩:=o1;rw[e1]at p3;cases p3;intro j u hj;rcases p4 with h | ⟨b',h,h'⟩
            ·rw[h,It]at p1;rw[AJ p1]at hj;simp at hj
            ·cases h
             have:=h' j u hj
             rwa [Addr.add_lit,Bd]at this
           obtain⟨p1,p2,p3⟩:=ig e4 e5 e3 JL lz o1.1 GI;generalize hnewd:F2.toList.take (es.length*sz)++news++F2.toList.drop (es.length*sz+news.length)=new at CV p1 p2 p3;have Fj:=setRow_heap w b F2 new.toArray E (0,0) e4;have bK:=(hI.loc r b hl e2).1
           obtain⟨k1,k2⟩:=hI.upd r (.arr sz (es++es2)) (.slice (some ⟨b,0,none⟩) (es.length+es2.length) Oa) (es.length+es2.length) (g.tk r) (g.own r) g.S (w.setRow b new.toArray) (some b)
            ⟨rfl,rfl,rfl,by rw[size_setRow];exact Ak _⟩ (fun k _ Dn=>setRow_other w b k _ (fun e=>Dn (by rw[e]))) (fun b' e=>by cases e;exact⟨hl,e2⟩) (fun _ _ h=>h) (fun _ _ h=>.inl h)
            (fun b' o e hs=>by cases e;exact absurd hs (e7 o)) (fun b' _ e=>by
             rw[e2]at e;cases e;exact⟨by rw[size_setRow];exact bK,.inl ⟨hl,e2⟩⟩) (by simp) (fun _=>⟨rfl,by omega,fun e=>(by rw[t1]at e;cases e),fun e=>by omega⟩) (fun hg I0=>by
             obtain⟨u1,u2,u3,u4⟩:=BJ g r (.slice (some ⟨b,0,none⟩) (es.length+es2.length) Oa) (es.length+es2.length) (g.tk r) (g.own r) g.S;refine⟨u3.trans t1,by rw[u2,Ac],HW,.inr ⟨b,Oa,E,_,by rw[u1,Ac],u4.trans e2,by rw[Ac];exact JL,Fj,by rw[HM];exact p1,?_,e7⟩⟩;rw[Ac,show new.toArray.toList=new from rfl,p2];exact hrl.mono I0 (fun _ h=>h) (fun _ h=>h.elim))
           rw[e1];exact⟨_,_,_,_,_,CV,hk,k1,k2,.msl _ r _ _ _ (by unfold AK;rw[A9];simp) (by simp[Gh.upd,t1]) (by simp[Gh.upd]) (.inr ⟨_,rfl⟩) (fun _=>by simp[Gh.upd])⟩
        ·have fB:cap<es.length+es2.length:=by omega
         obtain⟨nc,rest,r1,r2,r3⟩:=HD hT w (ty:=ty) ht Ew hz (by rw[←Oy];exact o1) hρ ha ⟨m1,m2,a2,c2,rfl,m4⟩ rfl (by omega) fB q3 q4;have Fj:=Hw w.drew (.cells (olds++news++rest).toArray e (0,0)) (b:=w.heap.size) rfl
         obtain⟨k1,k2⟩:=hI.upd r (.arr sz (es++es2)) (.slice (some ⟨w.heap.size,0,none⟩) (es.length+es2.length) nc) (es.length+es2.length) (g.tk r) (some w.heap.size) g.S
          (w.drew.alloc (.cells (olds++news++rest).toArray e (0,0))) none
          ⟨rfl,rfl,rfl,by rw[World.size_alloc];exact Nat.le_succ _⟩ (fun k KN _=>by rw[heap_alloc_old _ _ (by exact KN)];rfl) (fun b' e=>by cases e) (fun _ _ h=>h) (fun _ _ h=>.inl h)
          (fun b' o e=>by cases e) (fun b' _ e=>by cases e;exact⟨by rw[World.size_alloc];exact Ly _,.inr (Ak _)⟩) (by simp) (fun _=>⟨rfl,by omega,fun e=>(by rw[t1]at e;cases e),fun e=>by omega⟩) (fun hg I0=>by
           obtain⟨u1,u2,u3,u4⟩:=BJ g r (.slice (some ⟨w.heap.size,0,none⟩) (es.length+es2.length) nc) (es.length+es2.length) (g.tk r) (some w.heap.size) g.S;refine⟨u3.trans t1,by rw[u2,Ac],HW,.inr ⟨w.heap.size,nc,e,_,by rw[u1,Ac],u4,by rw[Ac];exact r2,Fj,by rw[HM,Oy];exact r3,?_,fun o ho=>by have:=hI.slt _ _ ho;omega⟩⟩;rw[Ac,show(olds++news++rest).toArray.toList=olds++news++rest from rfl,Gk (by rw[Ac,o1.1,m1,Oy,Ff])];exact hrl.mono I0 (fun _ h=>h) (fun _ h=>h.elim))
         exact⟨_,_,_,_,_,r1,hk,k1,k2,.msl _ r _ _ _ (by unfold AK;rw[A9];simp) (by simp[Gh.upd,t1]) (by simp[Gh.upd]) (.inr ⟨_,rfl⟩) (fun _=>by simp[Gh.upd])⟩
      ·exact hk.elim
     ·exact hk.elim
    ·exact hk.elim
 ·exact hk.elim
end
end Go.Eng

namespace Go.Eng

section
variable {P:Program}{w0:World}{g0:Gh}{h0 h:Nat→HO}{g:Gh}{w:World}(hI:Dk w0 g0 h0 h g w)
include hI

theorem NG{d sz n:Nat}{es:List (List AV)}{a:Option Addr}(hd:h d=.free)(hl:∀c∈es,c.length=sz)(hn:es.length=n)(hr:BF g w E8 (.slice .none es) (.slice a n n)) :
  ∃g',Dk w0 g0 h0 (AT h d (.tok sz n)) g' w∧Le h g w (AT h d (.tok sz n)) g' w∧BF g' w (AK (AT h d (.tok sz n))) (.slice (.id d sz) es) (.slice a n n):=by
 obtain⟨k1,k2⟩:=hI.upd d (.tok sz n) (.slice a n n) n true none g.S w none ⟨rfl,rfl,rfl,Ak _⟩ (fun _ _ _=>rfl) (fun b e=>by cases e) (fun _ _ h=>h) (fun _ _ h=>.inl h) (fun b o e=>by cases e) (fun b _ e=>by cases e) (by simp)
  (fun hu=>absurd hd hu) (fun _ _=>by
   obtain⟨u1,u2,u3,u4⟩:=BJ g d (.slice a n n) n true none g.S;exact⟨u3,u2,a,n,u1,.inl ⟨rfl,u4⟩⟩)
 exact⟨_,k1,k2,.tok _ d sz es _ (((hr.up (AK h)).le k2)) hl (by unfold AK;rw[A9];simp) (by simp[Gh.upd]) (by simp[Gh.upd,hn]) (fun _=>by simp[Gh.upd])⟩

theorem Yp{cx:Cx}{d:Option Nat}{x:AV}{vx:Value}{K:HK}(hx:BF g w (AK h) x vx)(hk:N8 cx d h x K):∃g' av h',K av h'∧Dk w0 g0 h0 h' g' w∧Le h g w h' g' w∧BF g' w (AK h') av vx:=by
 have plain:K x h→∃g' av h',K av h'∧Dk w0 g0 h0 h' g' w∧Le h g w h' g' w∧BF g' w (AK h') av vx:=fun hk=>⟨g,x,h,hk,hI,.refl _ _ _,hx⟩;unfold N8 at hk;split at hk
 ·exact plain hk
 ·rename_i d;split at hk
  ·rename_i sz _;split at hk
   ·refine⟨g,yC x,h,hk,hI,.refl _ _ _,?_⟩;cases x with
    |slice tk es=>exact(BF.slice_none hx).up _
    |_=>exact hx
   ·split at hk
    ·split at hk
     ·rename_i hd;obtain rfl:=hx.v_eq;obtain⟨g',k1,k2,k3⟩:=NG hI (sz:=sz) (es:=[]) (a:=none) hd (by simp) rfl (.snil _ _ _);exact⟨g',_,_,hk,k1,k2,k3⟩
     ·exact hk.elim
    ·exact plain hk
  ·split at hk
   ·rename_i sz _;split at hk
    ·split at hk
     ·rename_i hd;obtain rfl:=hx.v_eq
      obtain⟨k1,k2⟩:=hI.upd d (.arr sz []) (.slice none 0 0) 0 true none g.S w none ⟨rfl,rfl,rfl,Ak _⟩ (fun _ _ _=>rfl) (fun b e=>by cases e) (fun _ _ h=>h) (fun _ _ h=>.inl h) (fun b o e=>by cases e) (fun b _ e=>by cases e) (by simp)
       (fun hu=>absurd hd hu) (fun _ _=>by
        obtain⟨u1,u2,u3,u4⟩:=BJ g d (.slice none 0 0) 0 true none g.S;exact⟨u3,u2,by simp,.inl ⟨rfl,u1,u4⟩⟩)
      exact⟨_,_,_,hk,k1,k2,.msl _ d 0 none 0 (by unfold AK;rw[A9];simp) (by simp[Gh.upd]) (AS _) (.inl rfl) (fun _=>by simp[Gh.upd])⟩
     ·exact hk.elim
    ·exact plain hk
   ·exact plain hk

theorem XC{T:GK}{mku:List Nat}{d:Option Nat}{ty:Nat}{K:HK}(hk:KA T mku d h ty K):NX P w0 g0 h0 h g w (Instr.makeMap ty none) K:=by
 unfold KA at hk;split at hk
 ·exact hk.elim
 ·rename_i d;split at hk
  ·rename_i hd;split at hk
   ·split at hk
    ·rename_i sh _;split at hk
     ·obtain⟨k1,k2⟩:=hI.newOwn hd (.mapU sh []) (.map #[] 0) (.map (some w.heap.size)) 0 false w ⟨rfl,rfl,rfl,rfl⟩ (by simp) (fun hg I0=>by
       obtain⟨u1,u2,u3,u4⟩:=BJ g d (.map (some w.heap.size)) 0 false (some w.heap.size) g.S;exact⟨u3,w.heap.size,#[],0,u4,u1,Hw w _ rfl,⟨rfl,by simp,by simp,by simp,by simp,by simp⟩,by simp,fun o ho=>by have:=hI.slt _ _ ho;omega⟩)
      refine⟨_,_,_,_,_,?_,hk,k1,k2,.mref _ d w.heap.size (by unfold AK;rw[A9];simp) ?_ ?_⟩
      ·simp[Instr.makeMap]
      ·simp[Gh.upd]
      ·simp[Gh.upd]
     ·obtain⟨k1,k2⟩:=hI.newOwn hd (.map sh []) (.map #[] 0) (.map (some w.heap.size)) 0 false w ⟨rfl,rfl,rfl,rfl⟩ (by simp) (fun hg I0=>by
       obtain⟨u1,u2,u3,u4⟩:=BJ g d (.map (some w.heap.size)) 0 false (some w.heap.size) g.S;exact⟨u3,w.heap.size,#[],0,u4,u1,Hw w _ rfl,⟨rfl,by simp,by simp,by simp,by simp,by simp⟩,by simp,fun o ho=>by have:=hI.slt _ _ ho;omega⟩)
      refine⟨_,_,_,_,_,?_,hk,k1,k2,.mref _ d w.heap.size (by unfold AK;rw[A9];simp) ?_ ?_⟩
      ·simp[Instr.makeMap]
      ·simp[Gh.upd]
      ·simp[Gh.upd]
    ·exact hk.elim
   ·exact hk.elim
  ·exact hk.elim

omit hI in
theorem BF.sub{es:List (List AV)}{sz l m:Nat}{x:Value}{a:Option Addr}{n cap:Nat}(hr:BF g w E8 (.slice .none es) x)(hx:x=.slice a n cap)(hl:∀c∈es,c.length=sz)(h1:l≤m)(h2:m≤es.length)(c' : Nat)(hc:m-l≤c')(a' : Option Addr)
  (ha:a'=a.map (·.add (l*sz))∨(m=l∧a'=a)):BF g w E8 (.slice .none ((es.take m).drop l)) (.slice a' (m-l) c'):=by
 subst hx;have CM:((es.take m).drop l).length=m-l:=by rw[Da,AN];omega
 by_cases h0:m-l=0
 ·have:(es.take m).drop l=[]:=AJ (by omega)
  rw[this,h0];exact .snil _ _ _
 ·cases hr with
  |snil=>simp at h2;omega
  |slice _ _ b off GP cap val jK Pp CY El =>
   have hz:GP=sz:=by
    have:(0:Nat)<es.length:=by omega
    have h3:=Pp 0 es[0] (Ay this);rw[←h3];exact hl _ (AC this)
   subst hz;have zB : a'=some ⟨b,off+l*GP,none⟩:=by
    rcases ha with h | ⟨h,_⟩
    ·rw[h];simp[Addr.add_lit]
    ·omega
   subst zB;rw[←CM];have EB:∀(i:Nat) (cs:List AV),((es.take m).drop l)[i]?=some cs→es[l+i]?=some cs:=fun i cs h=>by
    rw[Du]at h
    by_cases hi:l+i<m
    ·rwa [B2 hi]at h
    ·rw[AZ (by rw[AN];omega)]at h;cases h
   refine .slice _ _ b (off+l*GP) GP c' (fun i j=>val (l+i) j) (by rw[CM];exact hc) (fun i cs h=>Pp _ _ (EB i cs h)) (fun i cs j av h1 h2=>?_) (fun i cs j av h1 h2=>El _ _ _ _ (EB i cs h1) h2)
   have:=CY _ _ _ _ (EB i cs h1) h2
   rwa [show off+(l+i)*GP+j=off+l*GP+i*GP+j by rw[Ff];omega]at this

omit hI in
theorem KG{t:Nat→AV}{ρ:Operand→Value}(ht:∀x:Operand,BF g w (AK h) (ev t x) (ρ x)){o:Option Operand}{i:Option Int}(hk:B4 t o=some i):o.map ρ=i.map fun n=>.int .i64 n:=by
 cases o with
 |none=>cases hk;rfl
 |some x =>
  unfold B4 at hk;dsimp only at hk;split at hk
  ·rename_i n e;cases hk
   have:=ht x
   rw[e]at this;simp[this.v_eq]
  ·cases hk
omit hI in
theorem Tt(b:Bool)(len cap:Nat)(lo hi mx:Option Int)(jT:mx=none∨hi≠none)(h0:0≤lo.getD 0)(h1:lo.getD 0≤hi.getD len)(h2:hi.getD len≤mx.getD cap)(h3:mx.getD cap≤cap) :
  (Instr.sliceBounds b len cap (lo.map fun n=>.int .i64 n) (hi.map fun n=>.int .i64 n) (mx.map fun n=>.int .i64 n)).run P w=.ok ((lo.getD 0).toNat,(hi.getD len).toNat,(mx.getD cap).toNat) w:=by
 have e1:∀n:Int,0≤n→(n.toNat:Int)=n:=fun n hn=>Int.toNat_of_nonneg hn;cases mx with
 |none =>
  cases hi with
  |none =>
   cases lo with
   |none=>simp[Instr.sliceBounds]
   |some l =>
    simp only[Cw,Eh]at h0 h1 h2;simp[Instr.sliceBounds,run_sliceBound,h0,h1]
  |some hh =>
   simp only[Cw,Eh]at h1 h2;have qn:0≤hh:=by omega
   cases lo with
   |none=>simp[Instr.sliceBounds,run_sliceBound,qn,h2]
   |some l =>
    simp only[Cw]at h0 h1;simp[Instr.sliceBounds,run_sliceBound,h0,h1,h2,qn,e1]
 |some m =>
  cases hi with
  |none=>simp at jT
  |some hh =>
   simp only[Cw]at h1 h2 h3;have qn:0≤hh:=by omega
   have qz:0≤m:=by omega
   cases lo with
   |none=>simp[Instr.sliceBounds,run_sliceBound,h2,h3,qn,qz,e1]
   |some l =>
    simp only[Cw]at h0 h1;simp[Instr.sliceBounds,run_sliceBound,h0,h1,h2,h3,qn,qz,e1]

omit hI in
theorem Fl{T:GK}(hT:Cn P T){ty e k:Nat}(ht:(T ty).d=.slice e)(hk:(T e).size=k+1)(a:Option Addr)(len cap:Nat)(lo hi mx:Option Int)(jT:mx=none∨hi≠none)(h0:0≤lo.getD 0)(h1:lo.getD 0≤hi.getD len)(h2:hi.getD len≤mx.getD cap)(h3:mx.getD cap≤cap) :
  (Instr.sliceAt ty (.slice a len cap) (lo.map fun n=>.int .i64 n) (hi.map fun n=>.int .i64 n) (mx.map fun n=>.int .i64 n)).run P w =
   .ok (.slice (if(mx.getD cap).toNat=(lo.getD 0).toNat then a else a.map (·.add ((lo.getD 0).toNat*(T e).size))) ((hi.getD len).toNat-(lo.getD 0).toNat) ((mx.getD cap).toNat-(lo.getD 0).toNat)) w:=by
 have hu:=hT.slice ht;have hb:=Tt (P:=P) (w:=w) true len cap lo hi mx jT h0 h1 h2 h3;simp only[Instr.sliceAt,Sem.run_bind,run_underlying hu,Result.andThen_ok,Instr.slice,hb,hT.size1 w hk,Sem.run_pure];rw[hk]

theorem Dk.moveO(r r2:Nat)(Dn:r2≠r)(hf:h r2=.free)(hl:(h r).live){ob:Option Nat}(ho:∀c,ob=some c→g.own r=some c)(o' : HO)(x:Value)(n:Nat)(t:Bool)(hn:o'≠.free)
  (Jf:EP g w (g.upd r2 x n t ob g.S) w→D4 (g.upd r2 x n t ob g.S) w (AK (AT (AT h r .dead) r2 o')) r2 o') :
  Dk w0 g0 h0 (AT (AT h r .dead) r2 o') (g.upd r2 x n t ob g.S) w∧Le h g w (AT (AT h r .dead) r2 o') (g.upd r2 x n t ob g.S) w:=by
 have dt:JW g (g.upd r2 x n t ob g.S) (AK h):=by
  intro i hi;have e:i≠r2:=fun e=>hi (by rw[e];exact hf);refine⟨by simp[Gh.upd,e],by simp[Gh.upd,e],fun _=>by simp[Gh.upd,e],fun _=>by simp[Gh.upd,e]⟩
 have hK:EP g w (g.upd r2 x n t ob g.S) w:=fun b o hb=>⟨hb,rfl,fun _ _ h=>h⟩;have Kw:∀i,AK h i→AK (AT (AT h r .dead) r2 o') i:=fun i hi=>DR hn i (DR (by simp) i hi);have key:∀i,i≠r2→(AT (AT h r .dead) r2 o' i).live→i≠r∧(h i).live:=fun i h2 hl=>by
  rw[B3 _ _ _ _ h2]at hl
  by_cases e:i=r
  ·subst e;rw[A9]at hl;exact hl.elim
  ·rw[B3 _ _ _ _ e]at hl;exact⟨e,hl⟩
 have own:∀i,i≠r2→(g.upd r2 x n t ob g.S).own i=g.own i:=fun i e=>by simp[Gh.upd,e]
 have Tc:(g.upd r2 x n t ob g.S).own r2=ob:=by simp[Gh.upd]
 refine⟨⟨hI.os,hI.tape,hI.output,hI.size,hI.frame,hI.slt,fun i=>?_,fun i j c hi hj ei ej=>?_,fun i c hi ei=>?_,hI.sg,hI.glob.keep hK⟩,dt,Kw,hK⟩
 ·by_cases e:i=r2
  ·subst e;rw[A9];exact Jf hK
  ·rw[B3 _ _ _ _ e]
   by_cases e1:i=r
   ·subst e1;rw[A9];trivial
   ·rw[B3 _ _ _ _ e1];exact(hI.objs i).same hK Kw dt (by simp[Gh.upd,e]) (by simp[Gh.upd,e]) (by simp[Gh.upd,e]) (by simp[Gh.upd,e]) (fun b hl hb=>⟨rfl,fun k hk=>hk⟩)
 ·by_cases e1:i=r2<;>by_cases e2:j=r2
  ·exact e1.trans e2.symm
  ·subst e1;rw[Tc]at ei;rw[own j e2]at ej;obtain⟨a1,a2⟩:=key j e2 hj;exact absurd (hI.inj j r _ a2 hl ej (ho _ ei)) a1
  ·subst e2;rw[Tc]at ej;rw[own i e1]at ei;obtain⟨a1,a2⟩:=key i e1 hi;exact absurd (hI.inj i r _ a2 hl ei (ho _ ej)) a1
  ·rw[own i e1]at ei;rw[own j e2]at ej;exact hI.inj i j c (key i e1 hi).2 (key j e2 hj).2 ei ej
 ·by_cases e1:i=r2
  ·subst e1;rw[Tc]at ei;exact hI.loc r _ hl (ho _ ei)
  ·rw[own i e1]at ei;exact hI.loc i c (key i e1 hi).2 ei

theorem X2{cx:Cx}(hT:Cn P cx.T){d:Option Nat}{ty:Nat}{x:AV}{vx:Value}{t:Nat→AV}{ρ:Operand→Value}(ht:∀x:Operand,BF g w (AK h) (ev t x) (ρ x)){lo hi mx:Option Operand}{K:HK}(hx:BF g w (AK h) x vx)
  (hk:KJ cx d h ty x (B4 t lo) hi mx K):NX P w0 g0 h0 h g w (Instr.sliceAt ty vx (lo.map ρ) (hi.map ρ) (mx.map ρ)) K:=by
 unfold KJ at hk;split at hk
 ·rename_i d Hy e1;rw[KG ht e1];split at hk
  ·rename_i e hs;split at hk
   ·exact hk.elim
   ·rename_i k Ew;split at hk
    ·rename_i r sz es;split at hk
     ·rename_i GP n e0;split at hk
      ·rename_i hd;split at hk
       ·rename_i q1 q2;obtain rfl:=AR q1;have q2:=AR q2;obtain⟨⟨rfl,h1,h2⟩,hk⟩:=hk;have hl:(h r).live:=by rw[e0];trivial
        have Dn:Kq cx d≠r:=fun e=>by rw[e,e0]at hd;cases hd
        have ho:=hI.objs r;rw[e0]at ho;obtain⟨t1,l1,a,cap,a1,a3⟩:=ho;have hr:=hx.slice_none;cases hx with
        |tok _ _ _ _ _ bP Rg hu ht' hn L6 =>
         have hv:=L6 l1.symm;rw[a1]at hv;subst hv;have ZU:es.length≤cap:=by rcases a3 with ⟨e1,_⟩ | ⟨e1,_⟩<;>omega
         have CV:=Fl (P:=P) (w:=w) hT hs Ew a es.length cap (some Hy) none none (.inl rfl) h1 h2 (by simp only[Eh];omega) (by simp);simp only[Cw,Eh,BT]at CV;have CM:(es.drop Hy.toNat).length=es.length-Hy.toNat:=Da;have fL:=BF.sub (c':=cap-Hy.toNat) hr rfl Rg (l:=Hy.toNat) (m:=es.length) (by omega) (Ak _) (by omega) (if cap=Hy.toNat then a else a.map (·.add (Hy.toNat*(cx.T e).size))) (by
          split
          ·exact .inr ⟨by omega,rfl⟩
          ·rw[q2];exact .inl rfl)
         rw[DU]at fL
         have fin:∀ob:Option Nat,(∀c,ob=some c→g.own r=some c)→(es.length-Hy.toNat=cap-Hy.toNat∧ob=none∨es.length-Hy.toNat≤cap-Hy.toNat∧∃b E vs off,(if cap=Hy.toNat then a else a.map (·.add (Hy.toNat*(cx.T e).size)))=some ⟨b,off,none⟩∧ob=some b∧w.heap[b]?=some (.cells vs E (0,0))∧vs.size=off+(cap-Hy.toNat)*GP∧∀o,g.S b o→o<off+(es.length-Hy.toNat)*GP) →
           NX P w0 g0 h0 h g w (Instr.sliceAt ty (.slice a es.length cap) ((some Hy).map fun n=>.int .i64 n) ((none:Option Operand).map ρ) ((none:Option Operand).map ρ)) K:=fun ob ho nf=>by
          obtain⟨k1,k2⟩:=hI.moveO r (Kq cx d) Dn hd hl ho (.tok GP (es.drop Hy.toNat).length) (.slice (if cap=Hy.toNat then a else a.map (·.add (Hy.toNat*(cx.T e).size))) (es.length-Hy.toNat) (cap-Hy.toNat)) (es.length-Hy.toNat) true (by simp) (fun I0=>by
           obtain⟨u1,u2,u3,u4⟩:=BJ g (Kq cx d) (.slice (if cap=Hy.toNat then a else a.map (·.add (Hy.toNat*(cx.T e).size))) (es.length-Hy.toNat) (cap-Hy.toNat)) (es.length-Hy.toNat) true ob g.S;refine⟨u3,u2.trans CM.symm,_,_,by rw[CM];exact u1,?_⟩;rw[CM,u4];exact nf)
          exact⟨_,w,_,_,_,CV,hk,k1,k2,.tok _ _ _ _ _ (((fL.mono k2.keeps (fun _ h=>h) (fun _ h=>h.elim))).up _) (fun c hc=>Rg c (Ia hc)) (by unfold AK;rw[A9];simp) (by simp[Gh.upd]) (by simp[Gh.upd]) (fun _=>by simp[Gh.upd])⟩
         rcases a3 with ⟨e1,e2⟩ | ⟨e1,b,E,vs,off,rfl,e3,e4,e5,e6⟩
         ·exact fin none (fun c h=>by cases h) (.inl ⟨by omega,rfl⟩)
         ·by_cases hc:cap=Hy.toNat
          ·exact fin none (fun c h=>by cases h) (.inl ⟨by omega,rfl⟩)
          ·refine fin (some b) (fun c h=>by cases h;exact e3) (.inr ⟨by omega,b,E,vs,off+Hy.toNat*GP,?_,rfl,e4,?_,fun o ho=>?_⟩)
           ·rw[Am hc];simp[Addr.add_lit,q2]
           ·rw[e5,Nat.sub_mul]
            have:=Bc GP (show Hy.toNat≤cap by omega)
            omega
           ·have:=e6 o ho
            rw[Nat.sub_mul]
            have:=Bc GP (show Hy.toNat≤es.length by omega)
            omega
       ·exact hk.elim
      ·exact hk.elim
     ·exact hk.elim
    ·exact hk.elim
  ·exact hk.elim
 ·exact hk.elim

omit hI in
theorem Sp{sz:Nat}:∀{es:List (List AV)},(∀cs∈es,cs.length=sz)→∀k,(es.take k).flatten=es.flatten.take (k*sz)
 | [],_,k=>by simp
 |c::es,hl,0=>by simp
 |c::es,hl,k+1=>by
  have h1:=hl c (Ab ..);have h2:c.length≤k*sz+sz:=by omega
  rw[IN,BL,BL,Sp (fun x hx=>hl x (Ag _ hx)) k,List.take_append,h1,DW,
   AI h2,show k*sz+sz-sz=k*sz by omega]
omit hI in
theorem CE.takeE{U:Nat→Prop}{sz k:Nat}{es:List (List AV)}{vs:List Value}(hl:∀cs∈es,cs.length=sz)(hk:k≤es.length)(h:CE g w U es.flatten (vs.take (es.length*sz))):CE g w U (es.take k).flatten (vs.take (k*sz)):=by
 have e:vs.take (k*sz)=(vs.take (es.length*sz)).take (k*sz):=by
  rw[N1,Ug (Bc _ hk)]
 rw[Sp hl,e];refine⟨by rw[AN (l:=vs.take (es.length*sz)),h.1,AN],fun x hx=>h.2.1 x (DQ hx),fun i av x q1 q2=>?_⟩;have hi:i<k*sz:=by
  rcases DV i (k*sz)with q | q
  ·exact q
  ·rw[Jt,Am (by omega)]at q1;cases q1
 rw[Jt,Aw hi]at q1 q2;exact h.2.2 i av x q1 q2
theorem kM{cx:Cx}(hT:Cn P cx.T){d:Option Nat}{ty:Nat}{x:AV}{vx:Value}{t:Nat→AV}{ρ:Operand→Value}(ht:∀x:Operand,BF g w (AK h) (ev t x) (ρ x)){hi:Option Operand}{K:HK}(hx:BF g w (AK h) x vx)
  (hk:gQ cx d h ty x (B4 t hi) K):NX P w0 g0 h0 h g w (Instr.sliceAt ty vx none (hi.map ρ) none) K:=by
 unfold gQ at hk;split at hk
 ·rename_i d LH e1;rw[KG ht e1];split at hk
  ·rename_i e hs;split at hk
   ·exact hk.elim
   ·rename_i k Ew;split at hk
    ·rename_i r n;split at hk
     ·rename_i sz es e0;split at hk
      ·rename_i hd;split at hk
       ·rename_i q1 q3;have q1:=AR q1;obtain⟨⟨rfl,h1,h2⟩,hk⟩:=hk;have hl:(h r).live:=by rw[e0];trivial
        have Dn:Kq cx d≠r:=fun e=>by rw[e,e0]at hd;cases hd
        have ho:=hI.objs r;rw[e0]at ho;obtain⟨t1,l1,al,a2⟩:=ho;have CM:(es.take LH.toNat).length=LH.toNat:=by rw[AN];omega
        cases hx with
        |msl _ _ _ a cap hu ht' Xk ha L6 =>
         have hv:=L6 l1.symm;have MN:es.length≤cap:=by
          rcases a2 with ⟨b1,_,_⟩ | ⟨b,Oa,E,vs,b1,_,b3,_⟩
          ·subst b1;exact AS _
          ·rw[b1]at hv;cases hv;exact b3
         have CV:=Fl (P:=P) (w:=w) hT hs Ew a es.length cap none (some LH) none (.inl rfl) (by simp) (by simp only[Eh,Cw];exact h1) (by simp only[Cw,Eh];omega) (by simp);have Ls:(if cap-(0:Nat)=0 then a else a.map (·.add (0*(cx.T e).size)))=a:=by
          rw[It];split
          ·rfl
          ·rcases ha with e3 | ⟨b,rfl⟩
           ·cases a with
            |none=>rfl
            |some a=>simp[Addr.add]
           ·rfl
         simp only[Cw,Eh,BT,Int.toNat_zero,Nat.sub_zero]at CV Ls;have key:∃a',(Instr.sliceAt ty (.slice a es.length cap) ((none:Option Int).map fun n=>.int .i64 n) ((some LH).map fun n=>.int .i64 n) ((none:Option Int).map fun n=>.int .i64 n)).run P w=.ok (.slice a' LH.toNat cap) w∧(a'=a):=⟨_,CV,by first | exact Ls | (split<;>first | rfl | exact Ls | (simp_all))⟩
         obtain⟨a',CV,rfl⟩:=key;have hval:BF (g.upd (Kq cx d) (.slice a' LH.toNat cap) LH.toNat true (g.own r) g.S) w (AK (AT (AT h r .dead) (Kq cx d) (.arr sz (es.take LH.toNat)))) (.msl (Kq cx d) LH.toNat) (.slice a' LH.toNat cap) :=
          .msl _ _ _ _ _ (by unfold AK;rw[A9];simp) (by simp[Gh.upd]) (by simp[Gh.upd]) (ha.elim (fun e=>.inl (by omega)) .inr) (fun _=>by simp[Gh.upd])
         obtain⟨k1,k2⟩:=hI.moveO r (Kq cx d) Dn hd hl (ob:=g.own r) (fun c h=>h) (.arr sz (es.take LH.toNat)) (.slice a' LH.toNat cap) LH.toNat true (by simp) (fun I0=>by
          obtain⟨u1,u2,u3,u4⟩:=BJ g (Kq cx d) (.slice a' LH.toNat cap) LH.toNat true (g.own r) g.S;refine⟨u3,u2.trans CM.symm,fun c hc=>al c (DQ hc),?_⟩;rcases a2 with ⟨b1,b2,b3⟩ | ⟨b,Oa,E,vs,b1,b2,b3,b4,b5,b6,b7⟩
          ·subst b1;rw[b2]at hv;cases hv;have h0:LH.toNat=0:=by simp only[Ar]at h2;omega
           exact .inl ⟨List.take_nil,by rw[u1,h0],u4.trans b3⟩
          ·rw[b1]at hv;cases hv;refine .inr ⟨b,cap,E,vs,by rw[CM];exact u1,u4.trans b2,by rw[CM];omega,b4,b5,?_,b7⟩;rw[CM];exact(CE.takeE al (by omega) b6).mono I0 (fun _ h=>h) (fun _ h=>h.elim))
         exact⟨_,w,_,_,_,CV,hk,k1,k2,hval⟩
       ·exact hk.elim
      ·exact hk.elim
     ·exact hk.elim
    ·exact hk.elim
  ·exact hk.elim
 ·exact hk.elim

theorem U6{cx:Cx}(hT:Cn P cx.T){d:Option Nat}{ty:Nat}{x:AV}{vx:Value}{t:Nat→AV}{ρ:Operand→Value}(ht:∀x:Operand,BF g w (AK h) (ev t x) (ρ x)){lo hi mx:Option Operand}{K:HK}(hx:BF g w (AK h) x vx)
  (hk:Gy cx d h ty x (B4 t lo) (B4 t hi) (B4 t mx) K):NX P w0 g0 h0 h g w (Instr.sliceAt ty vx (lo.map ρ) (hi.map ρ) (mx.map ρ)) K:=by
 unfold Gy at hk;split at hk
 ·rename_i Hy LH lN e1 e2 e3;rw[KG ht e1,KG ht e2,KG ht e3];split at hk
  ·rename_i hs;split at hk
   ·rename_i s;obtain⟨⟨h1,h2,h3⟩,hk⟩:=hk;obtain rfl:=hx.v_eq;have hb:=Tt (P:=P) (w:=w) false s.size s.size Hy LH none (.inl rfl) h1 h2 (by simpa using h3) (by simp);refine(BR.val (x:=.string (s.extract (Hy.getD 0).toNat (LH.getD s.size).toNat)) ?_ hk).does hI;simp only[Instr.sliceAt,Sem.run_bind,run_underlying (hT.string hs),Result.andThen_ok,Instr.slice];simp only[Option.map_none,N2,CT,FL]at hb⊢;simp only[Sem.run_bind,hb,Result.andThen_ok,Sem.run_pure]
   ·exact hk.elim
  ·rename_i e hs;split at hk
   ·exact hk.elim
   ·rename_i k Ew;split at hk
    ·rename_i tk es;have hr:=hx.slice_none;obtain⟨a,cap,hv,MN⟩:∃a cap,vx=.slice a es.length cap∧es.length≤cap:=by
      cases hr with
      |snil _ a cap=>exact⟨a,cap,rfl,AS _⟩
      |slice _ _ b off sz cap val hc=>exact⟨_,cap,rfl,hc⟩
     subst hv;split at hk
     ·obtain⟨⟨h1,h2,h3⟩,hl,hk⟩:=hk;have CV:=Fl (P:=P) (w:=w) hT hs Ew a es.length cap Hy LH none (.inl rfl) h1 h2 (by simp only[Eh];omega) (by simp);refine BR.does hI ⟨_,_,CV,hk,(BF.sub (c':=cap-(Hy.getD 0).toNat) hr rfl hl (l:=(Hy.getD 0).toNat) (m:=(LH.getD es.length).toNat) (by omega) (by omega) (by simp;omega) _ ?_).up _⟩;split
      ·rename_i e;simp only[Eh,BT]at e;exact .inr ⟨by omega,rfl⟩
      ·exact .inl rfl
     ·rename_i m;split at hk
      ·rename_i d hh;split at hk
       ·obtain⟨⟨h1,h2,rfl,h3⟩,hl,hk⟩:=hk;have CV:=Fl (P:=P) (w:=w) hT hs Ew a es.length cap Hy (some m) (some m) (.inr (by simp)) h1 h2 (by simp) (by simp only[Cw];omega);simp only[Cw]at CV;have CM:((es.take m.toNat).drop (Hy.getD 0).toNat).length=m.toNat-(Hy.getD 0).toNat:=by rw[Da,AN];omega
        refine BR.does hI ⟨_,_,CV,hk,.full _ _ _ _ ((BF.sub (c':=m.toNat-(Hy.getD 0).toNat) hr rfl hl (l:=(Hy.getD 0).toNat) (m:=m.toNat) (by omega) (by omega) (by omega) _ ?_).up _) (fun c hc=>hl c (DQ (Ia hc))) ⟨_,by rw[CM]⟩⟩;split
        ·rename_i e;exact .inr ⟨e,rfl⟩
        ·exact .inl rfl
       split at hk
       ·rename_i hd;obtain⟨⟨h1,h2,rfl,h3⟩,hl,hk⟩:=hk;have CV:=Fl (P:=P) (w:=w) hT hs Ew a es.length cap Hy (some m) (some m) (.inr (by simp)) h1 h2 (by simp) (by simp only[Cw];omega);simp only[Cw]at CV
        obtain⟨g',k1,k2,k3⟩:=NG hI (sz:=(cx.T e).size) (n:=m.toNat-(Hy.getD 0).toNat) hd (es:=(es.take m.toNat).drop (Hy.getD 0).toNat) (fun c hc=>hl c (DQ (Ia hc))) (by rw[Da,AN];omega)
         (BF.sub (c':=m.toNat-(Hy.getD 0).toNat) hr rfl hl (l:=(Hy.getD 0).toNat) (m:=m.toNat) (by omega) (by omega) (by omega) (if m.toNat=(Hy.getD 0).toNat then a else a.map (·.add ((Hy.getD 0).toNat*(cx.T e).size))) (by
          split
          ·rename_i e;exact .inr ⟨e,rfl⟩
          ·exact .inl rfl))
        exact⟨_,w,g',_,_,CV,hk,k1,k2,k3⟩
       ·exact hk.elim
      ·exact hk.elim
    ·obtain⟨⟨h1,h2,h3⟩,h4,hk⟩:=hk;obtain rfl:=hx.v_eq;have CV:=Fl (P:=P) (w:=w) hT hs Ew none 0 0 Hy LH lN h4 (by omega) (by simp only[Ip]at *;omega) (by simp only[Ip]at *;omega) (by simp only[Ip]at *;omega);refine BR.does hI (BR.val (x:=.slice none 0 0) ?_ hk);rw[CV];simp only[h1,Ip,h2,h3];simp
    ·rename_i r n;split at hk
     ·rename_i sz es e0;split at hk
      ·rename_i Oy;obtain rfl:=AR Oy;obtain⟨⟨h1,h2,h3,h4,h5⟩,hk⟩:=hk;have ho:=hI.objs r;rw[e0]at ho;obtain⟨t1,l1,al,a3⟩:=ho;have hl:(h r).live:=by rw[e0];trivial
       have qA:lN=none∨LH≠none:=h5.imp id (fun q=>q.2);cases hx with
       |msl _ _ _ a cap hu ht' hn ha L6 =>
        have hv:=L6 (h1.trans l1.symm);subst h1;have jT:∀c:Nat,es.length≤c→LH.getD es.length≤lN.getD c∧lN.getD c≤c:=fun c hc=>by
         rcases h5 with h5 | ⟨h5,Dn⟩
         ·rw[h5];simp only[Eh];omega
         ·obtain⟨m,hm⟩:=Option.ne_none_iff_exists'.1 Dn;rw[h5,hm];rw[hm]at h3 h4;simp only[Cw]at h3 h4⊢;omega
        rcases a3 with ⟨rfl,q2,q3⟩ | ⟨b,Oa,E,vs,q1,q2,q3,q4,q5,q6,q7⟩
        ·rw[q2]at hv;cases hv;have CV:=Fl (P:=P) (w:=w) hT hs Ew none 0 0 Hy LH lN qA h2 h3 (jT 0 (by simp)).1 (jT 0 (by simp)).2
         obtain⟨k1,k2⟩:=hI.upd r .dead (g.ρ r) (g.ln r) (g.tk r) (g.own r) g.S w none ⟨rfl,rfl,rfl,Ak _⟩ (fun _ _ _=>rfl) (fun b e=>by cases e) (fun _ _ h=>h) (fun _ _ h=>.inl h) (fun b o e=>by cases e) (fun b hh _=>by cases hh) (by simp)
          (fun _=>⟨rfl,Ak _,fun _=>rfl,fun _=>rfl⟩) (fun _ _=>trivial)
         refine⟨_,w,_,_,_,CV,hk,k1,k2,?_⟩;have z1:((Hy.getD 0).toNat)=0:=by simp only[Ar,Ip]at h3 h4;omega
         have z2:((LH.getD (([]:List (List AV)).length:Int)).toNat)=0:=by simp only[Ar,Ip]at h3 h4⊢;omega
         simp only[List.take_nil,List.drop_nil];have z3:((LH.getD ((0:Nat):Int)).toNat)=0:=z2;rw[z1,z3];exact .snil _ _ _
        ·rw[q1]at hv;cases hv;have CV:=Fl (P:=P) (w:=w) hT hs Ew (some ⟨b,0,none⟩) es.length cap Hy LH lN qA h2 h3 (jT _ q3).1 (jT _ q3).2;have bK:=(hI.loc r b hl q2).1
         obtain⟨k1,k2⟩:=hI.upd r .dead (g.ρ r) (g.ln r) (g.tk r) (g.own r) (g.more b (es.length*(cx.T e).size)) w none ⟨rfl,rfl,rfl,Ak _⟩ (fun _ _ _=>rfl) (fun b e=>by cases e) (fun _ _ h=>.inl h)
          (fun b' o hs=>hs.elim .inl (fun hs=>.inr ⟨by rw[hs.1];exact bK,.inr ⟨hl,by rw[hs.1];exact q2⟩⟩)) (fun b o e=>by cases e) (fun b hh _=>by cases hh) (by simp)
          (fun _=>⟨rfl,Ak _,fun _=>rfl,fun _=>rfl⟩) (fun _ _=>trivial)
         have El:=BF.slice_row (g:=g.upd r (g.ρ r) (g.ln r) (g.tk r) (g.own r) (g.more b (es.length*(cx.T e).size))) (U:=E8) q4 al q3 (q6.mono k2.keeps (fun _ h=>h) (fun _ h=>h.elim)) (fun o ho=>.inr ⟨rfl,ho⟩);have zX:=jT _ q3;refine⟨_,w,_,_,_,CV,hk,k1,k2,(BF.sub (c':=(lN.getD cap).toNat-(Hy.getD 0).toNat) El rfl al (l:=(Hy.getD 0).toNat) (m:=(LH.getD es.length).toNat) (by omega) (by omega) (by omega) _ ?_).up _⟩;split
         ·rename_i e;exact .inr ⟨by omega,rfl⟩
         ·exact .inl rfl
      ·exact hk.elim
     ·exact hk.elim
    ·exact hk.elim
  ·exact hk.elim
 ·exact hk.elim

theorem T8{cx:Cx}(hT:Cn P cx.T){d:Option Nat}{ty:Nat}{n c:AV}{vn vc:Value}{K:HK}(hn:BF g w (AK h) n vn)(hc:BF g w (AK h) c vc)(hk:Jj cx d h ty n c K) :
  NX P w0 g0 h0 h g w (Instr.makeSlice ty vn vc) K:=by
 unfold Jj at hk;split at hk
 ·rename_i e n c hs;obtain rfl:=hn.v_eq;obtain rfl:=hc.v_eq;split at hk
  ·rename_i Pr;split at hk
   ·rename_i T3;have T3:=AR T3;split at hk
    ·exact hk.elim
    ·rename_i k Ew;obtain⟨⟨h1,h2,h3,h4⟩,hk⟩:=hk;obtain⟨i,z,i1,i2,i3,i4,i5⟩:=Hl hT Ew;have qS:(cx.T e).zc≠[]:=fun e0=>by rw[e0]at T3;rw[Ew]at T3;cases T3
     have wn:IntKind.i64.wrap n=n:=MH ⟨by omega,by omega⟩;have wc:IntKind.i64.wrap c=c:=MH ⟨by omega,by omega⟩;have HW:∀l:List AV,(∀a∈l,one a=true)→HR l=true:=by
      intro l
      induction l with
      |nil=>intro _;rfl
      |cons a l ih=>intro h;simp[HR,h a (List.mem_cons_self ..),ih (fun b hb=>h b (List.mem_cons_of_mem _ hb))]
     have vo:((Array.range (c.toNat*(cx.T e).size)).map fun k=>z.cells[k % z.cells.size]!).toList=(List.replicate c.toNat (cx.T e).zc).flatten:=by
      rw[JS c.toNat _ qS,T3,i5];have e6:z.cells.size=(cx.T e).size:=by rw[←T3,i5];simp
      simp[e6,Array.getElem!_eq_getD]
     have hzs:(cx.T e).zc.length=(cx.T e).size:=T3;have ly:∀c'∈List.replicate c.toNat (cx.T e).zc,c'.length=(cx.T e).size:=fun c' hc=>by rw[D5 hc];exact T3
     have uO : ∀c'∈List.replicate n.toNat ((cx.T e).zc.map AV.v),c'.length=(cx.T e).size:=fun c' hc=>by rw[D5 hc,Bp];exact T3
     have uP:∀c'∈List.replicate n.toNat (cx.T e).zc,c'.length=(cx.T e).size:=fun c' hc=>by rw[D5 hc];exact T3
     obtain⟨g',av,h',q1,q2,q3,q4⟩:=JP hI hk (vs:=(Array.range (c.toNat*(cx.T e).size)).map fun k=>z.cells[k % z.cells.size]!) (cap:=c.toNat) e uO (by rw[F8];omega) (by simp) (by
      rw[vo,F8];have e1:(List.replicate n.toNat ((cx.T e).zc.map AV.v)).flatten=(List.replicate n.toNat (cx.T e).zc).flatten.map AV.v:=by
       rw[List.map_flatten,List.map_replicate]
      have e2:(List.replicate c.toNat (cx.T e).zc).flatten.take (n.toNat*(cx.T e).size)=(List.replicate n.toNat (cx.T e).zc).flatten:=by
       obtain⟨m,hm⟩:∃m,c.toNat=n.toNat+m:=⟨c.toNat-n.toNat,by omega⟩;rw[hm,←List.replicate_append_replicate,Ct,Gk (by rw[Ek uP,F8])]
      rw[e1,e2];refine CE.vals (HW _ (fun a ha=>?_));obtain⟨x,hx,rfl⟩:=Ao.1 ha;obtain⟨l,hl,hx⟩:=E0.1 hx;rw[D5 hl]at hx;exact Mo Pr _ (Ao.2 ⟨x,hx,rfl⟩)) w ⟨rfl,rfl,rfl,rfl⟩
     rw[F8]at q4;refine⟨_,_,g',av,h',?_,q1,q2,q3,q4⟩;have uo:¬((cx.T e).bytes*c>2 ^ 48):=by rw[Int.mul_comm];omega
     have fq:((decide (c<0)||decide (((cx.T e).bytes:Int)*c>2 ^ 48))||decide (n<0)||decide (n>c))=false:=by
      simp only[Bool.or_eq_false_iff,JF];exact⟨⟨⟨by omega,uo⟩,by omega⟩,by omega⟩
     simp only[Instr.makeSlice,Sem.run_bind,run_underlying (hT.slice hs),Result.andThen_ok,asInt,asIntOf,Sem.run_pure,typeInfo,run_program,i1,i4,wn,wc,fq,CT,FL,run_askRoom,hT.size1 w Ew]
     by_cases hz:c.toNat*(k+1)=0
     ·have dv:c.toNat=0:=by
       rcases Nat.mul_eq_zero.1 hz with h | h
       ·exact h
       ·cases h
      rw[dv];simp only[It,LI];simp only[show Array.range 0=#[]from rfl,Array.map_empty];simp[newRow]
     ·simp only[Am hz,Sem.run_bind,zeroValue,typeInfo,run_program,i1,i2,Result.andThen_ok,Sem.run_pure];rw[Ew];simp[newRow]
   ·exact hk.elim
  ·exact hk.elim
 ·exact hk.elim
end
end Go.Eng
