/- Lemmas for the claims of this seat, without a condition: part 9 (EngR, EngS). -/
import Derived.Test.YtddfphmpfnmknaaGreatDoorDA08
namespace Go.Eng
theorem CI.app{g:Gh}{w:World}{U:Nat→Prop}{UA bs:List AV}{xs ys:List Value}(h:CI g w U UA xs)(k:CI g w U bs ys):CI g w U (UA++bs) (xs++ys):=by
 refine⟨by simp[h.1,k.1],fun x hx=>(A1.1 hx).elim (h.2.1 x) (k.2.1 x),fun i av x h1 h2=>?_⟩
 by_cases hi:i<UA.length
 ·rw[A2 hi]at h1;rw[A2 (by rw[h.1];exact hi)]at h2;exact h.2.2 i av x h1 h2
 ·rw[AW (by omega)]at h1;rw[AW (by rw[h.1];omega),h.1]at h2;exact k.2.2 _ av x h1 h2
section
variable {P:Program}{w0:World}{g0:Gh}{h0 h:Nat→HO}{g:Gh}{w:World}(hI:DK w0 g0 h0 h g w)
include hI
omit hI in
theorem Qz(t ty e:TypeId)(i:TypeInfo)(ht:P.underlying t=some (.slice e))(hi:P.info? e=some i){E:TypeId}
  (g Oc ap:Nat) (FN:Array Value) (hg:w.heap[g]?=some (.cells FN E (0,0)))
  (a:Addr) (m c:Nat) (news:List Value) (hl:news.length=m*i.size) (I2:∀j u,news[j]?=some u→w.cell? (a.add j)=some u) (h1:∀u∈news,u.oneCell'=true)
  (J5:Oc+m≤ap) (ZE:Oc*i.size+news.length≤FN.size) :
  (Builtin.append_ #[t,t] ty #[.slice (some ⟨g,0,none⟩) Oc ap,.slice (some a) m c]).run P w =
   .ok (.slice (some ⟨g,0,none⟩) (Oc+m) ap) (w.setRow g (FN.toList.take (Oc*i.size)++news++FN.toList.drop (Oc*i.size+news.length)).toArray):=by
 have hf:=run_firstCells_some (P:=P) w i.size m a m c news hl I2;have Jy:=run_storeCells_at P g (Oc*i.size) E news 0 FN w hg (by simpa using ZE) h1;simp only[HA]at Jy;simp[Builtin.append_,run_underlying ht,sizeOf,typeInfo,hi,Builtin.lenOf,J5,hf,Addr.add_lit,Jy]
omit hI in
theorem Ud(t ty e:TypeId)(i:TypeInfo)(ht:P.underlying t=some (.slice e))(hi:P.info? e=some i){E:TypeId}
  (g off Oc ap:Nat) (FN:Array Value) (hg:w.heap[g]?=some (.cells FN E (0,0)))
  (a:Addr) (m c:Nat) (news:List Value) (hl:news.length=m*i.size) (I2:∀j u,news[j]?=some u→w.cell? (a.add j)=some u) (h1:∀u∈news,u.oneCell'=true)
  (J5:Oc+m≤ap) (ZE:off+Oc*i.size+news.length≤FN.size) :
  (Builtin.append_ #[t,t] ty #[.slice (some ⟨g,off,none⟩) Oc ap,.slice (some a) m c]).run P w =
   .ok (.slice (some ⟨g,off,none⟩) (Oc+m) ap) (w.setRow g (FN.toList.take (off+Oc*i.size)++news++FN.toList.drop (off+Oc*i.size+news.length)).toArray):=by
 have hf:=run_firstCells_some (P:=P) w i.size m a m c news hl I2;have Jy:=run_storeCells_at P g (off+Oc*i.size) E news 0 FN w hg (by simpa using ZE) h1;simp only[HA]at Jy;simp[Builtin.append_,run_underlying ht,sizeOf,typeInfo,hi,Builtin.lenOf,J5,hf,Addr.add_lit,Jy]
omit hI in
theorem lS{b off n m sz cap:Nat}{FN:Array Value}{E:TypeId}{olds news:List Value}(hb:w.heap[b]?=some (.cells FN E (0,0)))(X3:FN.size=off+cap*sz)(hn:n≤cap)(hm:n+m≤cap)(hnl:news.length=m*sz)(hol:olds.length=n*sz)
  (GS:∀j u,olds[j]?=some u→w.cell? ⟨b,off+j,none⟩=some u) :
  (FN.toList.take (off+n*sz)++news++FN.toList.drop (off+n*sz+news.length)).length=off+cap*sz ∧
  ((FN.toList.take (off+n*sz)++news++FN.toList.drop (off+n*sz+news.length)).drop off).take ((n+m)*sz)=olds++news ∧
  ∀o,o<off+n*sz→(FN.toList.take (off+n*sz)++news++FN.toList.drop (off+n*sz+news.length)).toArray[o]?=FN[o]?:=by
 have hcl:FN.toList.length=off+cap*sz:=by rw[B3];exact X3
 have Tw:(n+m)*sz≤cap*sz:=Bh _ hm;have gH:n*sz≤cap*sz:=Bh _ hn;rw[Fq]at Tw;have KJ:(FN.toList.take (off+n*sz)).drop off=olds:=by
  apply Dj;intro j
  by_cases hj:j<n*sz
  ·rw[DD,BI (by omega)];have hx:olds[j]?=some olds[j]:=Ax (by omega)
   have:=GS j _ hx
   rw[FQ hb]at this;rw[AR,this,hx]
  ·rw[A4 (by rw[Cu,AC];omega),A4 (by omega)]
 have oM:(FN.toList.take (off+n*sz)).length=off+n*sz:=by rw[AC];omega
 refine⟨?_,?_,fun o ho=>?_⟩
 ·rw[Ae,Ae,oM,Cu,hcl,hnl];omega
 ·rw[BM,List.drop_append_of_le_length (by rw[oM];omega),KJ,←BM,HF (by rw[Ae,hol,hnl,Fq])]
 ·rw[Gg,BM,A2 (by rw[oM];exact ho),BI ho,AR]
omit hI in
theorem ja{b n m sz cap:Nat}{FN:Array Value}{E:TypeId}{olds news:List Value}(hb:w.heap[b]?=some (.cells FN E (0,0)))(X3:FN.size=cap*sz)(hn:n≤cap)(hm:n+m≤cap)(hnl:news.length=m*sz)(hol:olds.length=n*sz)
  (GS:∀j u,olds[j]?=some u→w.cell? ⟨b,j,none⟩=some u) :
  (FN.toList.take (n*sz)++news++FN.toList.drop (n*sz+news.length)).length=cap*sz ∧
  (FN.toList.take (n*sz)++news++FN.toList.drop (n*sz+news.length)).take ((n+m)*sz)=olds++news ∧
  ∀o,o<n*sz→(FN.toList.take (n*sz)++news++FN.toList.drop (n*sz+news.length)).toArray[o]?=FN[o]?:=by
 have hcl:FN.toList.length=cap*sz:=by rw[B3];exact X3
 have Tw:(n+m)*sz≤cap*sz:=Bh _ hm;have gH:n*sz≤cap*sz:=Bh _ hn;rw[Fq]at Tw;have KJ:FN.toList.take (n*sz)=olds:=by
  apply Dj;intro j
  by_cases hj:j<n*sz
  ·rw[BI hj];have hx:olds[j]?=some olds[j]:=Ax (by omega)
   have:=GS j _ hx
   rw[FQ hb]at this;rw[AR,this,hx]
  ·rw[A4 (by rw[AC];omega),A4 (by omega)]
 have oM:(FN.toList.take (n*sz)).length=n*sz:=by rw[AC];omega
 refine⟨?_,?_,fun o ho=>?_⟩
 ·rw[Ae,Ae,oM,Cu,hcl,hnl];omega
 ·rw[KJ,HF (by rw[Ae,hol,hnl,Fq])]
 ·rw[Gg,BM,A2 (by rw[oM];exact ho),BI ho,AR]
theorem UZ{r n sz:Nat}{es:List (List AV)}{x:Value}(he:h r=.arr sz es)(hx:BH g w (AT h) (.msl r n) x)(hn:n=es.length) :
  x=g.ρ r∧∃news,Ou w x es.length sz news∧CI g w Fy es.flatten news:=by
 have ho:=hI.objs r;rw[he]at ho;obtain⟨t1,l1,al,a1⟩:=ho;cases hx with
 |msl _ _ _ a cap hu ht X9 ha LN =>
  have e:=LN (hn.trans l1.symm);refine⟨e,?_⟩;rw[e];rcases a1 with ⟨rfl,e2,e3⟩ | ⟨b,K8,E,vs,e1,e2,e3,e4,e5,e6,e7⟩
  ·exact⟨[],⟨by simp,by simp,none,0,e2,.inl rfl⟩,by simp,by simp,fun i av x h1 h2=>by simp at h2⟩
  ·have X3:vs.toList.length=K8*sz:=by rw[B3];exact e5
   have He:es.length*sz≤vs.toList.length:=by rw[X3];exact Bh _ e3
   refine⟨vs.toList.take (es.length*sz),⟨by rw[AC,Nat.min_eq_left He],e6.2.1,_,_,e1,.inr ⟨_,rfl,fun j u hj=>?_⟩⟩,e6⟩;rw[Addr.add_lit,Bl,FQ e4];have DB:=(As.1 hj).1;rw[AC]at DB;rw[BI (by omega),AR]at hj;exact hj
theorem ci{sz:Nat}{x:AV}{vx:Value}{K:List (List AV)→Prop}(hx:BH g w (AT h) x vx)(hk:Lh h x K) :
  ∃es,K es∧((∀c∈es,c.length=sz)→∃news,Ou w vx es.length sz news∧CI g w Fy es.flatten news):=by
 unfold Lh at hk;split at hk
 ·exact⟨_,hk,fun hl=>Ou.of_rep hx.slice_none hl⟩
 ·obtain rfl:=hx.v_eq;exact⟨[],hk,fun _=>⟨[],⟨by simp,by simp,none,0,rfl,.inl rfl⟩,by simp,by simp,fun i av x h1 h2=>by simp at h2⟩⟩
 ·rename_i r n;split at hk
  ·rename_i GI es e;obtain⟨hn,hk⟩:=hk;refine⟨es,hk,fun hl=>?_⟩;obtain⟨_,news,n1,n2⟩:=UZ hI e hx hn;refine⟨news,?_,n2⟩
   have:news.length=es.length*sz:=by rw[n2.1,Dp hl]
   exact⟨this,n1.2.1,n1.2.2⟩
  ·exact hk.elim
 ·exact hk.elim
theorem df{cx:Cx}{d:Option Nat}{sz:Nat}{K:HK}(hk:EJ cx d h sz [] K) :
  ∃g' av h',K av h'∧DK w0 g0 h0 h' g' w∧Le h g w h' g' w∧BH g' w (AT h') av (.slice none 0 0):=by
 have base:∀(d:Nat) (o' : HO),h d=.free→o'≠.free→(∀g' : Gh,g'.ρ d=.slice none 0 0→g'.ln d=0→g'.tk d=true→g'.own d=none→Ej g' w (AT (A0 h d o')) d o') →
   DK w0 g0 h0 (A0 h d o') (g.upd d (.slice none 0 0) 0 true none g.S) w∧Le h g w (A0 h d o') (g.upd d (.slice none 0 0) 0 true none g.S) w:=by
  intro d o' hd DF Jx;refine hI.upd d o' _ _ _ _ _ w none ⟨rfl,rfl,rfl,Al _⟩ (fun _ _ _=>rfl) (fun b e=>by cases e) (fun _ _ h=>h) (fun _ _ h=>.inl h) (fun b o e=>by cases e) (fun b _ e=>by cases e) DF (fun hu=>absurd hd hu) (fun _ _=>?_);obtain⟨u1,u2,u3,u4⟩:=BD g d (.slice none 0 0) 0 true none g.S;exact Jx _ u1 u2 u3 u4
 unfold EJ at hk;split at hk
 ·exact hk.elim
 ·rename_i d;generalize KE cx d=d1 at hk;split at hk
  ·rename_i hd;split at hk
   ·obtain⟨k1,k2⟩:=base d1 (.arr sz []) hd (by simp) (fun g' u1 u2 u3 u4=>⟨u3,u2,by simp,.inl ⟨rfl,u1,u4⟩⟩);exact⟨_,_,_,hk,k1,k2,.msl _ d1 0 none 0 (by unfold AT;rw[Bd];simp) (by simp[Gh.upd]) (AD _) (.inl rfl) (fun _=>by simp[Gh.upd])⟩
   ·obtain⟨k1,k2⟩:=base d1 (.tok sz 0) hd (by simp) (fun g' u1 u2 u3 u4=>⟨u3,u2,none,0,u1,.inl ⟨rfl,u4⟩⟩);exact⟨_,_,_,hk,k1,k2,.tok _ d1 sz [] _ (.snil _ _ _) (by simp) (by unfold AT;rw[Bd];simp) (by simp[Gh.upd]) (AD _) (fun _=>by simp[Gh.upd])⟩
  ·exact hk.elim
theorem Ze{cx:Cx}(hT:Cz P cx.T){d:Option Nat}{t ty:Nat}{s x:AV}{vs vx:Value}{K:HK}(hs:BH g w (AT h) s vs)(hx:BH g w (AT h) x vx)(hk:Iv cx d h t s x K) :
  On P w0 g0 h0 h g w (Builtin.append_ #[t,t] ty #[vs,vx]) K:=by
 unfold Iv at hk;split at hk
 ·rename_i e ht;split at hk
  ·exact hk.elim
  ·rename_i hz;have hz:=AM hz;split at hk
   ·exact hk.elim
   ·rename_i k Eh;have h5:=ci hI (sz:=(cx.T e).size) hx hk
    clear hk
    obtain⟨es2,hk,h6⟩:=h5;split at hk
    ·obtain⟨⟨q1,q2,q3⟩,hk⟩:=hk;obtain rfl:=hs.v_eq;obtain⟨news,n1,n2⟩:=h6 (F3 q1);obtain⟨m1,m2,a,c,rfl,m4⟩:=n1
     by_cases hm:es2.length=0
     ·obtain rfl:=AL hm;obtain⟨g',av,h',k1,k2,k3,k4⟩:=df hI hk;exact⟨_,w,g',av,h',IW hT w ht Eh none a 0 0 c (Al _),k1,k2,k3,k4⟩
     ·obtain⟨nc,rest,r1,r2,r3⟩:=H3 hT w (ty:=ty) ht Eh hz (olds:=[]) (a:=none) (n:=0) (cap:=0) ⟨by simp,by simp,none,0,rfl,.inl rfl⟩ rfl (fun _=>rfl) ⟨m1,m2,a,c,rfl,m4⟩ rfl (by omega) (by omega) (by rw[Bl];exact q2) (by omega);obtain⟨g',av,h',k1,k2,k3,k4⟩:=J7 hI hk (vs:=([]++news++rest).toArray) (cap:=nc) e (F3 q1) (by omega) (by simpa using r3) (by
       rw[FK,show(news++rest).toArray.toList=news++rest from rfl,HF m1];exact n2) w.drew ⟨rfl,rfl,rfl,rfl⟩
      rw[Bl]at r1;exact⟨_,_,g',av,h',r1,k1,k2,k3,k4⟩
    ·rename_i GI es;split at hk
     ·rename_i Rh;obtain Rh:=AM Rh;obtain⟨⟨q1,q2,q3,q4⟩,hk⟩:=hk;obtain⟨news,n1,n2⟩:=h6 (F3 q1);obtain⟨m1,m2,a2,c2,rfl,m4⟩:=n1;cases hs with
      |full _ _ _ _ hr Xk LN =>
       obtain⟨a,rfl⟩:=LN;have F6:∀c∈es++es2,c.length=(cx.T e).size:=fun c hc=>(A1.1 hc).elim (fun h=>(Xk c h).trans Rh) (F3 q1 c);obtain⟨olds,o1,o2⟩:=Ou.of_rep hr (sz:=(cx.T e).size) (fun c hc=>(Xk c hc).trans Rh);have WP:=o2.app n2;rw[←CL]at WP;have ha:a=none→es.length=0:=by
        rintro rfl
        obtain⟨p1,p2,a',c',p3,p4⟩:=o1;cases p3;rcases p4 with h | ⟨b',h,_⟩
        ·exact h
        ·cases h
       obtain⟨nc,rest,r1,r2,r3⟩:=H3 hT w (ty:=ty) ht Eh hz o1 rfl ha ⟨m1,m2,a2,c2,rfl,m4⟩ rfl q2 (by omega) q3 q4;obtain⟨g',av,h',k1,k2,k3,k4⟩:=J7 hI hk (vs:=(olds++news++rest).toArray) (cap:=nc) e F6 (by rw[Ae];exact r2) (by rw[FF];exact r3) (by
        rw[show(olds++news++rest).toArray.toList=olds++news++rest from rfl,HF (by rw[Ae,Ae,o1.1,m1,Fq])];exact WP) w.drew ⟨rfl,rfl,rfl,rfl⟩
       rw[Ae]at k4;exact⟨_,_,g',av,h',r1,k1,k2,k3,k4⟩
     ·exact hk.elim
    ·rename_i r GI es;have ho:=hI.objs r;split at hk
     ·rename_i sz n e0;rw[e0]at ho;split at hk
      ·rename_i Rh xp;obtain rfl:=AM xp;obtain Rh:=AM Rh;obtain⟨⟨q1,q2,q3,q4⟩,hk⟩:=hk;rw[Rh]at q1;obtain⟨news,n1,n2⟩:=h6 (F3 q1);obtain⟨m1,m2,a2,c2,rfl,m4⟩:=n1;obtain⟨t1,l1,a,cap,a1,a3⟩:=ho;have hl:(h r).live:=by rw[e0];trivial
       have F6:∀c∈es++es2,es.length=n→True:=fun _ _ _=>trivial;cases hs with
       |tok _ _ _ _ _ hr Xk hu ht' hn LN =>
        have hv:=LN (q2.trans l1.symm);rw[a1]at hv;subst hv;subst q2;have F6:∀c∈es++es2,c.length=GI:=fun c hc=>(A1.1 hc).elim (Xk c) (fun h=>(F3 q1 c h).trans Rh.symm);obtain⟨olds,o1,o2⟩:=Ou.of_rep hr Xk;have WP:=o2.app n2;rw[←CL]at WP;have aQ:es.length≤cap:=by rcases a3 with ⟨e1,_⟩ | ⟨e1,_⟩<;>omega
        by_cases hm:es2.length=0
        ·obtain rfl:=AL hm;have Jx:=hI.objs r;rw[e0]at Jx
         obtain⟨k1,k2⟩:=hI.upd r (.tok GI (es.length+([]:List (List AV)).length)) (g.ρ r) (g.ln r) (g.tk r) (g.own r) g.S w none ⟨rfl,rfl,rfl,Al _⟩ (fun _ _ _=>rfl) (fun b e=>by cases e) (fun _ _ h=>h) (fun _ _ h=>.inl h) (fun b o e=>by cases e)
          (fun b _ e=>⟨(hI.loc r b hl e).1,.inl ⟨hl,e⟩⟩) (by simp) (fun _=>⟨rfl,Al _,fun _=>rfl,fun _=>rfl⟩) (fun hg If=>by
           obtain⟨u1,u2,u3,u4⟩:=BD g r (g.ρ r) (g.ln r) (g.tk r) (g.own r) g.S;rw[AJ,HA];exact Jx.same If (fun i hi=>DS (by simp) i hi) hg u1 u2 u3 u4 (fun b _ _=>⟨rfl,fun _ h=>h⟩))
         refine⟨_,w,_,_,_,IW hT w ht Eh a a2 es.length cap c2 aQ,hk,k1,k2,?_⟩;rw[BN];exact(BH.tok (AT h) r GI es _ hr Xk hu ht' hn LN).le k2
        ·by_cases J5:es.length+es2.length≤cap
         ·rcases a3 with ⟨e1,_⟩ | ⟨e1,b,E,FN,off,rfl,e3,e4,e5,e6⟩
          ·omega
          ·rcases m4 with h | ⟨ba,rfl,I2⟩
           ·omega
           ·obtain⟨i,z,i1,i2,i3,i4,i5⟩:=HG hT Eh;have Tw:(es.length+es2.length)*GI≤cap*GI:=Bh _ J5;have mD:news.length=es2.length*GI:=by rw[Rh];exact m1
            have ZG:i.size=GI:=i3.trans Rh.symm;have CP:=Ud (P:=P) t ty e i (hT.slice ht) i1 b off es.length cap FN e4 ba es2.length c2 news (by rw[ZG];exact mD) I2 m2 J5 (by rw[ZG,mD,e5];rw[Fq]at Tw;omega);rw[ZG]at CP;have GS:∀j u,olds[j]?=some u→w.cell? ⟨b,off+j,none⟩=some u:=by
             obtain⟨p1,p2,a',c',p3,p4⟩:=o1;cases p3;intro j u hj;rcases p4 with h | ⟨b',h,h'⟩
             ·rw[h,Kx]at p1;rw[AL p1]at hj;simp at hj
             ·cases h
              have:=h' j u hj
              rwa [Addr.add_lit]at this
            obtain⟨p1,p2,p3⟩:=lS e4 e5 e1 J5 mD o1.1 GS;generalize hnewd:FN.toList.take (off+es.length*GI)++news++FN.toList.drop (off+es.length*GI+news.length)=new at CP p1 p2 p3;have E6:=setRow_heap w b FN new.toArray E (0,0) e4;have cB:=(hI.loc r b hl e3).1
            obtain⟨k1,k2⟩:=hI.upd r (.tok GI (es.length+es2.length)) (.slice (some ⟨b,off,none⟩) (es.length+es2.length) cap) (es.length+es2.length) (g.tk r) (g.own r) (g.more b (off+(es.length+es2.length)*GI)) (w.setRow b new.toArray) (some b)
             ⟨rfl,rfl,rfl,by rw[size_setRow];exact Al _⟩ (fun k _ DF=>setRow_other w b k _ (fun e=>DF (by rw[e]))) (fun b' e=>by cases e;exact⟨hl,e3⟩) (fun _ _ h=>.inl h)
             (fun b' o hs=>hs.elim .inl (fun hs=>.inr ⟨by rw[size_setRow,hs.1];exact cB,.inr ⟨hl,by rw[hs.1];exact e3⟩⟩))
             (fun b' o e hs=>by
              cases e
              refine⟨?_,fun es ck he=>by rw[e4]at he;cases he⟩;rw[FQ E6,FQ e4];exact p3 o (e6 o hs)) (fun b' _ e=>by
              rw[e3]at e;cases e;exact⟨by rw[size_setRow];exact cB,.inl ⟨hl,e3⟩⟩) (by simp) (fun _=>⟨rfl,by omega,fun e=>(by rw[t1]at e;cases e),fun e=>by omega⟩) (fun hg If=>by
              obtain⟨u1,u2,u3,u4⟩:=BD g r (.slice (some ⟨b,off,none⟩) (es.length+es2.length) cap) (es.length+es2.length) (g.tk r) (g.own r) (g.more b (off+(es.length+es2.length)*GI));exact⟨u3.trans t1,u2,_,cap,u1,  .inr ⟨J5,b,E,_,off,rfl,u4.trans e3,E6,by rw[FF];exact p1,fun o ho=>by
               rcases ho with ho | ⟨_,ho⟩
               ·have h1:=e6 o ho;have h2:es.length*GI≤(es.length+es2.length)*GI:=Bh _ (by omega);omega
               ·exact ho⟩⟩)
            have Ep:=BH.slice_off (g:=g.upd r (.slice (some ⟨b,off,none⟩) (es.length+es2.length) cap) (es.length+es2.length) (g.tk r) (g.own r) (g.more b (off+(es.length+es2.length)*GI))) (U:=AT (A0 h r (.tok GI (es.length+es2.length)))) (cap:=cap) (es:=es++es2) E6 F6 (by rw[Ae];exact J5) (by
             rw[Ae,show new.toArray.toList=new from rfl,p2];exact WP.mono k2.keeps (fun _ h=>h) (fun _ h=>h.elim)) (fun o ho=>.inr ⟨rfl,by rw[Ae]at ho;exact Nat.add_lt_add_left ho off⟩)
            rw[Ae]at Ep;exact⟨_,_,_,_,_,CP,hk,k1,k2,.tok _ r GI _ _ Ep F6 (by unfold AT;rw[Bd];simp) (by simp[Gh.upd,t1]) (by simp[Gh.upd]) (fun _=>by simp[Gh.upd])⟩
         ·have gF:cap<es.length+es2.length:=by omega
          have ha:a=none→cap=0:=by
           rintro rfl
           rcases a3 with ⟨e1,_⟩ | ⟨_,b,_,_,_,e2,_⟩
           ·obtain⟨p1,p2,a',c',p3,p4⟩:=o1;cases p3;rcases p4 with h | ⟨b',h,_⟩
            ·omega
            ·cases h
           ·cases e2
          obtain⟨nc,rest,r1,r2,r3⟩:=H3 hT w (ty:=ty) ht Eh hz (by rw[←Rh];exact o1) rfl ha ⟨m1,m2,a2,c2,rfl,m4⟩ rfl (by omega) gF q3 q4;have E6:=HR w.drew (.cells (olds++news++rest).toArray e (0,0)) (b:=w.heap.size) rfl
          obtain⟨k1,k2⟩:=hI.upd r (.tok GI (es.length+es2.length)) (.slice (some ⟨w.heap.size,0,none⟩) (es.length+es2.length) nc) (es.length+es2.length) (g.tk r) (some w.heap.size) (g.more w.heap.size ((es.length+es2.length)*GI))
           (w.drew.alloc (.cells (olds++news++rest).toArray e (0,0))) none
           ⟨rfl,rfl,rfl,by rw[World.size_alloc];exact Nat.le_succ _⟩ (fun k Ki _=>by rw[heap_alloc_old _ _ (by exact Ki)];rfl) (fun b' e=>by cases e) (fun _ _ h=>.inl h)
           (fun b' o hs=>hs.elim .inl (fun hs=>.inr ⟨by rw[World.size_alloc,hs.1];exact LL _,.inl (by rw[hs.1];exact Al _)⟩))
           (fun b' o e=>by cases e) (fun b' _ e=>by cases e;exact⟨by rw[World.size_alloc];exact LL _,.inr (Al _)⟩) (by simp) (fun _=>⟨rfl,by omega,fun e=>(by rw[t1]at e;cases e),fun e=>by omega⟩) (fun hg If=>by
            obtain⟨u1,u2,u3,u4⟩:=BD g r (.slice (some ⟨w.heap.size,0,none⟩) (es.length+es2.length) nc) (es.length+es2.length) (g.tk r) (some w.heap.size) (g.more w.heap.size ((es.length+es2.length)*GI));exact⟨u3.trans t1,u2,_,nc,u1,.inr ⟨r2,w.heap.size,e,_,0,rfl,u4,E6,by rw[FF,Rh,Bl];exact r3,fun o ho=>by
             rcases ho with ho | ⟨_,ho⟩
             ·have:=hI.slt _ _ ho;omega
             ·omega⟩⟩)
          have Ep:=BH.slice_row (g:=g.upd r (.slice (some ⟨w.heap.size,0,none⟩) (es.length+es2.length) nc) (es.length+es2.length) (g.tk r) (some w.heap.size) (g.more w.heap.size ((es.length+es2.length)*GI))) (U:=AT (A0 h r (.tok GI (es.length+es2.length)))) (cap:=nc) (es:=es++es2) E6 F6 (by rw[Ae];exact r2) (by
           rw[Ae,show(olds++news++rest).toArray.toList=olds++news++rest from rfl,HF (by rw[Ae,o1.1,m1,Rh,Fq])];exact WP.mono k2.keeps (fun _ h=>h) (fun _ h=>h.elim)) (fun o ho=>.inr ⟨rfl,by rw[Ae]at ho;exact ho⟩)
          rw[Ae]at Ep;exact⟨_,_,_,_,_,r1,hk,k1,k2,.tok _ r GI _ _ Ep F6 (by unfold AT;rw[Bd];simp) (by simp[Gh.upd,t1]) (by simp[Gh.upd]) (fun _=>by simp[Gh.upd])⟩
      ·exact hk.elim
     ·exact hk.elim
    ·rename_i r n;have ho:=hI.objs r;split at hk
     ·rename_i sz es e0;split at hk
      ·rename_i Rh;obtain Rh:=AM Rh;obtain⟨⟨q1,q2,q3,q4⟩,hk⟩:=hk;rw[Rh]at q1;obtain⟨news,n1,n2⟩:=h6 (F3 q1);obtain⟨m1,m2,a2,c2,rfl,m4⟩:=n1;obtain⟨hv,olds,o1,o2⟩:=UZ hI e0 hs q2.symm;have Jx:=ho;rw[e0]at ho;obtain⟨t1,l1,al,a3⟩:=ho;have hl:(h r).live:=by rw[e0];trivial
       subst hv;have F6:∀c∈es++es2,c.length=sz:=fun c hc=>(A1.1 hc).elim (al c) (fun h=>(F3 q1 c h).trans Rh.symm);have WP:=o2.app n2;rw[←CL]at WP;obtain⟨a,cap,hρ,aQ,ha⟩:∃a cap,g.ρ r=.slice a es.length cap∧es.length≤cap∧(a=none→cap=0):=by
        rcases a3 with ⟨rfl,e2,e3⟩ | ⟨b,cap,E,FN,e1,e2,e3,e4,e5,e6,e7⟩
        ·exact⟨none,0,e2,Al _,fun _=>rfl⟩
        ·exact⟨_,cap,e1,e3,fun e=>by cases e⟩
       by_cases hm:es2.length=0
       ·obtain rfl:=AL hm;rw[e0]at Jx
        obtain⟨k1,k2⟩:=hI.upd r (.arr sz (es++[])) (g.ρ r) (g.ln r) (g.tk r) (g.own r) g.S w none ⟨rfl,rfl,rfl,Al _⟩ (fun _ _ _=>rfl) (fun b e=>by cases e) (fun _ _ h=>h) (fun _ _ h=>.inl h) (fun b o e=>by cases e)
         (fun b _ e=>⟨(hI.loc r b hl e).1,.inl ⟨hl,e⟩⟩) (by simp) (fun _=>⟨rfl,Al _,fun _=>rfl,fun _=>rfl⟩) (fun hg If=>by
          obtain⟨u1,u2,u3,u4⟩:=BD g r (g.ρ r) (g.ln r) (g.tk r) (g.own r) g.S;rw[BN];exact Jx.same If (fun i hi=>DS (by simp) i hi) hg u1 u2 u3 u4 (fun b _ _=>⟨rfl,fun _ h=>h⟩))
        refine⟨g.ρ r,w,_,_,_,?_,hk,k1,k2,?_⟩
        ·rw[hρ];exact IW hT w ht Eh a a2 es.length cap c2 aQ
        ·have:=hs.le k2
         rw[←q2]at this;exact this
       ·by_cases J5:es.length+es2.length≤cap
        ·rcases a3 with ⟨rfl,e2,e3⟩ | ⟨b,K8,E,FN,e1,e2,e3,e4,e5,e6,e7⟩
         ·rw[e2]at hρ;cases hρ;omega
         ·rw[e1]at hρ;simp only[Value.slice.injEq,true_and]at hρ;obtain⟨rfl,rfl⟩:=hρ;rcases m4 with h | ⟨ba,rfl,I2⟩
          ·omega
          ·obtain⟨i,z,i1,i2,i3,i4,i5⟩:=HG hT Eh;have Tw:(es.length+es2.length)*sz≤K8*sz:=Bh _ J5;have mD:news.length=es2.length*sz:=by rw[Rh];exact m1
           have ZG:i.size=sz:=i3.trans Rh.symm;have CP:=Qz (P:=P) t ty e i (hT.slice ht) i1 b es.length K8 FN e4 ba es2.length c2 news (by rw[ZG];exact mD) I2 m2 J5 (by rw[ZG,mD,←Fq,e5];exact Tw);rw[ZG]at CP;have GS:∀j u,olds[j]?=some u→w.cell? ⟨b,j,none⟩=some u:=by
            obtain⟨p1,p2,a',c',p3,p4⟩:=o1;rw[e1]at p3;cases p3;intro j u hj;rcases p4 with h | ⟨b',h,h'⟩
            ·rw[h,Kx]at p1;rw[AL p1]at hj;simp at hj
            ·cases h
             have:=h' j u hj
             rwa [Addr.add_lit,Bl]at this
           obtain⟨p1,p2,p3⟩:=ja e4 e5 e3 J5 mD o1.1 GS;generalize hnewd:FN.toList.take (es.length*sz)++news++FN.toList.drop (es.length*sz+news.length)=new at CP p1 p2 p3;have E6:=setRow_heap w b FN new.toArray E (0,0) e4;have cB:=(hI.loc r b hl e2).1
           obtain⟨k1,k2⟩:=hI.upd r (.arr sz (es++es2)) (.slice (some ⟨b,0,none⟩) (es.length+es2.length) K8) (es.length+es2.length) (g.tk r) (g.own r) g.S (w.setRow b new.toArray) (some b)
            ⟨rfl,rfl,rfl,by rw[size_setRow];exact Al _⟩ (fun k _ DF=>setRow_other w b k _ (fun e=>DF (by rw[e]))) (fun b' e=>by cases e;exact⟨hl,e2⟩) (fun _ _ h=>h) (fun _ _ h=>.inl h)
            (fun b' o e hs=>by cases e;exact absurd hs (e7 o)) (fun b' _ e=>by
             rw[e2]at e;cases e;exact⟨by rw[size_setRow];exact cB,.inl ⟨hl,e2⟩⟩) (by simp) (fun _=>⟨rfl,by omega,fun e=>(by rw[t1]at e;cases e),fun e=>by omega⟩) (fun hg If=>by
             obtain⟨u1,u2,u3,u4⟩:=BD g r (.slice (some ⟨b,0,none⟩) (es.length+es2.length) K8) (es.length+es2.length) (g.tk r) (g.own r) g.S;refine⟨u3.trans t1,by rw[u2,Ae],F6,.inr ⟨b,K8,E,_,by rw[u1,Ae],u4.trans e2,by rw[Ae];exact J5,E6,by rw[FF];exact p1,?_,e7⟩⟩;rw[Ae,show new.toArray.toList=new from rfl,p2];exact WP.mono If (fun _ h=>h) (fun _ h=>h.elim))
           rw[e1];exact⟨_,_,_,_,_,CP,hk,k1,k2,.msl _ r _ _ _ (by unfold AT;rw[Bd];simp) (by simp[Gh.upd,t1]) (by simp[Gh.upd]) (.inr ⟨_,rfl⟩) (fun _=>by simp[Gh.upd])⟩
        ·have gF:cap<es.length+es2.length:=by omega
         obtain⟨nc,rest,r1,r2,r3⟩:=H3 hT w (ty:=ty) ht Eh hz (by rw[←Rh];exact o1) hρ ha ⟨m1,m2,a2,c2,rfl,m4⟩ rfl (by omega) gF q3 q4;have E6:=HR w.drew (.cells (olds++news++rest).toArray e (0,0)) (b:=w.heap.size) rfl
         obtain⟨k1,k2⟩:=hI.upd r (.arr sz (es++es2)) (.slice (some ⟨w.heap.size,0,none⟩) (es.length+es2.length) nc) (es.length+es2.length) (g.tk r) (some w.heap.size) g.S
          (w.drew.alloc (.cells (olds++news++rest).toArray e (0,0))) none
          ⟨rfl,rfl,rfl,by rw[World.size_alloc];exact Nat.le_succ _⟩ (fun k Ki _=>by rw[heap_alloc_old _ _ (by exact Ki)];rfl) (fun b' e=>by cases e) (fun _ _ h=>h) (fun _ _ h=>.inl h)
          (fun b' o e=>by cases e) (fun b' _ e=>by cases e;exact⟨by rw[World.size_alloc];exact LL _,.inr (Al _)⟩) (by simp) (fun _=>⟨rfl,by omega,fun e=>(by rw[t1]at e;cases e),fun e=>by omega⟩) (fun hg If=>by
           obtain⟨u1,u2,u3,u4⟩:=BD g r (.slice (some ⟨w.heap.size,0,none⟩) (es.length+es2.length) nc) (es.length+es2.length) (g.tk r) (some w.heap.size) g.S;refine⟨u3.trans t1,by rw[u2,Ae],F6,.inr ⟨w.heap.size,nc,e,_,by rw[u1,Ae],u4,by rw[Ae];exact r2,E6,by rw[FF,Rh];exact r3,?_,fun o ho=>by have:=hI.slt _ _ ho;omega⟩⟩;rw[Ae,show(olds++news++rest).toArray.toList=olds++news++rest from rfl,HF (by rw[Ae,o1.1,m1,Rh,Fq])];exact WP.mono If (fun _ h=>h) (fun _ h=>h.elim))
         exact⟨_,_,_,_,_,r1,hk,k1,k2,.msl _ r _ _ _ (by unfold AT;rw[Bd];simp) (by simp[Gh.upd,t1]) (by simp[Gh.upd]) (.inr ⟨_,rfl⟩) (fun _=>by simp[Gh.upd])⟩
      ·exact hk.elim
     ·exact hk.elim
    ·exact hk.elim
 ·exact hk.elim
end
section
variable {P:Program}{w0:World}{g0:Gh}{h0 h:Nat→HO}{g:Gh}{w:World}(hI:DK w0 g0 h0 h g w)
include hI
theorem N6{d sz n:Nat}{es:List (List AV)}{a:Option Addr}(hd:h d=.free)(hl:∀c∈es,c.length=sz)(hn:es.length=n)(hr:BH g w Fy (.slice .none es) (.slice a n n)) :
  ∃g',DK w0 g0 h0 (A0 h d (.tok sz n)) g' w∧Le h g w (A0 h d (.tok sz n)) g' w∧BH g' w (AT (A0 h d (.tok sz n))) (.slice (.id d sz) es) (.slice a n n):=by
 obtain⟨k1,k2⟩:=hI.upd d (.tok sz n) (.slice a n n) n true none g.S w none ⟨rfl,rfl,rfl,Al _⟩ (fun _ _ _=>rfl) (fun b e=>by cases e) (fun _ _ h=>h) (fun _ _ h=>.inl h) (fun b o e=>by cases e) (fun b _ e=>by cases e) (by simp)
  (fun hu=>absurd hd hu) (fun _ _=>by
   obtain⟨u1,u2,u3,u4⟩:=BD g d (.slice a n n) n true none g.S;exact⟨u3,u2,a,n,u1,.inl ⟨rfl,u4⟩⟩)
 exact⟨_,k1,k2,.tok _ d sz es _ (((hr.up (AT h)).le k2)) hl (by unfold AT;rw[Bd];simp) (by simp[Gh.upd]) (by simp[Gh.upd,hn]) (fun _=>by simp[Gh.upd])⟩
theorem Zf{cx:Cx}{d:Option Nat}{x:AV}{vx:Value}{K:HK}(hx:BH g w (AT h) x vx)(hk:Oz cx d h x K):∃g' av h',K av h'∧DK w0 g0 h0 h' g' w∧Le h g w h' g' w∧BH g' w (AT h') av vx:=by
 have plain:K x h→∃g' av h',K av h'∧DK w0 g0 h0 h' g' w∧Le h g w h' g' w∧BH g' w (AT h') av vx:=fun hk=>⟨g,x,h,hk,hI,.refl _ _ _,hx⟩;unfold Oz at hk;split at hk
 ·exact plain hk
 ·rename_i d;split at hk
  ·rename_i sz _;split at hk
   ·refine⟨g,unT x,h,hk,hI,.refl _ _ _,?_⟩;cases x with
    |slice tk es=>exact(BH.slice_none hx).up _
    |_=>exact hx
   ·split at hk
    ·split at hk
     ·rename_i hd;obtain rfl:=hx.v_eq;obtain⟨g',k1,k2,k3⟩:=N6 hI (sz:=sz) (es:=[]) (a:=none) hd (by simp) rfl (.snil _ _ _);exact⟨g',_,_,hk,k1,k2,k3⟩
     ·exact hk.elim
    ·exact plain hk
  ·split at hk
   ·rename_i sz _;split at hk
    ·split at hk
     ·rename_i hd;obtain rfl:=hx.v_eq
      obtain⟨k1,k2⟩:=hI.upd d (.arr sz []) (.slice none 0 0) 0 true none g.S w none ⟨rfl,rfl,rfl,Al _⟩ (fun _ _ _=>rfl) (fun b e=>by cases e) (fun _ _ h=>h) (fun _ _ h=>.inl h) (fun b o e=>by cases e) (fun b _ e=>by cases e) (by simp)
       (fun hu=>absurd hd hu) (fun _ _=>by
        obtain⟨u1,u2,u3,u4⟩:=BD g d (.slice none 0 0) 0 true none g.S;exact⟨u3,u2,by simp,.inl ⟨rfl,u1,u4⟩⟩)
      exact⟨_,_,_,hk,k1,k2,.msl _ d 0 none 0 (by unfold AT;rw[Bd];simp) (by simp[Gh.upd]) (AD _) (.inl rfl) (fun _=>by simp[Gh.upd])⟩
     ·exact hk.elim
    ·exact plain hk
   ·exact plain hk
theorem Ys{T:GK}{mku:List Nat}{d:Option Nat}{ty:Nat}{K:HK}(hk:KL T mku d h ty K):On P w0 g0 h0 h g w (Instr.makeMap ty none) K:=by
 unfold KL at hk;split at hk
 ·exact hk.elim
 ·rename_i d;split at hk
  ·rename_i hd;split at hk
   ·split at hk
    ·rename_i sh _;split at hk
     ·obtain⟨k1,k2⟩:=hI.newOwn hd (.mapU sh []) (.map #[] 0) (.map (some w.heap.size)) 0 false w ⟨rfl,rfl,rfl,rfl⟩ (by simp) (fun hg If=>by
       obtain⟨u1,u2,u3,u4⟩:=BD g d (.map (some w.heap.size)) 0 false (some w.heap.size) g.S;exact⟨u3,w.heap.size,#[],0,u4,u1,HR w _ rfl,⟨rfl,by simp,by simp,by simp,by simp,by simp⟩,by simp,fun o ho=>by have:=hI.slt _ _ ho;omega⟩)
      refine⟨_,_,_,_,_,?_,hk,k1,k2,.mref _ d w.heap.size (by unfold AT;rw[Bd];simp) ?_ ?_⟩
      ·simp[Instr.makeMap]
      ·simp[Gh.upd]
      ·simp[Gh.upd]
     ·obtain⟨k1,k2⟩:=hI.newOwn hd (.map sh []) (.map #[] 0) (.map (some w.heap.size)) 0 false w ⟨rfl,rfl,rfl,rfl⟩ (by simp) (fun hg If=>by
       obtain⟨u1,u2,u3,u4⟩:=BD g d (.map (some w.heap.size)) 0 false (some w.heap.size) g.S;exact⟨u3,w.heap.size,#[],0,u4,u1,HR w _ rfl,⟨rfl,by simp,by simp,by simp,by simp,by simp⟩,by simp,fun o ho=>by have:=hI.slt _ _ ho;omega⟩)
      refine⟨_,_,_,_,_,?_,hk,k1,k2,.mref _ d w.heap.size (by unfold AT;rw[Bd];simp) ?_ ?_⟩
      ·simp[Instr.makeMap]
      ·simp[Gh.upd]
      ·simp[Gh.upd]
    ·exact hk.elim
   ·exact hk.elim
  ·exact hk.elim
omit hI in
theorem BH.sub{es:List (List AV)}{sz l m:Nat}{x:Value}{a:Option Addr}{n cap:Nat}(hr:BH g w Fy (.slice .none es) x)(hx:x=.slice a n cap)(hl:∀c∈es,c.length=sz)(h1:l≤m)(h2:m≤es.length)(c' : Nat)(hc:m-l≤c')(a' : Option Addr)
  (ha:a'=a.map (·.add (l*sz))∨(m=l∧a'=a)):BH g w Fy (.slice .none ((es.take m).drop l)) (.slice a' (m-l) c'):=by
 subst hx;have CB:((es.take m).drop l).length=m-l:=by rw[Cu,AC];omega
 by_cases h0:m-l=0
 ·have:(es.take m).drop l=[]:=AL (by omega)
  rw[this,h0];exact .snil _ _ _
 ·cases hr with
  |snil=>simp at h2;omega
  |slice _ _ b off GI cap val pT Qc DH Ep =>
   have hz:GI=sz:=by
    have:(0:Nat)<es.length:=by omega
    have h3:=Qc 0 es[0] (Ax this);rw[←h3];exact hl _ (At this)
   subst hz;have ha' : a'=some ⟨b,off+l*GI,none⟩:=by
    rcases ha with h | ⟨h,_⟩
    ·rw[h];simp[Addr.add_lit]
    ·omega
   subst ha';rw[←CB];have Ft:∀(i:Nat) (cs:List AV),((es.take m).drop l)[i]?=some cs→es[l+i]?=some cs:=fun i cs h=>by
    rw[DD]at h
    by_cases hi:l+i<m
    ·rwa [BI hi]at h
    ·rw[A4 (by rw[AC];omega)]at h;cases h
   refine .slice _ _ b (off+l*GI) GI c' (fun i j=>val (l+i) j) (by rw[CB];exact hc) (fun i cs h=>Qc _ _ (Ft i cs h)) (fun i cs j av h1 h2=>?_) (fun i cs j av h1 h2=>Ep _ _ _ _ (Ft i cs h1) h2)
   have:=DH _ _ _ _ (Ft i cs h1) h2
   rwa [show off+(l+i)*GI+j=off+l*GI+i*GI+j by rw[Fq];omega]at this
omit hI in
theorem KR{t:Nat→AV}{ρ:Operand→Value}(ht:∀x:Operand,BH g w (AT h) (ev t x) (ρ x)){o:Option Operand}{i:Option Int}(hk:B5 t o=some i):o.map ρ=i.map fun n=>.int .i64 n:=by
 cases o with
 |none=>cases hk;rfl
 |some x =>
  unfold B5 at hk;dsimp only at hk;split at hk
  ·rename_i n e;cases hk
   have:=ht x
   rw[e]at this;simp[this.v_eq]
  ·cases hk
omit hI in
theorem Ue(b:Bool)(len cap:Nat)(lo hi mx:Option Int)(kO:mx=none∨hi≠none)(h0:0≤lo.getD 0)(h1:lo.getD 0≤hi.getD len)(h2:hi.getD len≤mx.getD cap)(h3:mx.getD cap≤cap) :
  (Instr.sliceBounds b len cap (lo.map fun n=>.int .i64 n) (hi.map fun n=>.int .i64 n) (mx.map fun n=>.int .i64 n)).run P w=.ok ((lo.getD 0).toNat,(hi.getD len).toNat,(mx.getD cap).toNat) w:=by
 have e1:∀n:Int,0≤n→(n.toNat:Int)=n:=fun n hn=>Int.toNat_of_nonneg hn;cases mx with
 |none =>
  cases hi with
  |none =>
   cases lo with
   |none=>simp[Instr.sliceBounds]
   |some l =>
    simp only[Cv,D6]at h0 h1 h2;simp[Instr.sliceBounds,run_sliceBound,h0,h1]
  |some hh =>
   simp only[Cv,D6]at h1 h2;have rJ:0≤hh:=by omega
   cases lo with
   |none=>simp[Instr.sliceBounds,run_sliceBound,rJ,h2]
   |some l =>
    simp only[Cv]at h0 h1;simp[Instr.sliceBounds,run_sliceBound,h0,h1,h2,rJ,e1]
 |some m =>
  cases hi with
  |none=>simp at kO
  |some hh =>
   simp only[Cv]at h1 h2 h3;have rJ:0≤hh:=by omega
   have uj:0≤m:=by omega
   cases lo with
   |none=>simp[Instr.sliceBounds,run_sliceBound,h2,h3,rJ,uj,e1]
   |some l =>
    simp only[Cv]at h0 h1;simp[Instr.sliceBounds,run_sliceBound,h0,h1,h2,h3,rJ,uj,e1]
omit hI in
theorem EZ{T:GK}(hT:Cz P T){ty e k:Nat}(ht:(T ty).d=.slice e)(hk:(T e).size=k+1)(a:Option Addr)(len cap:Nat)(lo hi mx:Option Int)(kO:mx=none∨hi≠none)(h0:0≤lo.getD 0)(h1:lo.getD 0≤hi.getD len)(h2:hi.getD len≤mx.getD cap)(h3:mx.getD cap≤cap) :
  (Instr.sliceAt ty (.slice a len cap) (lo.map fun n=>.int .i64 n) (hi.map fun n=>.int .i64 n) (mx.map fun n=>.int .i64 n)).run P w =
   .ok (.slice (if(mx.getD cap).toNat=(lo.getD 0).toNat then a else a.map (·.add ((lo.getD 0).toNat*(T e).size))) ((hi.getD len).toNat-(lo.getD 0).toNat) ((mx.getD cap).toNat-(lo.getD 0).toNat)) w:=by
 have hu:=hT.slice ht;have hb:=Ue (P:=P) (w:=w) true len cap lo hi mx kO h0 h1 h2 h3;simp only[Instr.sliceAt,Sem.run_bind,run_underlying hu,Result.andThen_ok,Instr.slice,hb,hT.size1 w hk,Sem.run_pure];rw[hk]
theorem DK.moveO(r r2:Nat)(DF:r2≠r)(hf:h r2=.free)(hl:(h r).live){ob:Option Nat}(ho:∀c,ob=some c→g.own r=some c)(o' : HO)(x:Value)(n:Nat)(t:Bool)(hn:o'≠.free)
  (Jx:EO g w (g.upd r2 x n t ob g.S) w→Ej (g.upd r2 x n t ob g.S) w (AT (A0 (A0 h r .dead) r2 o')) r2 o') :
  DK w0 g0 h0 (A0 (A0 h r .dead) r2 o') (g.upd r2 x n t ob g.S) w∧Le h g w (A0 (A0 h r .dead) r2 o') (g.upd r2 x n t ob g.S) w:=by
 have d6:Ke g (g.upd r2 x n t ob g.S) (AT h):=by
  intro i hi;have e:i≠r2:=fun e=>hi (by rw[e];exact hf);refine⟨by simp[Gh.upd,e],by simp[Gh.upd,e],fun _=>by simp[Gh.upd,e],fun _=>by simp[Gh.upd,e]⟩
 have hK:EO g w (g.upd r2 x n t ob g.S) w:=fun b o hb=>⟨hb,rfl,fun _ _ h=>h⟩;have Kr:∀i,AT h i→AT (A0 (A0 h r .dead) r2 o') i:=fun i hi=>DS hn i (DS (by simp) i hi);have key:∀i,i≠r2→(A0 (A0 h r .dead) r2 o' i).live→i≠r∧(h i).live:=fun i h2 hl=>by
  rw[BZ _ _ _ _ h2]at hl
  by_cases e:i=r
  ·subst e;rw[Bd]at hl;exact hl.elim
  ·rw[BZ _ _ _ _ e]at hl;exact⟨e,hl⟩
 have own:∀i,i≠r2→(g.upd r2 x n t ob g.S).own i=g.own i:=fun i e=>by simp[Gh.upd,e]
 have T1:(g.upd r2 x n t ob g.S).own r2=ob:=by simp[Gh.upd]
 refine⟨⟨hI.os,hI.tape,hI.output,hI.size,hI.frame,hI.slt,fun i=>?_,fun i j c hi hj ei ej=>?_,fun i c hi ei=>?_,hI.sg,hI.glob.keep hK⟩,d6,Kr,hK⟩
 ·by_cases e:i=r2
  ·subst e;rw[Bd];exact Jx hK
  ·rw[BZ _ _ _ _ e]
   by_cases e1:i=r
   ·subst e1;rw[Bd];trivial
   ·rw[BZ _ _ _ _ e1];exact(hI.objs i).same hK Kr d6 (by simp[Gh.upd,e]) (by simp[Gh.upd,e]) (by simp[Gh.upd,e]) (by simp[Gh.upd,e]) (fun b hl hb=>⟨rfl,fun k hk=>hk⟩)
 ·by_cases e1:i=r2<;>by_cases e2:j=r2
  ·exact e1.trans e2.symm
  ·subst e1;rw[T1]at ei;rw[own j e2]at ej;obtain⟨a1,a2⟩:=key j e2 hj;exact absurd (hI.inj j r _ a2 hl ej (ho _ ei)) a1
  ·subst e2;rw[T1]at ej;rw[own i e1]at ei;obtain⟨a1,a2⟩:=key i e1 hi;exact absurd (hI.inj i r _ a2 hl ei (ho _ ej)) a1
  ·rw[own i e1]at ei;rw[own j e2]at ej;exact hI.inj i j c (key i e1 hi).2 (key j e2 hj).2 ei ej
 ·by_cases e1:i=r2
  ·subst e1;rw[T1]at ei;exact hI.loc r _ hl (ho _ ei)
  ·rw[own i e1]at ei;exact hI.loc i c (key i e1 hi).2 ei
theorem YS{cx:Cx}(hT:Cz P cx.T){d:Option Nat}{ty:Nat}{x:AV}{vx:Value}{t:Nat→AV}{ρ:Operand→Value}(ht:∀x:Operand,BH g w (AT h) (ev t x) (ρ x)){lo hi mx:Option Operand}{K:HK}(hx:BH g w (AT h) x vx)
  (hk:Ua cx d h ty x (B5 t lo) hi mx K):On P w0 g0 h0 h g w (Instr.sliceAt ty vx (lo.map ρ) (hi.map ρ) (mx.map ρ)) K:=by
 unfold Ua at hk;split at hk
 ·rename_i d HS e1;rw[KR ht e1];split at hk
  ·rename_i e hs;split at hk
   ·exact hk.elim
   ·rename_i k Eh;split at hk
    ·rename_i r sz es;split at hk
     ·rename_i GI n e0;split at hk
      ·rename_i hd;split at hk
       ·rename_i q1 q2;obtain rfl:=AM q1;have q2:=AM q2;obtain⟨⟨rfl,h1,h2⟩,hk⟩:=hk;have hl:(h r).live:=by rw[e0];trivial
        have DF:KE cx d≠r:=fun e=>by rw[e,e0]at hd;cases hd
        have ho:=hI.objs r;rw[e0]at ho;obtain⟨t1,l1,a,cap,a1,a3⟩:=ho;have hr:=hx.slice_none;cases hx with
        |tok _ _ _ _ _ eh Xk hu ht' hn LN =>
         have hv:=LN l1.symm;rw[a1]at hv;subst hv;have aQ:es.length≤cap:=by rcases a3 with ⟨e1,_⟩ | ⟨e1,_⟩<;>omega
         have CP:=EZ (P:=P) (w:=w) hT hs Eh a es.length cap (some HS) none none (.inl rfl) h1 h2 (by simp only[D6];omega) (by simp);simp only[Cv,D6,Bj]at CP;have CB:(es.drop HS.toNat).length=es.length-HS.toNat:=Cu;have gN:=BH.sub (c':=cap-HS.toNat) hr rfl Xk (l:=HS.toNat) (m:=es.length) (by omega) (Al _) (by omega) (if cap=HS.toNat then a else a.map (·.add (HS.toNat*(cx.T e).size))) (by
          split
          ·exact .inr ⟨by omega,rfl⟩
          ·rw[q2];exact .inl rfl)
         rw[DM]at gN
         have fin:∀ob:Option Nat,(∀c,ob=some c→g.own r=some c)→(es.length-HS.toNat=cap-HS.toNat∧ob=none∨es.length-HS.toNat≤cap-HS.toNat∧∃b E vs off,(if cap=HS.toNat then a else a.map (·.add (HS.toNat*(cx.T e).size)))=some ⟨b,off,none⟩∧ob=some b∧w.heap[b]?=some (.cells vs E (0,0))∧vs.size=off+(cap-HS.toNat)*GI∧∀o,g.S b o→o<off+(es.length-HS.toNat)*GI) →
           On P w0 g0 h0 h g w (Instr.sliceAt ty (.slice a es.length cap) ((some HS).map fun n=>.int .i64 n) ((none:Option Operand).map ρ) ((none:Option Operand).map ρ)) K:=fun ob ho rZ=>by
          obtain⟨k1,k2⟩:=hI.moveO r (KE cx d) DF hd hl ho (.tok GI (es.drop HS.toNat).length) (.slice (if cap=HS.toNat then a else a.map (·.add (HS.toNat*(cx.T e).size))) (es.length-HS.toNat) (cap-HS.toNat)) (es.length-HS.toNat) true (by simp) (fun If=>by
           obtain⟨u1,u2,u3,u4⟩:=BD g (KE cx d) (.slice (if cap=HS.toNat then a else a.map (·.add (HS.toNat*(cx.T e).size))) (es.length-HS.toNat) (cap-HS.toNat)) (es.length-HS.toNat) true ob g.S;refine⟨u3,u2.trans CB.symm,_,_,by rw[CB];exact u1,?_⟩;rw[CB,u4];exact rZ)
          exact⟨_,w,_,_,_,CP,hk,k1,k2,.tok _ _ _ _ _ (((gN.mono k2.keeps (fun _ h=>h) (fun _ h=>h.elim))).up _) (fun c hc=>Xk c (IB hc)) (by unfold AT;rw[Bd];simp) (by simp[Gh.upd]) (by simp[Gh.upd]) (fun _=>by simp[Gh.upd])⟩
         rcases a3 with ⟨e1,e2⟩ | ⟨e1,b,E,vs,off,rfl,e3,e4,e5,e6⟩
         ·exact fin none (fun c h=>by cases h) (.inl ⟨by omega,rfl⟩)
         ·by_cases hc:cap=HS.toNat
          ·exact fin none (fun c h=>by cases h) (.inl ⟨by omega,rfl⟩)
          ·refine fin (some b) (fun c h=>by cases h;exact e3) (.inr ⟨by omega,b,E,vs,off+HS.toNat*GI,?_,rfl,e4,?_,fun o ho=>?_⟩)
           ·rw[Aj hc];simp[Addr.add_lit,q2]
           ·rw[e5,Nat.sub_mul]
            have:=Bh GI (show HS.toNat≤cap by omega)
            omega
           ·have:=e6 o ho
            rw[Nat.sub_mul]
            have:=Bh GI (show HS.toNat≤es.length by omega)
            omega
       ·exact hk.elim
      ·exact hk.elim
     ·exact hk.elim
    ·exact hk.elim
  ·exact hk.elim
 ·exact hk.elim
omit hI in
theorem NO{sz:Nat}:∀{es:List (List AV)},(∀cs∈es,cs.length=sz)→∀k,(es.take k).flatten=es.flatten.take (k*sz)
 | [],_,k=>by simp
 |c::es,hl,0=>by simp
 |c::es,hl,k+1=>by
  have h1:=hl c (Ab ..);have h2:c.length≤k*sz+sz:=by omega
  rw[I6,BC,BC,NO (fun x hx=>hl x (Ai _ hx)) k,List.take_append,h1,D5,
   Aw h2,show k*sz+sz-sz=k*sz by omega]
omit hI in
theorem CI.takeE{U:Nat→Prop}{sz k:Nat}{es:List (List AV)}{vs:List Value}(hl:∀cs∈es,cs.length=sz)(hk:k≤es.length)(h:CI g w U es.flatten (vs.take (es.length*sz))):CI g w U (es.take k).flatten (vs.take (k*sz)):=by
 have e:vs.take (k*sz)=(vs.take (es.length*sz)).take (k*sz):=by
  rw[List.take_take,Nat.min_eq_left (Bh _ hk)]
 rw[NO hl,e];refine⟨by rw[AC (l:=vs.take (es.length*sz)),h.1,AC],fun x hx=>h.2.1 x (EB hx),fun i av x q1 q2=>?_⟩;have hi:i<k*sz:=by
  rcases B7 i (k*sz)with q | q
  ·exact q
  ·rw[JN,Aj (by omega)]at q1;cases q1
 rw[JN,Ap hi]at q1 q2;exact h.2.2 i av x q1 q2
theorem bu{cx:Cx}(hT:Cz P cx.T){d:Option Nat}{ty:Nat}{x:AV}{vx:Value}{t:Nat→AV}{ρ:Operand→Value}(ht:∀x:Operand,BH g w (AT h) (ev t x) (ρ x)){hi:Option Operand}{K:HK}(hx:BH g w (AT h) x vx)
  (hk:iT cx d h ty x (B5 t hi) K):On P w0 g0 h0 h g w (Instr.sliceAt ty vx none (hi.map ρ) none) K:=by
 unfold iT at hk;split at hk
 ·rename_i d LR e1;rw[KR ht e1];split at hk
  ·rename_i e hs;split at hk
   ·exact hk.elim
   ·rename_i k Eh;split at hk
    ·rename_i r n;split at hk
     ·rename_i sz es e0;split at hk
      ·rename_i hd;split at hk
       ·rename_i q1 q3;have q1:=AM q1;obtain⟨⟨rfl,h1,h2⟩,hk⟩:=hk;have hl:(h r).live:=by rw[e0];trivial
        have DF:KE cx d≠r:=fun e=>by rw[e,e0]at hd;cases hd
        have ho:=hI.objs r;rw[e0]at ho;obtain⟨t1,l1,al,a2⟩:=ho;have CB:(es.take LR.toNat).length=LR.toNat:=by rw[AC];omega
        cases hx with
        |msl _ _ _ a cap hu ht' X9 ha LN =>
         have hv:=LN l1.symm;have O0:es.length≤cap:=by
          rcases a2 with ⟨b1,_,_⟩ | ⟨b,K8,E,vs,b1,_,b3,_⟩
          ·subst b1;exact AD _
          ·rw[b1]at hv;cases hv;exact b3
         have CP:=EZ (P:=P) (w:=w) hT hs Eh a es.length cap none (some LR) none (.inl rfl) (by simp) (by simp only[D6,Cv];exact h1) (by simp only[Cv,D6];omega) (by simp);have LF:(if cap-(0:Nat)=0 then a else a.map (·.add (0*(cx.T e).size)))=a:=by
          rw[Kx];split
          ·rfl
          ·rcases ha with e3 | ⟨b,rfl⟩
           ·cases a with
            |none=>rfl
            |some a=>simp[Addr.add]
           ·rfl
         simp only[Cv,D6,Bj,Int.toNat_zero,Nat.sub_zero]at CP LF;have key:∃a',(Instr.sliceAt ty (.slice a es.length cap) ((none:Option Int).map fun n=>.int .i64 n) ((some LR).map fun n=>.int .i64 n) ((none:Option Int).map fun n=>.int .i64 n)).run P w=.ok (.slice a' LR.toNat cap) w∧(a'=a):=⟨_,CP,by first | exact LF | (split<;>first | rfl | exact LF | (simp_all))⟩
         obtain⟨a',CP,rfl⟩:=key;have JR:BH (g.upd (KE cx d) (.slice a' LR.toNat cap) LR.toNat true (g.own r) g.S) w (AT (A0 (A0 h r .dead) (KE cx d) (.arr sz (es.take LR.toNat)))) (.msl (KE cx d) LR.toNat) (.slice a' LR.toNat cap) :=
          .msl _ _ _ _ _ (by unfold AT;rw[Bd];simp) (by simp[Gh.upd]) (by simp[Gh.upd]) (ha.elim (fun e=>.inl (by omega)) .inr) (fun _=>by simp[Gh.upd])
         obtain⟨k1,k2⟩:=hI.moveO r (KE cx d) DF hd hl (ob:=g.own r) (fun c h=>h) (.arr sz (es.take LR.toNat)) (.slice a' LR.toNat cap) LR.toNat true (by simp) (fun If=>by
          obtain⟨u1,u2,u3,u4⟩:=BD g (KE cx d) (.slice a' LR.toNat cap) LR.toNat true (g.own r) g.S;refine⟨u3,u2.trans CB.symm,fun c hc=>al c (EB hc),?_⟩;rcases a2 with ⟨b1,b2,b3⟩ | ⟨b,K8,E,vs,b1,b2,b3,b4,b5,b6,b7⟩
          ·subst b1;rw[b2]at hv;cases hv;have h0:LR.toNat=0:=by simp only[AJ]at h2;omega
           exact .inl ⟨List.take_nil,by rw[u1,h0],u4.trans b3⟩
          ·rw[b1]at hv;cases hv;refine .inr ⟨b,cap,E,vs,by rw[CB];exact u1,u4.trans b2,by rw[CB];omega,b4,b5,?_,b7⟩;rw[CB];exact(CI.takeE al (by omega) b6).mono If (fun _ h=>h) (fun _ h=>h.elim))
         exact⟨_,w,_,_,_,CP,hk,k1,k2,JR⟩
       ·exact hk.elim
      ·exact hk.elim
     ·exact hk.elim
    ·exact hk.elim
  ·exact hk.elim
 ·exact hk.elim
theorem VQ{cx:Cx}(hT:Cz P cx.T){d:Option Nat}{ty:Nat}{x:AV}{vx:Value}{t:Nat→AV}{ρ:Operand→Value}(ht:∀x:Operand,BH g w (AT h) (ev t x) (ρ x)){lo hi mx:Option Operand}{K:HK}(hx:BH g w (AT h) x vx)
  (hk:GH cx d h ty x (B5 t lo) (B5 t hi) (B5 t mx) K):On P w0 g0 h0 h g w (Instr.sliceAt ty vx (lo.map ρ) (hi.map ρ) (mx.map ρ)) K:=by
 unfold GH at hk;split at hk
 ·rename_i HS LR mO e1 e2 e3;rw[KR ht e1,KR ht e2,KR ht e3];split at hk
  ·rename_i hs;split at hk
   ·rename_i s;obtain⟨⟨h1,h2,h3⟩,hk⟩:=hk;obtain rfl:=hx.v_eq;have hb:=Ue (P:=P) (w:=w) false s.size s.size HS LR none (.inl rfl) h1 h2 (by simpa using h3) (by simp);refine(BK.val (x:=.string (s.extract (HS.getD 0).toNat (LR.getD s.size).toNat)) ?_ hk).does hI;simp only[Instr.sliceAt,Sem.run_bind,run_underlying (hT.string hs),Result.andThen_ok,Instr.slice];simp only[Option.map_none,Option.isSome_none,Du,GF]at hb⊢;simp only[Sem.run_bind,hb,Result.andThen_ok,Sem.run_pure]
   ·exact hk.elim
  ·rename_i e hs;split at hk
   ·exact hk.elim
   ·rename_i k Eh;split at hk
    ·rename_i tk es;have hr:=hx.slice_none;obtain⟨a,cap,hv,O0⟩:∃a cap,vx=.slice a es.length cap∧es.length≤cap:=by
      cases hr with
      |snil _ a cap=>exact⟨a,cap,rfl,AD _⟩
      |slice _ _ b off sz cap val hc=>exact⟨_,cap,rfl,hc⟩
     subst hv;split at hk
     ·obtain⟨⟨h1,h2,h3⟩,hl,hk⟩:=hk;have CP:=EZ (P:=P) (w:=w) hT hs Eh a es.length cap HS LR none (.inl rfl) h1 h2 (by simp only[D6];omega) (by simp);refine BK.does hI ⟨_,_,CP,hk,(BH.sub (c':=cap-(HS.getD 0).toNat) hr rfl hl (l:=(HS.getD 0).toNat) (m:=(LR.getD es.length).toNat) (by omega) (by omega) (by simp;omega) _ ?_).up _⟩;split
      ·rename_i e;simp only[D6,Bj]at e;exact .inr ⟨by omega,rfl⟩
      ·exact .inl rfl
     ·rename_i m;split at hk
      ·rename_i d hh;split at hk
       ·obtain⟨⟨h1,h2,rfl,h3⟩,hl,hk⟩:=hk;have CP:=EZ (P:=P) (w:=w) hT hs Eh a es.length cap HS (some m) (some m) (.inr (by simp)) h1 h2 (by simp) (by simp only[Cv];omega);simp only[Cv]at CP;have CB:((es.take m.toNat).drop (HS.getD 0).toNat).length=m.toNat-(HS.getD 0).toNat:=by rw[Cu,AC];omega
        refine BK.does hI ⟨_,_,CP,hk,.full _ _ _ _ ((BH.sub (c':=m.toNat-(HS.getD 0).toNat) hr rfl hl (l:=(HS.getD 0).toNat) (m:=m.toNat) (by omega) (by omega) (by omega) _ ?_).up _) (fun c hc=>hl c (EB (IB hc))) ⟨_,by rw[CB]⟩⟩;split
        ·rename_i e;exact .inr ⟨e,rfl⟩
        ·exact .inl rfl
       split at hk
       ·rename_i hd;obtain⟨⟨h1,h2,rfl,h3⟩,hl,hk⟩:=hk;have CP:=EZ (P:=P) (w:=w) hT hs Eh a es.length cap HS (some m) (some m) (.inr (by simp)) h1 h2 (by simp) (by simp only[Cv];omega);simp only[Cv]at CP
        obtain⟨g',k1,k2,k3⟩:=N6 hI (sz:=(cx.T e).size) (n:=m.toNat-(HS.getD 0).toNat) hd (es:=(es.take m.toNat).drop (HS.getD 0).toNat) (fun c hc=>hl c (EB (IB hc))) (by rw[Cu,AC];omega)
         (BH.sub (c':=m.toNat-(HS.getD 0).toNat) hr rfl hl (l:=(HS.getD 0).toNat) (m:=m.toNat) (by omega) (by omega) (by omega) (if m.toNat=(HS.getD 0).toNat then a else a.map (·.add ((HS.getD 0).toNat*(cx.T e).size))) (by
          split
          ·rename_i e;exact .inr ⟨e,rfl⟩
          ·exact .inl rfl))
        exact⟨_,w,g',_,_,CP,hk,k1,k2,k3⟩
       ·exact hk.elim
      ·exact hk.elim
    ·obtain⟨⟨h1,h2,h3⟩,h4,hk⟩:=hk;obtain rfl:=hx.v_eq;have CP:=EZ (P:=P) (w:=w) hT hs Eh none 0 0 HS LR mO h4 (by omega) (by simp only[IP]at *;omega) (by simp only[IP]at *;omega) (by simp only[IP]at *;omega);refine BK.does hI (BK.val (x:=.slice none 0 0) ?_ hk);rw[CP];simp only[h1,IP,h2,h3];simp
    ·rename_i r n;split at hk
     ·rename_i sz es e0;split at hk
      ·rename_i Rh;obtain rfl:=AM Rh;obtain⟨⟨h1,h2,h3,h4,h5⟩,hk⟩:=hk;have ho:=hI.objs r;rw[e0]at ho;obtain⟨t1,l1,al,a3⟩:=ho;have hl:(h r).live:=by rw[e0];trivial
       have rX:mO=none∨LR≠none:=h5.imp id (fun q=>q.2);cases hx with
       |msl _ _ _ a cap hu ht' hn ha LN =>
        have hv:=LN (h1.trans l1.symm);subst h1;have kO:∀c:Nat,es.length≤c→LR.getD es.length≤mO.getD c∧mO.getD c≤c:=fun c hc=>by
         rcases h5 with h5 | ⟨h5,DF⟩
         ·rw[h5];simp only[D6];omega
         ·obtain⟨m,hm⟩:=Option.ne_none_iff_exists'.1 DF;rw[h5,hm];rw[hm]at h3 h4;simp only[Cv]at h3 h4⊢;omega
        rcases a3 with ⟨rfl,q2,q3⟩ | ⟨b,K8,E,vs,q1,q2,q3,q4,q5,q6,q7⟩
        ·rw[q2]at hv;cases hv;have CP:=EZ (P:=P) (w:=w) hT hs Eh none 0 0 HS LR mO rX h2 h3 (kO 0 (by simp)).1 (kO 0 (by simp)).2
         obtain⟨k1,k2⟩:=hI.upd r .dead (g.ρ r) (g.ln r) (g.tk r) (g.own r) g.S w none ⟨rfl,rfl,rfl,Al _⟩ (fun _ _ _=>rfl) (fun b e=>by cases e) (fun _ _ h=>h) (fun _ _ h=>.inl h) (fun b o e=>by cases e) (fun b hh _=>by cases hh) (by simp)
          (fun _=>⟨rfl,Al _,fun _=>rfl,fun _=>rfl⟩) (fun _ _=>trivial)
         refine⟨_,w,_,_,_,CP,hk,k1,k2,?_⟩;have z1:((HS.getD 0).toNat)=0:=by simp only[AJ,IP]at h3 h4;omega
         have z2:((LR.getD (([]:List (List AV)).length:Int)).toNat)=0:=by simp only[AJ,IP]at h3 h4⊢;omega
         simp only[List.take_nil,List.drop_nil];have z3:((LR.getD ((0:Nat):Int)).toNat)=0:=z2;rw[z1,z3];exact .snil _ _ _
        ·rw[q1]at hv;cases hv;have CP:=EZ (P:=P) (w:=w) hT hs Eh (some ⟨b,0,none⟩) es.length cap HS LR mO rX h2 h3 (kO _ q3).1 (kO _ q3).2;have cB:=(hI.loc r b hl q2).1
         obtain⟨k1,k2⟩:=hI.upd r .dead (g.ρ r) (g.ln r) (g.tk r) (g.own r) (g.more b (es.length*(cx.T e).size)) w none ⟨rfl,rfl,rfl,Al _⟩ (fun _ _ _=>rfl) (fun b e=>by cases e) (fun _ _ h=>.inl h)
          (fun b' o hs=>hs.elim .inl (fun hs=>.inr ⟨by rw[hs.1];exact cB,.inr ⟨hl,by rw[hs.1];exact q2⟩⟩)) (fun b o e=>by cases e) (fun b hh _=>by cases hh) (by simp)
          (fun _=>⟨rfl,Al _,fun _=>rfl,fun _=>rfl⟩) (fun _ _=>trivial)
         have Ep:=BH.slice_row (g:=g.upd r (g.ρ r) (g.ln r) (g.tk r) (g.own r) (g.more b (es.length*(cx.T e).size))) (U:=Fy) q4 al q3 (q6.mono k2.keeps (fun _ h=>h) (fun _ h=>h.elim)) (fun o ho=>.inr ⟨rfl,ho⟩);have Abz:=kO _ q3;refine⟨_,w,_,_,_,CP,hk,k1,k2,(BH.sub (c':=(mO.getD cap).toNat-(HS.getD 0).toNat) Ep rfl al (l:=(HS.getD 0).toNat) (m:=(LR.getD es.length).toNat) (by omega) (by omega) (by omega) _ ?_).up _⟩;split
         ·rename_i e;exact .inr ⟨by omega,rfl⟩
         ·exact .inl rfl
      ·exact hk.elim
     ·exact hk.elim
    ·exact hk.elim
  ·exact hk.elim
 ·exact hk.elim
theorem UM{cx:Cx}(hT:Cz P cx.T){d:Option Nat}{ty:Nat}{n c:AV}{vn vc:Value}{K:HK}(hn:BH g w (AT h) n vn)(hc:BH g w (AT h) c vc)(hk:JC cx d h ty n c K) :
  On P w0 g0 h0 h g w (Instr.makeSlice ty vn vc) K:=by
 unfold JC at hk;split at hk
 ·rename_i e n c hs;obtain rfl:=hn.v_eq;obtain rfl:=hc.v_eq;split at hk
  ·rename_i RM;split at hk
   ·rename_i M9;have M9:=AM M9;split at hk
    ·exact hk.elim
    ·rename_i k Eh;obtain⟨⟨h1,h2,h3,h4⟩,hk⟩:=hk;obtain⟨i,z,i1,i2,i3,i4,i5⟩:=HG hT Eh;have oO:(cx.T e).zc≠[]:=fun e0=>by rw[e0]at M9;rw[Eh]at M9;cases M9
     have wn:IntKind.i64.wrap n=n:=M4 ⟨by omega,by omega⟩;have wc:IntKind.i64.wrap c=c:=M4 ⟨by omega,by omega⟩;have F6:∀l:List AV,(∀a∈l,one a=true)→Hb l=true:=by
      intro l
      induction l with
      |nil=>intro _;rfl
      |cons a l ih=>intro h;simp[Hb,h a (List.mem_cons_self ..),ih (fun b hb=>h b (List.mem_cons_of_mem _ hb))]
     have oJ:((Array.range (c.toNat*(cx.T e).size)).map fun k=>z.cells[k % z.cells.size]!).toList=(List.replicate c.toNat (cx.T e).zc).flatten:=by
      rw[H1 c.toNat _ oO,M9,i5];have e6:z.cells.size=(cx.T e).size:=by rw[←M9,i5];simp
      simp[e6,Array.getElem!_eq_getD]
     have hzs:(cx.T e).zc.length=(cx.T e).size:=M9;have ui:∀c'∈List.replicate c.toNat (cx.T e).zc,c'.length=(cx.T e).size:=fun c' hc=>by rw[Ce hc];exact M9
     have wZ : ∀c'∈List.replicate n.toNat ((cx.T e).zc.map AV.v),c'.length=(cx.T e).size:=fun c' hc=>by rw[Ce hc,Bb];exact M9
     have w6:∀c'∈List.replicate n.toNat (cx.T e).zc,c'.length=(cx.T e).size:=fun c' hc=>by rw[Ce hc];exact M9
     obtain⟨g',av,h',q1,q2,q3,q4⟩:=J7 hI hk (vs:=(Array.range (c.toNat*(cx.T e).size)).map fun k=>z.cells[k % z.cells.size]!) (cap:=c.toNat) e wZ (by rw[DO];omega) (by simp) (by
      rw[oJ,DO];have e1:(List.replicate n.toNat ((cx.T e).zc.map AV.v)).flatten=(List.replicate n.toNat (cx.T e).zc).flatten.map AV.v:=by
       rw[Sv,List.map_replicate]
      have e2:(List.replicate c.toNat (cx.T e).zc).flatten.take (n.toNat*(cx.T e).size)=(List.replicate n.toNat (cx.T e).zc).flatten:=by
       obtain⟨m,hm⟩:∃m,c.toNat=n.toNat+m:=⟨c.toNat-n.toNat,by omega⟩;rw[hm,←List.replicate_append_replicate,CL,HF (by rw[Dp w6,DO])]
      rw[e1,e2];refine CI.vals (F6 _ (fun a ha=>?_));obtain⟨x,hx,rfl⟩:=Am.1 ha;obtain⟨l,hl,hx⟩:=EA.1 hx;rw[Ce hl]at hx;exact MC RM _ (Am.2 ⟨x,hx,rfl⟩)) w ⟨rfl,rfl,rfl,rfl⟩
     rw[DO]at q4;refine⟨_,_,g',av,h',?_,q1,q2,q3,q4⟩;have wG:¬((cx.T e).bytes*c>2 ^ 48):=by rw[Int.mul_comm];omega
     have gz:((decide (c<0)||decide (((cx.T e).bytes:Int)*c>2 ^ 48))||decide (n<0)||decide (n>c))=false:=by
      simp only[Bool.or_eq_false_iff,J0];exact⟨⟨⟨by omega,wG⟩,by omega⟩,by omega⟩
     simp only[Instr.makeSlice,Sem.run_bind,run_underlying (hT.slice hs),Result.andThen_ok,asInt,asIntOf,Sem.run_pure,typeInfo,run_program,i1,i4,wn,wc,gz,Du,GF,run_askRoom,hT.size1 w Eh]
     by_cases hz:c.toNat*(k+1)=0
     ·have og:c.toNat=0:=by
       rcases Nat.mul_eq_zero.1 hz with h | h
       ·exact h
       ·cases h
      rw[og];simp only[Kx,Rj];simp only[show Array.range 0=#[]from rfl,Array.map_empty];simp[newRow]
     ·simp only[Aj hz,Sem.run_bind,zeroValue,typeInfo,run_program,i1,i2,Result.andThen_ok,Sem.run_pure];rw[Eh];simp[newRow]
   ·exact hk.elim
  ·exact hk.elim
 ·exact hk.elim
end
end Go.Eng
