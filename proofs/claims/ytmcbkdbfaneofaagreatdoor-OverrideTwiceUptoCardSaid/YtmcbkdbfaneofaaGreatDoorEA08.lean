/- Lemmas for the claims of this seat, without a condition: part 8 (EngR, EngS). -/
import Derived.Test.YtmcbkdbfaneofaaGreatDoorEA07
namespace Go.Eng
theorem CG.app{g:Gh}{w:World}{U:Nat→Prop}{Ud bs:List AV}{xs ys:List Value}(h:CG g w U Ud xs)(k:CG g w U bs ys):CG g w U (Ud++bs) (xs++ys):=by
 refine⟨by simp[h.1,k.1],fun x hx=>(A7.1 hx).elim (h.2.1 x) (k.2.1 x),fun i av x h1 h2=>?_⟩
 by_cases hi:i<Ud.length
 ·rw[AY hi]at h1;rw[AY (by rw[h.1];exact hi)]at h2;exact h.2.2 i av x h1 h2
 ·rw[A5 (by omega)]at h1;rw[A5 (by rw[h.1];omega),h.1]at h2;exact k.2.2 _ av x h1 h2
section
variable {P:Program}{w0:World}{g0:Gh}{h0 h:Nat→HO}{g:Gh}{w:World}(hI:DJ w0 g0 h0 h g w)
include hI
omit hI in
theorem Qg(t ty e:TypeId)(i:TypeInfo)(ht:P.underlying t=some (.slice e))(hi:P.info? e=some i){E:TypeId}
  (g NZ ZP:Nat) (Fy:Array Value) (hg:w.heap[g]?=some (.cells Fy E (0,0)))
  (a:Addr) (m c:Nat) (news:List Value) (hl:news.length=m*i.size) (IM:∀j u,news[j]?=some u→w.cell? (a.add j)=some u) (h1:∀u∈news,u.oneCell'=true)
  (JL:NZ+m≤ZP) (Zg:NZ*i.size+news.length≤Fy.size) :
  (Builtin.append_ #[t,t] ty #[.slice (some ⟨g,0,none⟩) NZ ZP,.slice (some a) m c]).run P w =
   .ok (.slice (some ⟨g,0,none⟩) (NZ+m) ZP) (w.setRow g (Fy.toList.take (NZ*i.size)++news++Fy.toList.drop (NZ*i.size+news.length)).toArray):=by
 have hf:=run_firstCells_some (P:=P) w i.size m a m c news hl IM;have Jg:=run_storeCells_at P g (NZ*i.size) E news 0 Fy w hg (by simpa using Zg) h1;simp only[DA]at Jg;simp[Builtin.append_,run_underlying ht,sizeOf,typeInfo,hi,Builtin.lenOf,JL,hf,Addr.add_lit,Jg]
omit hI in
theorem TP(t ty e:TypeId)(i:TypeInfo)(ht:P.underlying t=some (.slice e))(hi:P.info? e=some i){E:TypeId}
  (g off NZ ZP:Nat) (Fy:Array Value) (hg:w.heap[g]?=some (.cells Fy E (0,0)))
  (a:Addr) (m c:Nat) (news:List Value) (hl:news.length=m*i.size) (IM:∀j u,news[j]?=some u→w.cell? (a.add j)=some u) (h1:∀u∈news,u.oneCell'=true)
  (JL:NZ+m≤ZP) (Zg:off+NZ*i.size+news.length≤Fy.size) :
  (Builtin.append_ #[t,t] ty #[.slice (some ⟨g,off,none⟩) NZ ZP,.slice (some a) m c]).run P w =
   .ok (.slice (some ⟨g,off,none⟩) (NZ+m) ZP) (w.setRow g (Fy.toList.take (off+NZ*i.size)++news++Fy.toList.drop (off+NZ*i.size+news.length)).toArray):=by
 have hf:=run_firstCells_some (P:=P) w i.size m a m c news hl IM;have Jg:=run_storeCells_at P g (off+NZ*i.size) E news 0 Fy w hg (by simpa using Zg) h1;simp only[DA]at Jg;simp[Builtin.append_,run_underlying ht,sizeOf,typeInfo,hi,Builtin.lenOf,JL,hf,Addr.add_lit,Jg]
omit hI in
theorem lf{b off n m sz cap:Nat}{Fy:Array Value}{E:TypeId}{olds news:List Value}(hb:w.heap[b]?=some (.cells Fy E (0,0)))(XE:Fy.size=off+cap*sz)(hn:n≤cap)(hm:n+m≤cap)(hnl:news.length=m*sz)(hol:olds.length=n*sz)
  (Gz:∀j u,olds[j]?=some u→w.cell? ⟨b,off+j,none⟩=some u) :
  (Fy.toList.take (off+n*sz)++news++Fy.toList.drop (off+n*sz+news.length)).length=off+cap*sz ∧
  ((Fy.toList.take (off+n*sz)++news++Fy.toList.drop (off+n*sz+news.length)).drop off).take ((n+m)*sz)=olds++news ∧
  ∀o,o<off+n*sz→(Fy.toList.take (off+n*sz)++news++Fy.toList.drop (off+n*sz+news.length)).toArray[o]?=Fy[o]?:=by
 have hcl:Fy.toList.length=off+cap*sz:=by rw[B4];exact XE
 have SU:(n+m)*sz≤cap*sz:=Bh _ hm;have fR:n*sz≤cap*sz:=Bh _ hn;rw[E8]at SU;have Kv:(Fy.toList.take (off+n*sz)).drop off=olds:=by
  apply CC;intro j
  by_cases hj:j<n*sz
  ·rw[BR,BG (by omega)];have hx:olds[j]?=some olds[j]:=Az (by omega)
   have:=Gz j _ hx
   rw[FB hb]at this;rw[A3,this,hx]
  ·rw[A6 (by rw[As,AJ];omega),A6 (by omega)]
 have nK:(Fy.toList.take (off+n*sz)).length=off+n*sz:=by rw[AJ];omega
 refine⟨?_,?_,fun o ho=>?_⟩
 ·rw[Ad,Ad,nK,As,hcl,hnl];omega
 ·rw[AP,List.drop_append_of_le_length (by rw[nK];omega),Kv,←AP,Hl (by rw[Ad,hol,hnl,E8])]
 ·rw[FV,AP,AY (by rw[nK];exact ho),BG ho,A3]
omit hI in
theorem iv{b n m sz cap:Nat}{Fy:Array Value}{E:TypeId}{olds news:List Value}(hb:w.heap[b]?=some (.cells Fy E (0,0)))(XE:Fy.size=cap*sz)(hn:n≤cap)(hm:n+m≤cap)(hnl:news.length=m*sz)(hol:olds.length=n*sz)
  (Gz:∀j u,olds[j]?=some u→w.cell? ⟨b,j,none⟩=some u) :
  (Fy.toList.take (n*sz)++news++Fy.toList.drop (n*sz+news.length)).length=cap*sz ∧
  (Fy.toList.take (n*sz)++news++Fy.toList.drop (n*sz+news.length)).take ((n+m)*sz)=olds++news ∧
  ∀o,o<n*sz→(Fy.toList.take (n*sz)++news++Fy.toList.drop (n*sz+news.length)).toArray[o]?=Fy[o]?:=by
 have hcl:Fy.toList.length=cap*sz:=by rw[B4];exact XE
 have SU:(n+m)*sz≤cap*sz:=Bh _ hm;have fR:n*sz≤cap*sz:=Bh _ hn;rw[E8]at SU;have Kv:Fy.toList.take (n*sz)=olds:=by
  apply CC;intro j
  by_cases hj:j<n*sz
  ·rw[BG hj];have hx:olds[j]?=some olds[j]:=Az (by omega)
   have:=Gz j _ hx
   rw[FB hb]at this;rw[A3,this,hx]
  ·rw[A6 (by rw[AJ];omega),A6 (by omega)]
 have nK:(Fy.toList.take (n*sz)).length=n*sz:=by rw[AJ];omega
 refine⟨?_,?_,fun o ho=>?_⟩
 ·rw[Ad,Ad,nK,As,hcl,hnl];omega
 ·rw[Kv,Hl (by rw[Ad,hol,hnl,E8])]
 ·rw[FV,AP,AY (by rw[nK];exact ho),BG ho,A3]
theorem UG{r n sz:Nat}{es:List (List AV)}{x:Value}(he:h r=.arr sz es)(hx:BH g w (AR h) (.msl r n) x)(hn:n=es.length) :
  x=g.ρ r∧∃news,Oa w x es.length sz news∧CG g w Fp es.flatten news:=by
 have ho:=hI.objs r;rw[he]at ho;obtain⟨t1,l1,al,a1⟩:=ho;cases hx with
 |msl _ _ _ a cap hu ht XJ ha LG =>
  have e:=LG (hn.trans l1.symm);refine⟨e,?_⟩;rw[e];rcases a1 with ⟨rfl,e2,e3⟩ | ⟨b,LF,E,vs,e1,e2,e3,e4,e5,e6,e7⟩
  ·exact⟨[],⟨by simp,by simp,none,0,e2,.inl rfl⟩,by simp,by simp,fun i av x h1 h2=>by simp at h2⟩
  ·have XE:vs.toList.length=LF*sz:=by rw[B4];exact e5
   have Hi:es.length*sz≤vs.toList.length:=by rw[XE];exact Bh _ e3
   refine⟨vs.toList.take (es.length*sz),⟨by rw[AJ,Nat.min_eq_left Hi],e6.2.1,_,_,e1,.inr ⟨_,rfl,fun j u hj=>?_⟩⟩,e6⟩;rw[Addr.add_lit,Bi,FB e4];have DI:=(At.1 hj).1;rw[AJ]at DI;rw[BG (by omega),A3]at hj;exact hj
theorem bU{sz:Nat}{x:AV}{vx:Value}{K:List (List AV)→Prop}(hx:BH g w (AR h) x vx)(hk:KX h x K) :
  ∃es,K es∧((∀c∈es,c.length=sz)→∃news,Oa w vx es.length sz news∧CG g w Fp es.flatten news):=by
 unfold KX at hk;split at hk
 ·exact⟨_,hk,fun hl=>Oa.of_rep hx.slice_none hl⟩
 ·obtain rfl:=hx.v_eq;exact⟨[],hk,fun _=>⟨[],⟨by simp,by simp,none,0,rfl,.inl rfl⟩,by simp,by simp,fun i av x h1 h2=>by simp at h2⟩⟩
 ·rename_i r n;split at hk
  ·rename_i Gj es e;obtain⟨hn,hk⟩:=hk;refine⟨es,hk,fun hl=>?_⟩;obtain⟨_,news,n1,n2⟩:=UG hI e hx hn;refine⟨news,?_,n2⟩
   have:news.length=es.length*sz:=by rw[n2.1,Df hl]
   exact⟨this,n1.2.1,n1.2.2⟩
  ·exact hk.elim
 ·exact hk.elim
theorem cP{cx:Cx}{d:Option Nat}{sz:Nat}{K:HK}(hk:Ew cx d h sz [] K) :
  ∃g' av h',K av h'∧DJ w0 g0 h0 h' g' w∧Le h g w h' g' w∧BH g' w (AR h') av (.slice none 0 0):=by
 have base:∀(d:Nat) (o' : HO),h d=.free→o'≠.free→(∀g' : Gh,g'.ρ d=.slice none 0 0→g'.ln d=0→g'.tk d=true→g'.own d=none→Eg g' w (AR (AW h d o')) d o') →
   DJ w0 g0 h0 (AW h d o') (g.upd d (.slice none 0 0) 0 true none g.S) w∧Le h g w (AW h d o') (g.upd d (.slice none 0 0) 0 true none g.S) w:=by
  intro d o' hd DC Jf;refine hI.upd d o' _ _ _ _ _ w none ⟨rfl,rfl,rfl,Aj _⟩ (fun _ _ _=>rfl) (fun b e=>by cases e) (fun _ _ h=>h) (fun _ _ h=>.inl h) (fun b o e=>by cases e) (fun b _ e=>by cases e) DC (fun hu=>absurd hd hu) (fun _ _=>?_);obtain⟨u1,u2,u3,u4⟩:=Bz g d (.slice none 0 0) 0 true none g.S;exact Jf _ u1 u2 u3 u4
 unfold Ew at hk;split at hk
 ·exact hk.elim
 ·rename_i d;generalize Ks cx d=d1 at hk;split at hk
  ·rename_i hd;split at hk
   ·obtain⟨k1,k2⟩:=base d1 (.arr sz []) hd (by simp) (fun g' u1 u2 u3 u4=>⟨u3,u2,by simp,.inl ⟨rfl,u1,u4⟩⟩);exact⟨_,_,_,hk,k1,k2,.msl _ d1 0 none 0 (by unfold AR;rw[Bd];simp) (by simp[Gh.upd]) (AO _) (.inl rfl) (fun _=>by simp[Gh.upd])⟩
   ·obtain⟨k1,k2⟩:=base d1 (.tok sz 0) hd (by simp) (fun g' u1 u2 u3 u4=>⟨u3,u2,none,0,u1,.inl ⟨rfl,u4⟩⟩);exact⟨_,_,_,hk,k1,k2,.tok _ d1 sz [] _ (.snil _ _ _) (by simp) (by unfold AR;rw[Bd];simp) (by simp[Gh.upd]) (AO _) (fun _=>by simp[Gh.upd])⟩
  ·exact hk.elim
theorem YJ{cx:Cx}(hT:Cz P cx.T){d:Option Nat}{t ty:Nat}{s x:AV}{vs vx:Value}{K:HK}(hs:BH g w (AR h) s vs)(hx:BH g w (AR h) x vx)(hk:Ib cx d h t s x K) :
  N5 P w0 g0 h0 h g w (Builtin.append_ #[t,t] ty #[vs,vx]) K:=by
 unfold Ib at hk;split at hk
 ·rename_i e ht;split at hk
  ·exact hk.elim
  ·rename_i hz;have hz:=AL hz;split at hk
   ·exact hk.elim
   ·rename_i k EF;have h5:=bU hI (sz:=(cx.T e).size) hx hk
    clear hk
    obtain⟨es2,hk,h6⟩:=h5;split at hk
    ·obtain⟨⟨q1,q2,q3⟩,hk⟩:=hk;obtain rfl:=hs.v_eq;obtain⟨news,n1,n2⟩:=h6 (FL q1);obtain⟨m1,m2,a,c,rfl,m4⟩:=n1
     by_cases hm:es2.length=0
     ·obtain rfl:=AB hm;obtain⟨g',av,h',k1,k2,k3,k4⟩:=cP hI hk;exact⟨_,w,g',av,h',IG hT w ht EF none a 0 0 c (Aj _),k1,k2,k3,k4⟩
     ·obtain⟨nc,rest,r1,r2,r3⟩:=HI hT w (ty:=ty) ht EF hz (olds:=[]) (a:=none) (n:=0) (cap:=0) ⟨by simp,by simp,none,0,rfl,.inl rfl⟩ rfl (fun _=>rfl) ⟨m1,m2,a,c,rfl,m4⟩ rfl (by omega) (by omega) (by rw[Bi];exact q2) (by omega);obtain⟨g',av,h',k1,k2,k3,k4⟩:=JO hI hk (vs:=([]++news++rest).toArray) (cap:=nc) e (FL q1) (by omega) (by simpa using r3) (by
       rw[Ef,show(news++rest).toArray.toList=news++rest from rfl,Hl m1];exact n2) w.drew ⟨rfl,rfl,rfl,rfl⟩
      rw[Bi]at r1;exact⟨_,_,g',av,h',r1,k1,k2,k3,k4⟩
    ·rename_i Gj es;split at hk
     ·rename_i QO;obtain QO:=AL QO;obtain⟨⟨q1,q2,q3,q4⟩,hk⟩:=hk;obtain⟨news,n1,n2⟩:=h6 (FL q1);obtain⟨m1,m2,a2,c2,rfl,m4⟩:=n1;cases hs with
      |full _ _ _ _ hr WN LG =>
       obtain⟨a,rfl⟩:=LG;have FR:∀c∈es++es2,c.length=(cx.T e).size:=fun c hc=>(A7.1 hc).elim (fun h=>(WN c h).trans QO) (FL q1 c);obtain⟨olds,o1,o2⟩:=Oa.of_rep hr (sz:=(cx.T e).size) (fun c hc=>(WN c hc).trans QO);have WO:=o2.app n2;rw[←CK]at WO;have ha:a=none→es.length=0:=by
        rintro rfl
        obtain⟨p1,p2,a',c',p3,p4⟩:=o1;cases p3;rcases p4 with h | ⟨b',h,_⟩
        ·exact h
        ·cases h
       obtain⟨nc,rest,r1,r2,r3⟩:=HI hT w (ty:=ty) ht EF hz o1 rfl ha ⟨m1,m2,a2,c2,rfl,m4⟩ rfl q2 (by omega) q3 q4;obtain⟨g',av,h',k1,k2,k3,k4⟩:=JO hI hk (vs:=(olds++news++rest).toArray) (cap:=nc) e FR (by rw[Ad];exact r2) (by rw[Fm];exact r3) (by
        rw[show(olds++news++rest).toArray.toList=olds++news++rest from rfl,Hl (by rw[Ad,Ad,o1.1,m1,E8])];exact WO) w.drew ⟨rfl,rfl,rfl,rfl⟩
       rw[Ad]at k4;exact⟨_,_,g',av,h',r1,k1,k2,k3,k4⟩
     ·exact hk.elim
    ·rename_i r Gj es;have ho:=hI.objs r;split at hk
     ·rename_i sz n e0;rw[e0]at ho;split at hk
      ·rename_i QO ve;obtain rfl:=AL ve;obtain QO:=AL QO;obtain⟨⟨q1,q2,q3,q4⟩,hk⟩:=hk;rw[QO]at q1;obtain⟨news,n1,n2⟩:=h6 (FL q1);obtain⟨m1,m2,a2,c2,rfl,m4⟩:=n1;obtain⟨t1,l1,a,cap,a1,a3⟩:=ho;have hl:(h r).live:=by rw[e0];trivial
       have FR:∀c∈es++es2,es.length=n→True:=fun _ _ _=>trivial;cases hs with
       |tok _ _ _ _ _ hr WN hu ht' hn LG =>
        have hv:=LG (q2.trans l1.symm);rw[a1]at hv;subst hv;subst q2;have FR:∀c∈es++es2,c.length=Gj:=fun c hc=>(A7.1 hc).elim (WN c) (fun h=>(FL q1 c h).trans QO.symm);obtain⟨olds,o1,o2⟩:=Oa.of_rep hr WN;have WO:=o2.app n2;rw[←CK]at WO;have ay:es.length≤cap:=by rcases a3 with ⟨e1,_⟩ | ⟨e1,_⟩<;>omega
        by_cases hm:es2.length=0
        ·obtain rfl:=AB hm;have Jf:=hI.objs r;rw[e0]at Jf
         obtain⟨k1,k2⟩:=hI.upd r (.tok Gj (es.length+([]:List (List AV)).length)) (g.ρ r) (g.ln r) (g.tk r) (g.own r) g.S w none ⟨rfl,rfl,rfl,Aj _⟩ (fun _ _ _=>rfl) (fun b e=>by cases e) (fun _ _ h=>h) (fun _ _ h=>.inl h) (fun b o e=>by cases e)
          (fun b _ e=>⟨(hI.loc r b hl e).1,.inl ⟨hl,e⟩⟩) (by simp) (fun _=>⟨rfl,Aj _,fun _=>rfl,fun _=>rfl⟩) (fun hg HQ=>by
           obtain⟨u1,u2,u3,u4⟩:=Bz g r (g.ρ r) (g.ln r) (g.tk r) (g.own r) g.S;rw[AC,DA];exact Jf.same HQ (fun i hi=>DP (by simp) i hi) hg u1 u2 u3 u4 (fun b _ _=>⟨rfl,fun _ h=>h⟩))
         refine⟨_,w,_,_,_,IG hT w ht EF a a2 es.length cap c2 ay,hk,k1,k2,?_⟩;rw[B1];exact(BH.tok (AR h) r Gj es _ hr WN hu ht' hn LG).le k2
        ·by_cases JL:es.length+es2.length≤cap
         ·rcases a3 with ⟨e1,_⟩ | ⟨e1,b,E,Fy,off,rfl,e3,e4,e5,e6⟩
          ·omega
          ·rcases m4 with h | ⟨ba,rfl,IM⟩
           ·omega
           ·obtain⟨i,z,i1,i2,i3,i4,i5⟩:=Ho hT EF;have SU:(es.length+es2.length)*Gj≤cap*Gj:=Bh _ JL;have lR:news.length=es2.length*Gj:=by rw[QO];exact m1
            have Zh:i.size=Gj:=i3.trans QO.symm;have CO:=TP (P:=P) t ty e i (hT.slice ht) i1 b off es.length cap Fy e4 ba es2.length c2 news (by rw[Zh];exact lR) IM m2 JL (by rw[Zh,lR,e5];rw[E8]at SU;omega);rw[Zh]at CO;have Gz:∀j u,olds[j]?=some u→w.cell? ⟨b,off+j,none⟩=some u:=by
             obtain⟨p1,p2,a',c',p3,p4⟩:=o1;cases p3;intro j u hj;rcases p4 with h | ⟨b',h,h'⟩
             ·rw[h,Kk]at p1;rw[AB p1]at hj;simp at hj
             ·cases h
              have:=h' j u hj
              rwa [Addr.add_lit]at this
            obtain⟨p1,p2,p3⟩:=lf e4 e5 e1 JL lR o1.1 Gz;generalize hnewd:Fy.toList.take (off+es.length*Gj)++news++Fy.toList.drop (off+es.length*Gj+news.length)=new at CO p1 p2 p3;have EN:=setRow_heap w b Fy new.toArray E (0,0) e4;have cg:=(hI.loc r b hl e3).1
            obtain⟨k1,k2⟩:=hI.upd r (.tok Gj (es.length+es2.length)) (.slice (some ⟨b,off,none⟩) (es.length+es2.length) cap) (es.length+es2.length) (g.tk r) (g.own r) (g.more b (off+(es.length+es2.length)*Gj)) (w.setRow b new.toArray) (some b)
             ⟨rfl,rfl,rfl,by rw[size_setRow];exact Aj _⟩ (fun k _ DC=>setRow_other w b k _ (fun e=>DC (by rw[e]))) (fun b' e=>by cases e;exact⟨hl,e3⟩) (fun _ _ h=>.inl h)
             (fun b' o hs=>hs.elim .inl (fun hs=>.inr ⟨by rw[size_setRow,hs.1];exact cg,.inr ⟨hl,by rw[hs.1];exact e3⟩⟩))
             (fun b' o e hs=>by
              cases e
              refine⟨?_,fun es ck he=>by rw[e4]at he;cases he⟩;rw[FB EN,FB e4];exact p3 o (e6 o hs)) (fun b' _ e=>by
              rw[e3]at e;cases e;exact⟨by rw[size_setRow];exact cg,.inl ⟨hl,e3⟩⟩) (by simp) (fun _=>⟨rfl,by omega,fun e=>(by rw[t1]at e;cases e),fun e=>by omega⟩) (fun hg HQ=>by
              obtain⟨u1,u2,u3,u4⟩:=Bz g r (.slice (some ⟨b,off,none⟩) (es.length+es2.length) cap) (es.length+es2.length) (g.tk r) (g.own r) (g.more b (off+(es.length+es2.length)*Gj));exact⟨u3.trans t1,u2,_,cap,u1,  .inr ⟨JL,b,E,_,off,rfl,u4.trans e3,EN,by rw[Fm];exact p1,fun o ho=>by
               rcases ho with ho | ⟨_,ho⟩
               ·have h1:=e6 o ho;have h2:es.length*Gj≤(es.length+es2.length)*Gj:=Bh _ (by omega);omega
               ·exact ho⟩⟩)
            have D4:=BH.slice_off (g:=g.upd r (.slice (some ⟨b,off,none⟩) (es.length+es2.length) cap) (es.length+es2.length) (g.tk r) (g.own r) (g.more b (off+(es.length+es2.length)*Gj))) (U:=AR (AW h r (.tok Gj (es.length+es2.length)))) (cap:=cap) (es:=es++es2) EN FR (by rw[Ad];exact JL) (by
             rw[Ad,show new.toArray.toList=new from rfl,p2];exact WO.mono k2.keeps (fun _ h=>h) (fun _ h=>h.elim)) (fun o ho=>.inr ⟨rfl,by rw[Ad]at ho;exact Nat.add_lt_add_left ho off⟩)
            rw[Ad]at D4;exact⟨_,_,_,_,_,CO,hk,k1,k2,.tok _ r Gj _ _ D4 FR (by unfold AR;rw[Bd];simp) (by simp[Gh.upd,t1]) (by simp[Gh.upd]) (fun _=>by simp[Gh.upd])⟩
         ·have fN:cap<es.length+es2.length:=by omega
          have ha:a=none→cap=0:=by
           rintro rfl
           rcases a3 with ⟨e1,_⟩ | ⟨_,b,_,_,_,e2,_⟩
           ·obtain⟨p1,p2,a',c',p3,p4⟩:=o1;cases p3;rcases p4 with h | ⟨b',h,_⟩
            ·omega
            ·cases h
           ·cases e2
          obtain⟨nc,rest,r1,r2,r3⟩:=HI hT w (ty:=ty) ht EF hz (by rw[←QO];exact o1) rfl ha ⟨m1,m2,a2,c2,rfl,m4⟩ rfl (by omega) fN q3 q4;have EN:=Hy w.drew (.cells (olds++news++rest).toArray e (0,0)) (b:=w.heap.size) rfl
          obtain⟨k1,k2⟩:=hI.upd r (.tok Gj (es.length+es2.length)) (.slice (some ⟨w.heap.size,0,none⟩) (es.length+es2.length) nc) (es.length+es2.length) (g.tk r) (some w.heap.size) (g.more w.heap.size ((es.length+es2.length)*Gj))
           (w.drew.alloc (.cells (olds++news++rest).toArray e (0,0))) none
           ⟨rfl,rfl,rfl,by rw[World.size_alloc];exact Nat.le_succ _⟩ (fun k J0 _=>by rw[heap_alloc_old _ _ (by exact J0)];rfl) (fun b' e=>by cases e) (fun _ _ h=>.inl h)
           (fun b' o hs=>hs.elim .inl (fun hs=>.inr ⟨by rw[World.size_alloc,hs.1];exact GL _,.inl (by rw[hs.1];exact Aj _)⟩))
           (fun b' o e=>by cases e) (fun b' _ e=>by cases e;exact⟨by rw[World.size_alloc];exact GL _,.inr (Aj _)⟩) (by simp) (fun _=>⟨rfl,by omega,fun e=>(by rw[t1]at e;cases e),fun e=>by omega⟩) (fun hg HQ=>by
            obtain⟨u1,u2,u3,u4⟩:=Bz g r (.slice (some ⟨w.heap.size,0,none⟩) (es.length+es2.length) nc) (es.length+es2.length) (g.tk r) (some w.heap.size) (g.more w.heap.size ((es.length+es2.length)*Gj));exact⟨u3.trans t1,u2,_,nc,u1,.inr ⟨r2,w.heap.size,e,_,0,rfl,u4,EN,by rw[Fm,QO,Bi];exact r3,fun o ho=>by
             rcases ho with ho | ⟨_,ho⟩
             ·have:=hI.slt _ _ ho;omega
             ·omega⟩⟩)
          have D4:=BH.slice_row (g:=g.upd r (.slice (some ⟨w.heap.size,0,none⟩) (es.length+es2.length) nc) (es.length+es2.length) (g.tk r) (some w.heap.size) (g.more w.heap.size ((es.length+es2.length)*Gj))) (U:=AR (AW h r (.tok Gj (es.length+es2.length)))) (cap:=nc) (es:=es++es2) EN FR (by rw[Ad];exact r2) (by
           rw[Ad,show(olds++news++rest).toArray.toList=olds++news++rest from rfl,Hl (by rw[Ad,o1.1,m1,QO,E8])];exact WO.mono k2.keeps (fun _ h=>h) (fun _ h=>h.elim)) (fun o ho=>.inr ⟨rfl,by rw[Ad]at ho;exact ho⟩)
          rw[Ad]at D4;exact⟨_,_,_,_,_,r1,hk,k1,k2,.tok _ r Gj _ _ D4 FR (by unfold AR;rw[Bd];simp) (by simp[Gh.upd,t1]) (by simp[Gh.upd]) (fun _=>by simp[Gh.upd])⟩
      ·exact hk.elim
     ·exact hk.elim
    ·rename_i r n;have ho:=hI.objs r;split at hk
     ·rename_i sz es e0;split at hk
      ·rename_i QO;obtain QO:=AL QO;obtain⟨⟨q1,q2,q3,q4⟩,hk⟩:=hk;rw[QO]at q1;obtain⟨news,n1,n2⟩:=h6 (FL q1);obtain⟨m1,m2,a2,c2,rfl,m4⟩:=n1;obtain⟨hv,olds,o1,o2⟩:=UG hI e0 hs q2.symm;have Jf:=ho;rw[e0]at ho;obtain⟨t1,l1,al,a3⟩:=ho;have hl:(h r).live:=by rw[e0];trivial
       subst hv;have FR:∀c∈es++es2,c.length=sz:=fun c hc=>(A7.1 hc).elim (al c) (fun h=>(FL q1 c h).trans QO.symm);have WO:=o2.app n2;rw[←CK]at WO;obtain⟨a,cap,hρ,ay,ha⟩:∃a cap,g.ρ r=.slice a es.length cap∧es.length≤cap∧(a=none→cap=0):=by
        rcases a3 with ⟨rfl,e2,e3⟩ | ⟨b,cap,E,Fy,e1,e2,e3,e4,e5,e6,e7⟩
        ·exact⟨none,0,e2,Aj _,fun _=>rfl⟩
        ·exact⟨_,cap,e1,e3,fun e=>by cases e⟩
       by_cases hm:es2.length=0
       ·obtain rfl:=AB hm;rw[e0]at Jf
        obtain⟨k1,k2⟩:=hI.upd r (.arr sz (es++[])) (g.ρ r) (g.ln r) (g.tk r) (g.own r) g.S w none ⟨rfl,rfl,rfl,Aj _⟩ (fun _ _ _=>rfl) (fun b e=>by cases e) (fun _ _ h=>h) (fun _ _ h=>.inl h) (fun b o e=>by cases e)
         (fun b _ e=>⟨(hI.loc r b hl e).1,.inl ⟨hl,e⟩⟩) (by simp) (fun _=>⟨rfl,Aj _,fun _=>rfl,fun _=>rfl⟩) (fun hg HQ=>by
          obtain⟨u1,u2,u3,u4⟩:=Bz g r (g.ρ r) (g.ln r) (g.tk r) (g.own r) g.S;rw[B1];exact Jf.same HQ (fun i hi=>DP (by simp) i hi) hg u1 u2 u3 u4 (fun b _ _=>⟨rfl,fun _ h=>h⟩))
        refine⟨g.ρ r,w,_,_,_,?_,hk,k1,k2,?_⟩
        ·rw[hρ];exact IG hT w ht EF a a2 es.length cap c2 ay
        ·have:=hs.le k2
         rw[←q2]at this;exact this
       ·by_cases JL:es.length+es2.length≤cap
        ·rcases a3 with ⟨rfl,e2,e3⟩ | ⟨b,LF,E,Fy,e1,e2,e3,e4,e5,e6,e7⟩
         ·rw[e2]at hρ;cases hρ;omega
         ·rw[e1]at hρ;simp only[Value.slice.injEq,true_and]at hρ;obtain⟨rfl,rfl⟩:=hρ;rcases m4 with h | ⟨ba,rfl,IM⟩
          ·omega
          ·obtain⟨i,z,i1,i2,i3,i4,i5⟩:=Ho hT EF;have SU:(es.length+es2.length)*sz≤LF*sz:=Bh _ JL;have lR:news.length=es2.length*sz:=by rw[QO];exact m1
           have Zh:i.size=sz:=i3.trans QO.symm;have CO:=Qg (P:=P) t ty e i (hT.slice ht) i1 b es.length LF Fy e4 ba es2.length c2 news (by rw[Zh];exact lR) IM m2 JL (by rw[Zh,lR,←E8,e5];exact SU);rw[Zh]at CO;have Gz:∀j u,olds[j]?=some u→w.cell? ⟨b,j,none⟩=some u:=by
            obtain⟨p1,p2,a',c',p3,p4⟩:=o1;rw[e1]at p3;cases p3;intro j u hj;rcases p4 with h | ⟨b',h,h'⟩
            ·rw[h,Kk]at p1;rw[AB p1]at hj;simp at hj
            ·cases h
             have:=h' j u hj
             rwa [Addr.add_lit,Bi]at this
           obtain⟨p1,p2,p3⟩:=iv e4 e5 e3 JL lR o1.1 Gz;generalize hnewd:Fy.toList.take (es.length*sz)++news++Fy.toList.drop (es.length*sz+news.length)=new at CO p1 p2 p3;have EN:=setRow_heap w b Fy new.toArray E (0,0) e4;have cg:=(hI.loc r b hl e2).1
           obtain⟨k1,k2⟩:=hI.upd r (.arr sz (es++es2)) (.slice (some ⟨b,0,none⟩) (es.length+es2.length) LF) (es.length+es2.length) (g.tk r) (g.own r) g.S (w.setRow b new.toArray) (some b)
            ⟨rfl,rfl,rfl,by rw[size_setRow];exact Aj _⟩ (fun k _ DC=>setRow_other w b k _ (fun e=>DC (by rw[e]))) (fun b' e=>by cases e;exact⟨hl,e2⟩) (fun _ _ h=>h) (fun _ _ h=>.inl h)
            (fun b' o e hs=>by cases e;exact absurd hs (e7 o)) (fun b' _ e=>by
             rw[e2]at e;cases e;exact⟨by rw[size_setRow];exact cg,.inl ⟨hl,e2⟩⟩) (by simp) (fun _=>⟨rfl,by omega,fun e=>(by rw[t1]at e;cases e),fun e=>by omega⟩) (fun hg HQ=>by
             obtain⟨u1,u2,u3,u4⟩:=Bz g r (.slice (some ⟨b,0,none⟩) (es.length+es2.length) LF) (es.length+es2.length) (g.tk r) (g.own r) g.S;refine⟨u3.trans t1,by rw[u2,Ad],FR,.inr ⟨b,LF,E,_,by rw[u1,Ad],u4.trans e2,by rw[Ad];exact JL,EN,by rw[Fm];exact p1,?_,e7⟩⟩;rw[Ad,show new.toArray.toList=new from rfl,p2];exact WO.mono HQ (fun _ h=>h) (fun _ h=>h.elim))
           rw[e1];exact⟨_,_,_,_,_,CO,hk,k1,k2,.msl _ r _ _ _ (by unfold AR;rw[Bd];simp) (by simp[Gh.upd,t1]) (by simp[Gh.upd]) (.inr ⟨_,rfl⟩) (fun _=>by simp[Gh.upd])⟩
        ·have fN:cap<es.length+es2.length:=by omega
         obtain⟨nc,rest,r1,r2,r3⟩:=HI hT w (ty:=ty) ht EF hz (by rw[←QO];exact o1) hρ ha ⟨m1,m2,a2,c2,rfl,m4⟩ rfl (by omega) fN q3 q4;have EN:=Hy w.drew (.cells (olds++news++rest).toArray e (0,0)) (b:=w.heap.size) rfl
         obtain⟨k1,k2⟩:=hI.upd r (.arr sz (es++es2)) (.slice (some ⟨w.heap.size,0,none⟩) (es.length+es2.length) nc) (es.length+es2.length) (g.tk r) (some w.heap.size) g.S
          (w.drew.alloc (.cells (olds++news++rest).toArray e (0,0))) none
          ⟨rfl,rfl,rfl,by rw[World.size_alloc];exact Nat.le_succ _⟩ (fun k J0 _=>by rw[heap_alloc_old _ _ (by exact J0)];rfl) (fun b' e=>by cases e) (fun _ _ h=>h) (fun _ _ h=>.inl h)
          (fun b' o e=>by cases e) (fun b' _ e=>by cases e;exact⟨by rw[World.size_alloc];exact GL _,.inr (Aj _)⟩) (by simp) (fun _=>⟨rfl,by omega,fun e=>(by rw[t1]at e;cases e),fun e=>by omega⟩) (fun hg HQ=>by
           obtain⟨u1,u2,u3,u4⟩:=Bz g r (.slice (some ⟨w.heap.size,0,none⟩) (es.length+es2.length) nc) (es.length+es2.length) (g.tk r) (some w.heap.size) g.S;refine⟨u3.trans t1,by rw[u2,Ad],FR,.inr ⟨w.heap.size,nc,e,_,by rw[u1,Ad],u4,by rw[Ad];exact r2,EN,by rw[Fm,QO];exact r3,?_,fun o ho=>by have:=hI.slt _ _ ho;omega⟩⟩;rw[Ad,show(olds++news++rest).toArray.toList=olds++news++rest from rfl,Hl (by rw[Ad,o1.1,m1,QO,E8])];exact WO.mono HQ (fun _ h=>h) (fun _ h=>h.elim))
         exact⟨_,_,_,_,_,r1,hk,k1,k2,.msl _ r _ _ _ (by unfold AR;rw[Bd];simp) (by simp[Gh.upd,t1]) (by simp[Gh.upd]) (.inr ⟨_,rfl⟩) (fun _=>by simp[Gh.upd])⟩
      ·exact hk.elim
     ·exact hk.elim
    ·exact hk.elim
 ·exact hk.elim
end
section
variable {P:Program}{w0:World}{g0:Gh}{h0 h:Nat→HO}{g:Gh}{w:World}(hI:DJ w0 g0 h0 h g w)
include hI
theorem NT{d sz n:Nat}{es:List (List AV)}{a:Option Addr}(hd:h d=.free)(hl:∀c∈es,c.length=sz)(hn:es.length=n)(hr:BH g w Fp (.slice .none es) (.slice a n n)) :
  ∃g',DJ w0 g0 h0 (AW h d (.tok sz n)) g' w∧Le h g w (AW h d (.tok sz n)) g' w∧BH g' w (AR (AW h d (.tok sz n))) (.slice (.id d sz) es) (.slice a n n):=by
 obtain⟨k1,k2⟩:=hI.upd d (.tok sz n) (.slice a n n) n true none g.S w none ⟨rfl,rfl,rfl,Aj _⟩ (fun _ _ _=>rfl) (fun b e=>by cases e) (fun _ _ h=>h) (fun _ _ h=>.inl h) (fun b o e=>by cases e) (fun b _ e=>by cases e) (by simp)
  (fun hu=>absurd hd hu) (fun _ _=>by
   obtain⟨u1,u2,u3,u4⟩:=Bz g d (.slice a n n) n true none g.S;exact⟨u3,u2,a,n,u1,.inl ⟨rfl,u4⟩⟩)
 exact⟨_,k1,k2,.tok _ d sz es _ (((hr.up (AR h)).le k2)) hl (by unfold AR;rw[Bd];simp) (by simp[Gh.upd]) (by simp[Gh.upd,hn]) (fun _=>by simp[Gh.upd])⟩
theorem YM{cx:Cx}{d:Option Nat}{x:AV}{vx:Value}{K:HK}(hx:BH g w (AR h) x vx)(hk:Of cx d h x K):∃g' av h',K av h'∧DJ w0 g0 h0 h' g' w∧Le h g w h' g' w∧BH g' w (AR h') av vx:=by
 have plain:K x h→∃g' av h',K av h'∧DJ w0 g0 h0 h' g' w∧Le h g w h' g' w∧BH g' w (AR h') av vx:=fun hk=>⟨g,x,h,hk,hI,.refl _ _ _,hx⟩;unfold Of at hk;split at hk
 ·exact plain hk
 ·rename_i d;split at hk
  ·rename_i sz _;split at hk
   ·refine⟨g,yH x,h,hk,hI,.refl _ _ _,?_⟩;cases x with
    |slice tk es=>exact(BH.slice_none hx).up _
    |_=>exact hx
   ·split at hk
    ·split at hk
     ·rename_i hd;obtain rfl:=hx.v_eq;obtain⟨g',k1,k2,k3⟩:=NT hI (sz:=sz) (es:=[]) (a:=none) hd (by simp) rfl (.snil _ _ _);exact⟨g',_,_,hk,k1,k2,k3⟩
     ·exact hk.elim
    ·exact plain hk
  ·split at hk
   ·rename_i sz _;split at hk
    ·split at hk
     ·rename_i hd;obtain rfl:=hx.v_eq
      obtain⟨k1,k2⟩:=hI.upd d (.arr sz []) (.slice none 0 0) 0 true none g.S w none ⟨rfl,rfl,rfl,Aj _⟩ (fun _ _ _=>rfl) (fun b e=>by cases e) (fun _ _ h=>h) (fun _ _ h=>.inl h) (fun b o e=>by cases e) (fun b _ e=>by cases e) (by simp)
       (fun hu=>absurd hd hu) (fun _ _=>by
        obtain⟨u1,u2,u3,u4⟩:=Bz g d (.slice none 0 0) 0 true none g.S;exact⟨u3,u2,by simp,.inl ⟨rfl,u1,u4⟩⟩)
      exact⟨_,_,_,hk,k1,k2,.msl _ d 0 none 0 (by unfold AR;rw[Bd];simp) (by simp[Gh.upd]) (AO _) (.inl rfl) (fun _=>by simp[Gh.upd])⟩
     ·exact hk.elim
    ·exact plain hk
   ·exact plain hk
theorem XY{T:Gm}{mku:List Nat}{d:Option Nat}{ty:Nat}{K:HK}(hk:KA T mku d h ty K):N5 P w0 g0 h0 h g w (Instr.makeMap ty none) K:=by
 unfold KA at hk;split at hk
 ·exact hk.elim
 ·rename_i d;split at hk
  ·rename_i hd;split at hk
   ·split at hk
    ·rename_i sh _;split at hk
     ·obtain⟨k1,k2⟩:=hI.newOwn hd (.mapU sh []) (.map #[] 0) (.map (some w.heap.size)) 0 false w ⟨rfl,rfl,rfl,rfl⟩ (by simp) (fun hg HQ=>by
       obtain⟨u1,u2,u3,u4⟩:=Bz g d (.map (some w.heap.size)) 0 false (some w.heap.size) g.S;exact⟨u3,w.heap.size,#[],0,u4,u1,Hy w _ rfl,⟨rfl,by simp,by simp,by simp,by simp,by simp⟩,by simp,fun o ho=>by have:=hI.slt _ _ ho;omega⟩)
      refine⟨_,_,_,_,_,?_,hk,k1,k2,.mref _ d w.heap.size (by unfold AR;rw[Bd];simp) ?_ ?_⟩
      ·simp[Instr.makeMap]
      ·simp[Gh.upd]
      ·simp[Gh.upd]
     ·obtain⟨k1,k2⟩:=hI.newOwn hd (.map sh []) (.map #[] 0) (.map (some w.heap.size)) 0 false w ⟨rfl,rfl,rfl,rfl⟩ (by simp) (fun hg HQ=>by
       obtain⟨u1,u2,u3,u4⟩:=Bz g d (.map (some w.heap.size)) 0 false (some w.heap.size) g.S;exact⟨u3,w.heap.size,#[],0,u4,u1,Hy w _ rfl,⟨rfl,by simp,by simp,by simp,by simp,by simp⟩,by simp,fun o ho=>by have:=hI.slt _ _ ho;omega⟩)
      refine⟨_,_,_,_,_,?_,hk,k1,k2,.mref _ d w.heap.size (by unfold AR;rw[Bd];simp) ?_ ?_⟩
      ·simp[Instr.makeMap]
      ·simp[Gh.upd]
      ·simp[Gh.upd]
    ·exact hk.elim
   ·exact hk.elim
  ·exact hk.elim
omit hI in
theorem BH.sub{es:List (List AV)}{sz l m:Nat}{x:Value}{a:Option Addr}{n cap:Nat}(hr:BH g w Fp (.slice .none es) x)(hx:x=.slice a n cap)(hl:∀c∈es,c.length=sz)(h1:l≤m)(h2:m≤es.length)(c' : Nat)(hc:m-l≤c')(a' : Option Addr)
  (ha:a'=a.map (·.add (l*sz))∨(m=l∧a'=a)):BH g w Fp (.slice .none ((es.take m).drop l)) (.slice a' (m-l) c'):=by
 subst hx;have CI:((es.take m).drop l).length=m-l:=by rw[As,AJ];omega
 by_cases h0:m-l=0
 ·have:(es.take m).drop l=[]:=AB (by omega)
  rw[this,h0];exact .snil _ _ _
 ·cases hr with
  |snil=>simp at h2;omega
  |slice _ _ b off Gj cap val oT PO DE D4 =>
   have hz:Gj=sz:=by
    have:(0:Nat)<es.length:=by omega
    have h3:=PO 0 es[0] (Az this);rw[←h3];exact hl _ (Ap this)
   subst hz;have zz : a'=some ⟨b,off+l*Gj,none⟩:=by
    rcases ha with h | ⟨h,_⟩
    ·rw[h];simp[Addr.add_lit]
    ·omega
   subst zz;rw[←CI];have Fb:∀(i:Nat) (cs:List AV),((es.take m).drop l)[i]?=some cs→es[l+i]?=some cs:=fun i cs h=>by
    rw[BR]at h
    by_cases hi:l+i<m
    ·rwa [BG hi]at h
    ·rw[A6 (by rw[AJ];omega)]at h;cases h
   refine .slice _ _ b (off+l*Gj) Gj c' (fun i j=>val (l+i) j) (by rw[CI];exact hc) (fun i cs h=>PO _ _ (Fb i cs h)) (fun i cs j av h1 h2=>?_) (fun i cs j av h1 h2=>D4 _ _ _ _ (Fb i cs h1) h2)
   have:=DE _ _ _ _ (Fb i cs h1) h2
   rwa [show off+(l+i)*Gj+j=off+l*Gj+i*Gj+j by rw[E8];omega]at this
omit hI in
theorem KF{t:Nat→AV}{ρ:Operand→Value}(ht:∀x:Operand,BH g w (AR h) (ev t x) (ρ x)){o:Option Operand}{i:Option Int}(hk:B6 t o=some i):o.map ρ=i.map fun n=>.int .i64 n:=by
 cases o with
 |none=>cases hk;rfl
 |some x =>
  unfold B6 at hk;dsimp only at hk;split at hk
  ·rename_i n e;cases hk
   have:=ht x
   rw[e]at this;simp[this.v_eq]
  ·cases hk
omit hI in
theorem TQ(b:Bool)(len cap:Nat)(lo hi mx:Option Int)(kb:mx=none∨hi≠none)(h0:0≤lo.getD 0)(h1:lo.getD 0≤hi.getD len)(h2:hi.getD len≤mx.getD cap)(h3:mx.getD cap≤cap) :
  (Instr.sliceBounds b len cap (lo.map fun n=>.int .i64 n) (hi.map fun n=>.int .i64 n) (mx.map fun n=>.int .i64 n)).run P w=.ok ((lo.getD 0).toNat,(hi.getD len).toNat,(mx.getD cap).toNat) w:=by
 have e1:∀n:Int,0≤n→(n.toNat:Int)=n:=fun n hn=>Int.toNat_of_nonneg hn;cases mx with
 |none =>
  cases hi with
  |none =>
   cases lo with
   |none=>simp[Instr.sliceBounds]
   |some l =>
    simp only[Cy,D0]at h0 h1 h2;simp[Instr.sliceBounds,run_sliceBound,h0,h1]
  |some hh =>
   simp only[Cy,D0]at h1 h2;have qu:0≤hh:=by omega
   cases lo with
   |none=>simp[Instr.sliceBounds,run_sliceBound,qu,h2]
   |some l =>
    simp only[Cy]at h0 h1;simp[Instr.sliceBounds,run_sliceBound,h0,h1,h2,qu,e1]
 |some m =>
  cases hi with
  |none=>simp at kb
  |some hh =>
   simp only[Cy]at h1 h2 h3;have qu:0≤hh:=by omega
   have sC:0≤m:=by omega
   cases lo with
   |none=>simp[Instr.sliceBounds,run_sliceBound,h2,h3,qu,sC,e1]
   |some l =>
    simp only[Cy]at h0 h1;simp[Instr.sliceBounds,run_sliceBound,h0,h1,h2,h3,qu,sC,e1]
omit hI in
theorem EI{T:Gm}(hT:Cz P T){ty e k:Nat}(ht:(T ty).d=.slice e)(hk:(T e).size=k+1)(a:Option Addr)(len cap:Nat)(lo hi mx:Option Int)(kb:mx=none∨hi≠none)(h0:0≤lo.getD 0)(h1:lo.getD 0≤hi.getD len)(h2:hi.getD len≤mx.getD cap)(h3:mx.getD cap≤cap) :
  (Instr.sliceAt ty (.slice a len cap) (lo.map fun n=>.int .i64 n) (hi.map fun n=>.int .i64 n) (mx.map fun n=>.int .i64 n)).run P w =
   .ok (.slice (if(mx.getD cap).toNat=(lo.getD 0).toNat then a else a.map (·.add ((lo.getD 0).toNat*(T e).size))) ((hi.getD len).toNat-(lo.getD 0).toNat) ((mx.getD cap).toNat-(lo.getD 0).toNat)) w:=by
 have hu:=hT.slice ht;have hb:=TQ (P:=P) (w:=w) true len cap lo hi mx kb h0 h1 h2 h3;simp only[Instr.sliceAt,Sem.run_bind,run_underlying hu,Result.andThen_ok,Instr.slice,hb,hT.size1 w hk,Sem.run_pure];rw[hk]
theorem DJ.moveO(r r2:Nat)(DC:r2≠r)(hf:h r2=.free)(hl:(h r).live){ob:Option Nat}(ho:∀c,ob=some c→g.own r=some c)(o' : HO)(x:Value)(n:Nat)(t:Bool)(hn:o'≠.free)
  (Jf:EY g w (g.upd r2 x n t ob g.S) w→Eg (g.upd r2 x n t ob g.S) w (AR (AW (AW h r .dead) r2 o')) r2 o') :
  DJ w0 g0 h0 (AW (AW h r .dead) r2 o') (g.upd r2 x n t ob g.S) w∧Le h g w (AW (AW h r .dead) r2 o') (g.upd r2 x n t ob g.S) w:=by
 have dM:JU g (g.upd r2 x n t ob g.S) (AR h):=by
  intro i hi;have e:i≠r2:=fun e=>hi (by rw[e];exact hf);refine⟨by simp[Gh.upd,e],by simp[Gh.upd,e],fun _=>by simp[Gh.upd,e],fun _=>by simp[Gh.upd,e]⟩
 have hK:EY g w (g.upd r2 x n t ob g.S) w:=fun b o hb=>⟨hb,rfl,fun _ _ h=>h⟩;have K5:∀i,AR h i→AR (AW (AW h r .dead) r2 o') i:=fun i hi=>DP hn i (DP (by simp) i hi);have key:∀i,i≠r2→(AW (AW h r .dead) r2 o' i).live→i≠r∧(h i).live:=fun i h2 hl=>by
  rw[BY _ _ _ _ h2]at hl
  by_cases e:i=r
  ·subst e;rw[Bd]at hl;exact hl.elim
  ·rw[BY _ _ _ _ e]at hl;exact⟨e,hl⟩
 have own:∀i,i≠r2→(g.upd r2 x n t ob g.S).own i=g.own i:=fun i e=>by simp[Gh.upd,e]
 have TF:(g.upd r2 x n t ob g.S).own r2=ob:=by simp[Gh.upd]
 refine⟨⟨hI.os,hI.tape,hI.output,hI.size,hI.frame,hI.slt,fun i=>?_,fun i j c hi hj ei ej=>?_,fun i c hi ei=>?_,hI.sg,hI.glob.keep hK⟩,dM,K5,hK⟩
 ·by_cases e:i=r2
  ·subst e;rw[Bd];exact Jf hK
  ·rw[BY _ _ _ _ e]
   by_cases e1:i=r
   ·subst e1;rw[Bd];trivial
   ·rw[BY _ _ _ _ e1];exact(hI.objs i).same hK K5 dM (by simp[Gh.upd,e]) (by simp[Gh.upd,e]) (by simp[Gh.upd,e]) (by simp[Gh.upd,e]) (fun b hl hb=>⟨rfl,fun k hk=>hk⟩)
 ·by_cases e1:i=r2<;>by_cases e2:j=r2
  ·exact e1.trans e2.symm
  ·subst e1;rw[TF]at ei;rw[own j e2]at ej;obtain⟨a1,a2⟩:=key j e2 hj;exact absurd (hI.inj j r _ a2 hl ej (ho _ ei)) a1
  ·subst e2;rw[TF]at ej;rw[own i e1]at ei;obtain⟨a1,a2⟩:=key i e1 hi;exact absurd (hI.inj i r _ a2 hl ei (ho _ ej)) a1
  ·rw[own i e1]at ei;rw[own j e2]at ej;exact hI.inj i j c (key i e1 hi).2 (key j e2 hj).2 ei ej
 ·by_cases e1:i=r2
  ·subst e1;rw[TF]at ei;exact hI.loc r _ hl (ho _ ei)
  ·rw[own i e1]at ei;exact hI.loc i c (key i e1 hi).2 ei
theorem Yq{cx:Cx}(hT:Cz P cx.T){d:Option Nat}{ty:Nat}{x:AV}{vx:Value}{t:Nat→AV}{ρ:Operand→Value}(ht:∀x:Operand,BH g w (AR h) (ev t x) (ρ x)){lo hi mx:Option Operand}{K:HK}(hx:BH g w (AR h) x vx)
  (hk:TN cx d h ty x (B6 t lo) hi mx K):N5 P w0 g0 h0 h g w (Instr.sliceAt ty vx (lo.map ρ) (hi.map ρ) (mx.map ρ)) K:=by
 unfold TN at hk;split at hk
 ·rename_i d HA e1;rw[KF ht e1];split at hk
  ·rename_i e hs;split at hk
   ·exact hk.elim
   ·rename_i k EF;split at hk
    ·rename_i r sz es;split at hk
     ·rename_i Gj n e0;split at hk
      ·rename_i hd;split at hk
       ·rename_i q1 q2;obtain rfl:=AL q1;have q2:=AL q2;obtain⟨⟨rfl,h1,h2⟩,hk⟩:=hk;have hl:(h r).live:=by rw[e0];trivial
        have DC:Ks cx d≠r:=fun e=>by rw[e,e0]at hd;cases hd
        have ho:=hI.objs r;rw[e0]at ho;obtain⟨t1,l1,a,cap,a1,a3⟩:=ho;have hr:=hx.slice_none;cases hx with
        |tok _ _ _ _ _ Yz WN hu ht' hn LG =>
         have hv:=LG l1.symm;rw[a1]at hv;subst hv;have ay:es.length≤cap:=by rcases a3 with ⟨e1,_⟩ | ⟨e1,_⟩<;>omega
         have CO:=EI (P:=P) (w:=w) hT hs EF a es.length cap (some HA) none none (.inl rfl) h1 h2 (by simp only[D0];omega) (by simp);simp only[Cy,D0,Ci]at CO;have CI:(es.drop HA.toNat).length=es.length-HA.toNat:=As;have XM:=BH.sub (c':=cap-HA.toNat) hr rfl WN (l:=HA.toNat) (m:=es.length) (by omega) (Aj _) (by omega) (if cap=HA.toNat then a else a.map (·.add (HA.toNat*(cx.T e).size))) (by
          split
          ·exact .inr ⟨by omega,rfl⟩
          ·rw[q2];exact .inl rfl)
         rw[Du]at XM
         have fin:∀ob:Option Nat,(∀c,ob=some c→g.own r=some c)→(es.length-HA.toNat=cap-HA.toNat∧ob=none∨es.length-HA.toNat≤cap-HA.toNat∧∃b E vs off,(if cap=HA.toNat then a else a.map (·.add (HA.toNat*(cx.T e).size)))=some ⟨b,off,none⟩∧ob=some b∧w.heap[b]?=some (.cells vs E (0,0))∧vs.size=off+(cap-HA.toNat)*Gj∧∀o,g.S b o→o<off+(es.length-HA.toNat)*Gj) →
           N5 P w0 g0 h0 h g w (Instr.sliceAt ty (.slice a es.length cap) ((some HA).map fun n=>.int .i64 n) ((none:Option Operand).map ρ) ((none:Option Operand).map ρ)) K:=fun ob ho qG=>by
          obtain⟨k1,k2⟩:=hI.moveO r (Ks cx d) DC hd hl ho (.tok Gj (es.drop HA.toNat).length) (.slice (if cap=HA.toNat then a else a.map (·.add (HA.toNat*(cx.T e).size))) (es.length-HA.toNat) (cap-HA.toNat)) (es.length-HA.toNat) true (by simp) (fun HQ=>by
           obtain⟨u1,u2,u3,u4⟩:=Bz g (Ks cx d) (.slice (if cap=HA.toNat then a else a.map (·.add (HA.toNat*(cx.T e).size))) (es.length-HA.toNat) (cap-HA.toNat)) (es.length-HA.toNat) true ob g.S;refine⟨u3,u2.trans CI.symm,_,_,by rw[CI];exact u1,?_⟩;rw[CI,u4];exact qG)
          exact⟨_,w,_,_,_,CO,hk,k1,k2,.tok _ _ _ _ _ (((XM.mono k2.keeps (fun _ h=>h) (fun _ h=>h.elim))).up _) (fun c hc=>WN c (Il hc)) (by unfold AR;rw[Bd];simp) (by simp[Gh.upd]) (by simp[Gh.upd]) (fun _=>by simp[Gh.upd])⟩
         rcases a3 with ⟨e1,e2⟩ | ⟨e1,b,E,vs,off,rfl,e3,e4,e5,e6⟩
         ·exact fin none (fun c h=>by cases h) (.inl ⟨by omega,rfl⟩)
         ·by_cases hc:cap=HA.toNat
          ·exact fin none (fun c h=>by cases h) (.inl ⟨by omega,rfl⟩)
          ·refine fin (some b) (fun c h=>by cases h;exact e3) (.inr ⟨by omega,b,E,vs,off+HA.toNat*Gj,?_,rfl,e4,?_,fun o ho=>?_⟩)
           ·rw[Ah hc];simp[Addr.add_lit,q2]
           ·rw[e5,Nat.sub_mul]
            have:=Bh Gj (show HA.toNat≤cap by omega)
            omega
           ·have:=e6 o ho
            rw[Nat.sub_mul]
            have:=Bh Gj (show HA.toNat≤es.length by omega)
            omega
       ·exact hk.elim
      ·exact hk.elim
     ·exact hk.elim
    ·exact hk.elim
  ·exact hk.elim
 ·exact hk.elim
omit hI in
theorem NF{sz:Nat}:∀{es:List (List AV)},(∀cs∈es,cs.length=sz)→∀k,(es.take k).flatten=es.flatten.take (k*sz)
 | [],_,k=>by simp
 |c::es,hl,0=>by simp
 |c::es,hl,k+1=>by
  have h1:=hl c (Aa ..);have h2:c.length≤k*sz+sz:=by omega
  rw[IS,By,By,NF (fun x hx=>hl x (Ae _ hx)) k,List.take_append,h1,DZ,
   AT h2,show k*sz+sz-sz=k*sz by omega]
omit hI in
theorem CG.takeE{U:Nat→Prop}{sz k:Nat}{es:List (List AV)}{vs:List Value}(hl:∀cs∈es,cs.length=sz)(hk:k≤es.length)(h:CG g w U es.flatten (vs.take (es.length*sz))):CG g w U (es.take k).flatten (vs.take (k*sz)):=by
 have e:vs.take (k*sz)=(vs.take (es.length*sz)).take (k*sz):=by
  rw[Ki,Nat.min_eq_left (Bh _ hk)]
 rw[NF hl,e];refine⟨by rw[AJ (l:=vs.take (es.length*sz)),h.1,AJ],fun x hx=>h.2.1 x (Er hx),fun i av x q1 q2=>?_⟩;have hi:i<k*sz:=by
  rcases ED i (k*sz)with q | q
  ·exact q
  ·rw[Jx,Ah (by omega)]at q1;cases q1
 rw[Jx,Aw hi]at q1 q2;exact h.2.2 i av x q1 q2
theorem aU{cx:Cx}(hT:Cz P cx.T){d:Option Nat}{ty:Nat}{x:AV}{vx:Value}{t:Nat→AV}{ρ:Operand→Value}(ht:∀x:Operand,BH g w (AR h) (ev t x) (ρ x)){hi:Option Operand}{K:HK}(hx:BH g w (AR h) x vx)
  (hk:ii cx d h ty x (B6 t hi) K):N5 P w0 g0 h0 h g w (Instr.sliceAt ty vx none (hi.map ρ) none) K:=by
 unfold ii at hk;split at hk
 ·rename_i d LN e1;rw[KF ht e1];split at hk
  ·rename_i e hs;split at hk
   ·exact hk.elim
   ·rename_i k EF;split at hk
    ·rename_i r n;split at hk
     ·rename_i sz es e0;split at hk
      ·rename_i hd;split at hk
       ·rename_i q1 q3;have q1:=AL q1;obtain⟨⟨rfl,h1,h2⟩,hk⟩:=hk;have hl:(h r).live:=by rw[e0];trivial
        have DC:Ks cx d≠r:=fun e=>by rw[e,e0]at hd;cases hd
        have ho:=hI.objs r;rw[e0]at ho;obtain⟨t1,l1,al,a2⟩:=ho;have CI:(es.take LN.toNat).length=LN.toNat:=by rw[AJ];omega
        cases hx with
        |msl _ _ _ a cap hu ht' XJ ha LG =>
         have hv:=LG l1.symm;have OK:es.length≤cap:=by
          rcases a2 with ⟨b1,_,_⟩ | ⟨b,LF,E,vs,b1,_,b3,_⟩
          ·subst b1;exact AO _
          ·rw[b1]at hv;cases hv;exact b3
         have CO:=EI (P:=P) (w:=w) hT hs EF a es.length cap none (some LN) none (.inl rfl) (by simp) (by simp only[D0,Cy];exact h1) (by simp only[Cy,D0];omega) (by simp);have Ly:(if cap-(0:Nat)=0 then a else a.map (·.add (0*(cx.T e).size)))=a:=by
          rw[Kk];split
          ·rfl
          ·rcases ha with e3 | ⟨b,rfl⟩
           ·cases a with
            |none=>rfl
            |some a=>simp[Addr.add]
           ·rfl
         simp only[Cy,D0,Ci,Int.toNat_zero,Nat.sub_zero]at CO Ly;have key:∃a',(Instr.sliceAt ty (.slice a es.length cap) ((none:Option Int).map fun n=>.int .i64 n) ((some LN).map fun n=>.int .i64 n) ((none:Option Int).map fun n=>.int .i64 n)).run P w=.ok (.slice a' LN.toNat cap) w∧(a'=a):=⟨_,CO,by first | exact Ly | (split<;>first | rfl | exact Ly | (simp_all))⟩
         obtain⟨a',CO,rfl⟩:=key;have J3:BH (g.upd (Ks cx d) (.slice a' LN.toNat cap) LN.toNat true (g.own r) g.S) w (AR (AW (AW h r .dead) (Ks cx d) (.arr sz (es.take LN.toNat)))) (.msl (Ks cx d) LN.toNat) (.slice a' LN.toNat cap) :=
          .msl _ _ _ _ _ (by unfold AR;rw[Bd];simp) (by simp[Gh.upd]) (by simp[Gh.upd]) (ha.elim (fun e=>.inl (by omega)) .inr) (fun _=>by simp[Gh.upd])
         obtain⟨k1,k2⟩:=hI.moveO r (Ks cx d) DC hd hl (ob:=g.own r) (fun c h=>h) (.arr sz (es.take LN.toNat)) (.slice a' LN.toNat cap) LN.toNat true (by simp) (fun HQ=>by
          obtain⟨u1,u2,u3,u4⟩:=Bz g (Ks cx d) (.slice a' LN.toNat cap) LN.toNat true (g.own r) g.S;refine⟨u3,u2.trans CI.symm,fun c hc=>al c (Er hc),?_⟩;rcases a2 with ⟨b1,b2,b3⟩ | ⟨b,LF,E,vs,b1,b2,b3,b4,b5,b6,b7⟩
          ·subst b1;rw[b2]at hv;cases hv;have h0:LN.toNat=0:=by simp only[AC]at h2;omega
           exact .inl ⟨List.take_nil,by rw[u1,h0],u4.trans b3⟩
          ·rw[b1]at hv;cases hv;refine .inr ⟨b,cap,E,vs,by rw[CI];exact u1,u4.trans b2,by rw[CI];omega,b4,b5,?_,b7⟩;rw[CI];exact(CG.takeE al (by omega) b6).mono HQ (fun _ h=>h) (fun _ h=>h.elim))
         exact⟨_,w,_,_,_,CO,hk,k1,k2,J3⟩
       ·exact hk.elim
      ·exact hk.elim
     ·exact hk.elim
    ·exact hk.elim
  ·exact hk.elim
 ·exact hk.elim
theorem Vt{cx:Cx}(hT:Cz P cx.T){d:Option Nat}{ty:Nat}{x:AV}{vx:Value}{t:Nat→AV}{ρ:Operand→Value}(ht:∀x:Operand,BH g w (AR h) (ev t x) (ρ x)){lo hi mx:Option Operand}{K:HK}(hx:BH g w (AR h) x vx)
  (hk:Gi cx d h ty x (B6 t lo) (B6 t hi) (B6 t mx) K):N5 P w0 g0 h0 h g w (Instr.sliceAt ty vx (lo.map ρ) (hi.map ρ) (mx.map ρ)) K:=by
 unfold Gi at hk;split at hk
 ·rename_i HA LN mf e1 e2 e3;rw[KF ht e1,KF ht e2,KF ht e3];split at hk
  ·rename_i hs;split at hk
   ·rename_i s;obtain⟨⟨h1,h2,h3⟩,hk⟩:=hk;obtain rfl:=hx.v_eq;have hb:=TQ (P:=P) (w:=w) false s.size s.size HA LN none (.inl rfl) h1 h2 (by simpa using h3) (by simp);refine(BQ.val (x:=.string (s.extract (HA.getD 0).toNat (LN.getD s.size).toNat)) ?_ hk).does hI;simp only[Instr.sliceAt,Sem.run_bind,run_underlying (hT.string hs),Result.andThen_ok,Instr.slice];simp only[Option.map_none,Option.isSome_none,Cw,Fc]at hb⊢;simp only[Sem.run_bind,hb,Result.andThen_ok,Sem.run_pure]
   ·exact hk.elim
  ·rename_i e hs;split at hk
   ·exact hk.elim
   ·rename_i k EF;split at hk
    ·rename_i tk es;have hr:=hx.slice_none;obtain⟨a,cap,hv,OK⟩:∃a cap,vx=.slice a es.length cap∧es.length≤cap:=by
      cases hr with
      |snil _ a cap=>exact⟨a,cap,rfl,AO _⟩
      |slice _ _ b off sz cap val hc=>exact⟨_,cap,rfl,hc⟩
     subst hv;split at hk
     ·obtain⟨⟨h1,h2,h3⟩,hl,hk⟩:=hk;have CO:=EI (P:=P) (w:=w) hT hs EF a es.length cap HA LN none (.inl rfl) h1 h2 (by simp only[D0];omega) (by simp);refine BQ.does hI ⟨_,_,CO,hk,(BH.sub (c':=cap-(HA.getD 0).toNat) hr rfl hl (l:=(HA.getD 0).toNat) (m:=(LN.getD es.length).toNat) (by omega) (by omega) (by simp;omega) _ ?_).up _⟩;split
      ·rename_i e;simp only[D0,Ci]at e;exact .inr ⟨by omega,rfl⟩
      ·exact .inl rfl
     ·rename_i m;split at hk
      ·rename_i d hh;split at hk
       ·obtain⟨⟨h1,h2,rfl,h3⟩,hl,hk⟩:=hk;have CO:=EI (P:=P) (w:=w) hT hs EF a es.length cap HA (some m) (some m) (.inr (by simp)) h1 h2 (by simp) (by simp only[Cy];omega);simp only[Cy]at CO;have CI:((es.take m.toNat).drop (HA.getD 0).toNat).length=m.toNat-(HA.getD 0).toNat:=by rw[As,AJ];omega
        refine BQ.does hI ⟨_,_,CO,hk,.full _ _ _ _ ((BH.sub (c':=m.toNat-(HA.getD 0).toNat) hr rfl hl (l:=(HA.getD 0).toNat) (m:=m.toNat) (by omega) (by omega) (by omega) _ ?_).up _) (fun c hc=>hl c (Er (Il hc))) ⟨_,by rw[CI]⟩⟩;split
        ·rename_i e;exact .inr ⟨e,rfl⟩
        ·exact .inl rfl
       split at hk
       ·rename_i hd;obtain⟨⟨h1,h2,rfl,h3⟩,hl,hk⟩:=hk;have CO:=EI (P:=P) (w:=w) hT hs EF a es.length cap HA (some m) (some m) (.inr (by simp)) h1 h2 (by simp) (by simp only[Cy];omega);simp only[Cy]at CO
        obtain⟨g',k1,k2,k3⟩:=NT hI (sz:=(cx.T e).size) (n:=m.toNat-(HA.getD 0).toNat) hd (es:=(es.take m.toNat).drop (HA.getD 0).toNat) (fun c hc=>hl c (Er (Il hc))) (by rw[As,AJ];omega)
         (BH.sub (c':=m.toNat-(HA.getD 0).toNat) hr rfl hl (l:=(HA.getD 0).toNat) (m:=m.toNat) (by omega) (by omega) (by omega) (if m.toNat=(HA.getD 0).toNat then a else a.map (·.add ((HA.getD 0).toNat*(cx.T e).size))) (by
          split
          ·rename_i e;exact .inr ⟨e,rfl⟩
          ·exact .inl rfl))
        exact⟨_,w,g',_,_,CO,hk,k1,k2,k3⟩
       ·exact hk.elim
      ·exact hk.elim
    ·obtain⟨⟨h1,h2,h3⟩,h4,hk⟩:=hk;obtain rfl:=hx.v_eq;have CO:=EI (P:=P) (w:=w) hT hs EF none 0 0 HA LN mf h4 (by omega) (by simp only[Iz]at *;omega) (by simp only[Iz]at *;omega) (by simp only[Iz]at *;omega);refine BQ.does hI (BQ.val (x:=.slice none 0 0) ?_ hk);rw[CO];simp only[h1,Iz,h2,h3];simp
    ·rename_i r n;split at hk
     ·rename_i sz es e0;split at hk
      ·rename_i QO;obtain rfl:=AL QO;obtain⟨⟨h1,h2,h3,h4,h5⟩,hk⟩:=hk;have ho:=hI.objs r;rw[e0]at ho;obtain⟨t1,l1,al,a3⟩:=ho;have hl:(h r).live:=by rw[e0];trivial
       have qE:mf=none∨LN≠none:=h5.imp id (fun q=>q.2);cases hx with
       |msl _ _ _ a cap hu ht' hn ha LG =>
        have hv:=LG (h1.trans l1.symm);subst h1;have kb:∀c:Nat,es.length≤c→LN.getD es.length≤mf.getD c∧mf.getD c≤c:=fun c hc=>by
         rcases h5 with h5 | ⟨h5,DC⟩
         ·rw[h5];simp only[D0];omega
         ·obtain⟨m,hm⟩:=Option.ne_none_iff_exists'.1 DC;rw[h5,hm];rw[hm]at h3 h4;simp only[Cy]at h3 h4⊢;omega
        rcases a3 with ⟨rfl,q2,q3⟩ | ⟨b,LF,E,vs,q1,q2,q3,q4,q5,q6,q7⟩
        ·rw[q2]at hv;cases hv;have CO:=EI (P:=P) (w:=w) hT hs EF none 0 0 HA LN mf qE h2 h3 (kb 0 (by simp)).1 (kb 0 (by simp)).2
         obtain⟨k1,k2⟩:=hI.upd r .dead (g.ρ r) (g.ln r) (g.tk r) (g.own r) g.S w none ⟨rfl,rfl,rfl,Aj _⟩ (fun _ _ _=>rfl) (fun b e=>by cases e) (fun _ _ h=>h) (fun _ _ h=>.inl h) (fun b o e=>by cases e) (fun b hh _=>by cases hh) (by simp)
          (fun _=>⟨rfl,Aj _,fun _=>rfl,fun _=>rfl⟩) (fun _ _=>trivial)
         refine⟨_,w,_,_,_,CO,hk,k1,k2,?_⟩;have z1:((HA.getD 0).toNat)=0:=by simp only[AC,Iz]at h3 h4;omega
         have z2:((LN.getD (([]:List (List AV)).length:Int)).toNat)=0:=by simp only[AC,Iz]at h3 h4⊢;omega
         simp only[List.take_nil,List.drop_nil];have z3:((LN.getD ((0:Nat):Int)).toNat)=0:=z2;rw[z1,z3];exact .snil _ _ _
        ·rw[q1]at hv;cases hv;have CO:=EI (P:=P) (w:=w) hT hs EF (some ⟨b,0,none⟩) es.length cap HA LN mf qE h2 h3 (kb _ q3).1 (kb _ q3).2;have cg:=(hI.loc r b hl q2).1
         obtain⟨k1,k2⟩:=hI.upd r .dead (g.ρ r) (g.ln r) (g.tk r) (g.own r) (g.more b (es.length*(cx.T e).size)) w none ⟨rfl,rfl,rfl,Aj _⟩ (fun _ _ _=>rfl) (fun b e=>by cases e) (fun _ _ h=>.inl h)
          (fun b' o hs=>hs.elim .inl (fun hs=>.inr ⟨by rw[hs.1];exact cg,.inr ⟨hl,by rw[hs.1];exact q2⟩⟩)) (fun b o e=>by cases e) (fun b hh _=>by cases hh) (by simp)
          (fun _=>⟨rfl,Aj _,fun _=>rfl,fun _=>rfl⟩) (fun _ _=>trivial)
         have D4:=BH.slice_row (g:=g.upd r (g.ρ r) (g.ln r) (g.tk r) (g.own r) (g.more b (es.length*(cx.T e).size))) (U:=Fp) q4 al q3 (q6.mono k2.keeps (fun _ h=>h) (fun _ h=>h.elim)) (fun o ho=>.inr ⟨rfl,ho⟩);have zY:=kb _ q3;refine⟨_,w,_,_,_,CO,hk,k1,k2,(BH.sub (c':=(mf.getD cap).toNat-(HA.getD 0).toNat) D4 rfl al (l:=(HA.getD 0).toNat) (m:=(LN.getD es.length).toNat) (by omega) (by omega) (by omega) _ ?_).up _⟩;split
         ·rename_i e;exact .inr ⟨by omega,rfl⟩
         ·exact .inl rfl
      ·exact hk.elim
     ·exact hk.elim
    ·exact hk.elim
  ·exact hk.elim
 ·exact hk.elim
theorem Ur{cx:Cx}(hT:Cz P cx.T){d:Option Nat}{ty:Nat}{n c:AV}{vn vc:Value}{K:HK}(hn:BH g w (AR h) n vn)(hc:BH g w (AR h) c vc)(hk:Jm cx d h ty n c K) :
  N5 P w0 g0 h0 h g w (Instr.makeSlice ty vn vc) K:=by
 unfold Jm at hk;split at hk
 ·rename_i e n c hs;obtain rfl:=hn.v_eq;obtain rfl:=hc.v_eq;split at hk
  ·rename_i Rm;split at hk
   ·rename_i M1;have M1:=AL M1;split at hk
    ·exact hk.elim
    ·rename_i k EF;obtain⟨⟨h1,h2,h3,h4⟩,hk⟩:=hk;obtain⟨i,z,i1,i2,i3,i4,i5⟩:=Ho hT EF;have nL:(cx.T e).zc≠[]:=fun e0=>by rw[e0]at M1;rw[EF]at M1;cases M1
     have wn:IntKind.i64.wrap n=n:=MY ⟨by omega,by omega⟩;have wc:IntKind.i64.wrap c=c:=MY ⟨by omega,by omega⟩;have FR:∀l:List AV,(∀a∈l,one a=true)→GV l=true:=by
      intro l
      induction l with
      |nil=>intro _;rfl
      |cons a l ih=>intro h;simp[GV,h a (List.mem_cons_self ..),ih (fun b hb=>h b (List.mem_cons_of_mem _ hb))]
     have nI:((Array.range (c.toNat*(cx.T e).size)).map fun k=>z.cells[k % z.cells.size]!).toList=(List.replicate c.toNat (cx.T e).zc).flatten:=by
      rw[HG c.toNat _ nL,M1,i5];have e6:z.cells.size=(cx.T e).size:=by rw[←M1,i5];simp
      simp[e6,Array.getElem!_eq_getD]
     have hzs:(cx.T e).zc.length=(cx.T e).size:=M1;have sA:∀c'∈List.replicate c.toNat (cx.T e).zc,c'.length=(cx.T e).size:=fun c' hc=>by rw[Cf hc];exact M1
     have uJ : ∀c'∈List.replicate n.toNat ((cx.T e).zc.map AV.v),c'.length=(cx.T e).size:=fun c' hc=>by rw[Cf hc,Ba];exact M1
     have uK:∀c'∈List.replicate n.toNat (cx.T e).zc,c'.length=(cx.T e).size:=fun c' hc=>by rw[Cf hc];exact M1
     obtain⟨g',av,h',q1,q2,q3,q4⟩:=JO hI hk (vs:=(Array.range (c.toNat*(cx.T e).size)).map fun k=>z.cells[k % z.cells.size]!) (cap:=c.toNat) e uJ (by rw[Cr];omega) (by simp) (by
      rw[nI,Cr];have e1:(List.replicate n.toNat ((cx.T e).zc.map AV.v)).flatten=(List.replicate n.toNat (cx.T e).zc).flatten.map AV.v:=by
       rw[RO,List.map_replicate]
      have e2:(List.replicate c.toNat (cx.T e).zc).flatten.take (n.toNat*(cx.T e).size)=(List.replicate n.toNat (cx.T e).zc).flatten:=by
       obtain⟨m,hm⟩:∃m,c.toNat=n.toNat+m:=⟨c.toNat-n.toNat,by omega⟩;rw[hm,←List.replicate_append_replicate,CK,Hl (by rw[Df uK,Cr])]
      rw[e1,e2];refine CG.vals (FR _ (fun a ha=>?_));obtain⟨x,hx,rfl⟩:=Ak.1 ha;obtain⟨l,hl,hx⟩:=Ep.1 hx;rw[Cf hl]at hx;exact Mz Rm _ (Ak.2 ⟨x,hx,rfl⟩)) w ⟨rfl,rfl,rfl,rfl⟩
     rw[Cr]at q4;refine⟨_,_,g',av,h',?_,q1,q2,q3,q4⟩;have ut:¬((cx.T e).bytes*c>2 ^ 48):=by rw[Int.mul_comm];omega
     have fI:((decide (c<0)||decide (((cx.T e).bytes:Int)*c>2 ^ 48))||decide (n<0)||decide (n>c))=false:=by
      simp only[Bool.or_eq_false_iff,JI];exact⟨⟨⟨by omega,ut⟩,by omega⟩,by omega⟩
     simp only[Instr.makeSlice,Sem.run_bind,run_underlying (hT.slice hs),Result.andThen_ok,asInt,asIntOf,Sem.run_pure,typeInfo,run_program,i1,i4,wn,wc,fI,Cw,Fc,run_askRoom,hT.size1 w EF]
     by_cases hz:c.toNat*(k+1)=0
     ·have lK:c.toNat=0:=by
       rcases Nat.mul_eq_zero.1 hz with h | h
       ·exact h
       ·cases h
      rw[lK];simp only[Kk,Kw];simp only[show Array.range 0=#[]from rfl,Array.map_empty];simp[newRow]
     ·simp only[Ah hz,Sem.run_bind,zeroValue,typeInfo,run_program,i1,i2,Result.andThen_ok,Sem.run_pure];rw[EF];simp[newRow]
   ·exact hk.elim
  ·exact hk.elim
 ·exact hk.elim
end
end Go.Eng
