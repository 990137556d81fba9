/- Lemmas for the claims of this seat, without a condition: part 8 (EngR, EngS). -/
import Derived.Test.YtmcbkdbfaneofaaGreatDoorDA07
namespace Go.Eng
theorem CF.app{g:Gh}{w:World}{U:Nat→Prop}{TX bs:List AV}{xs ys:List Value}(h:CF g w U TX xs)(k:CF g w U bs ys):CF g w U (TX++bs) (xs++ys):=by
 refine⟨by simp[h.1,k.1],fun x hx=>(A3.1 hx).elim (h.2.1 x) (k.2.1 x),fun i av x h1 h2=>?_⟩
 by_cases hi:i<TX.length
 ·rw[AY hi]at h1;rw[AY (by rw[h.1];exact hi)]at h2;exact h.2.2 i av x h1 h2
 ·rw[A4 (by omega)]at h1;rw[A4 (by rw[h.1];omega),h.1]at h2;exact k.2.2 _ av x h1 h2
section
variable {P:Program}{w0:World}{g0:Gh}{h0 h:Nat→HO}{g:Gh}{w:World}(hI:DJ w0 g0 h0 h g w)
include hI
omit hI in
theorem PS(t ty e:TypeId)(i:TypeInfo)(ht:P.underlying t=some (.slice e))(hi:P.info? e=some i){E:TypeId}
  (g NL Zx:Nat) (Fz:Array Value) (hg:w.heap[g]?=some (.cells Fz E (0,0)))
  (a:Addr) (m c:Nat) (news:List Value) (hl:news.length=m*i.size) (IK:∀j u,news[j]?=some u→w.cell? (a.add j)=some u) (h1:∀u∈news,u.oneCell'=true)
  (JI:NL+m≤Zx) (YY:NL*i.size+news.length≤Fz.size) :
  (Builtin.append_ #[t,t] ty #[.slice (some ⟨g,0,none⟩) NL Zx,.slice (some a) m c]).run P w =
   .ok (.slice (some ⟨g,0,none⟩) (NL+m) Zx) (w.setRow g (Fz.toList.take (NL*i.size)++news++Fz.toList.drop (NL*i.size+news.length)).toArray):=by
 have hf:=run_firstCells_some (P:=P) w i.size m a m c news hl IK;have Jc:=run_storeCells_at P g (NL*i.size) E news 0 Fz w hg (by simpa using YY) h1;simp only[DB]at Jc;simp[Builtin.append_,run_underlying ht,sizeOf,typeInfo,hi,Builtin.lenOf,JI,hf,Addr.add_lit,Jc]
omit hI in
theorem Tw(t ty e:TypeId)(i:TypeInfo)(ht:P.underlying t=some (.slice e))(hi:P.info? e=some i){E:TypeId}
  (g off NL Zx:Nat) (Fz:Array Value) (hg:w.heap[g]?=some (.cells Fz E (0,0)))
  (a:Addr) (m c:Nat) (news:List Value) (hl:news.length=m*i.size) (IK:∀j u,news[j]?=some u→w.cell? (a.add j)=some u) (h1:∀u∈news,u.oneCell'=true)
  (JI:NL+m≤Zx) (YY:off+NL*i.size+news.length≤Fz.size) :
  (Builtin.append_ #[t,t] ty #[.slice (some ⟨g,off,none⟩) NL Zx,.slice (some a) m c]).run P w =
   .ok (.slice (some ⟨g,off,none⟩) (NL+m) Zx) (w.setRow g (Fz.toList.take (off+NL*i.size)++news++Fz.toList.drop (off+NL*i.size+news.length)).toArray):=by
 have hf:=run_firstCells_some (P:=P) w i.size m a m c news hl IK;have Jc:=run_storeCells_at P g (off+NL*i.size) E news 0 Fz w hg (by simpa using YY) h1;simp only[DB]at Jc;simp[Builtin.append_,run_underlying ht,sizeOf,typeInfo,hi,Builtin.lenOf,JI,hf,Addr.add_lit,Jc]
omit hI in
theorem kO{b off n m sz cap:Nat}{Fz:Array Value}{E:TypeId}{olds news:List Value}(hb:w.heap[b]?=some (.cells Fz E (0,0)))(Xo:Fz.size=off+cap*sz)(hn:n≤cap)(hm:n+m≤cap)(hnl:news.length=m*sz)(hol:olds.length=n*sz)
  (GB:∀j u,olds[j]?=some u→w.cell? ⟨b,off+j,none⟩=some u) :
  (Fz.toList.take (off+n*sz)++news++Fz.toList.drop (off+n*sz+news.length)).length=off+cap*sz ∧
  ((Fz.toList.take (off+n*sz)++news++Fz.toList.drop (off+n*sz+news.length)).drop off).take ((n+m)*sz)=olds++news ∧
  ∀o,o<off+n*sz→(Fz.toList.take (off+n*sz)++news++Fz.toList.drop (off+n*sz+news.length)).toArray[o]?=Fz[o]?:=by
 have hcl:Fz.toList.length=off+cap*sz:=by rw[B5];exact Xo
 have SC:(n+m)*sz≤cap*sz:=Bj _ hm;have fu:n*sz≤cap*sz:=Bj _ hn;rw[E8]at SC;have Kt:(Fz.toList.take (off+n*sz)).drop off=olds:=by
  apply CC;intro j
  by_cases hj:j<n*sz
  ·rw[BR,BH (by omega)];have hx:olds[j]?=some olds[j]:=Ay (by omega)
   have:=GB j _ hx
   rw[FC hb]at this;rw[A2,this,hx]
  ·rw[A6 (by rw[Ar,AJ];omega),A6 (by omega)]
 have nt:(Fz.toList.take (off+n*sz)).length=off+n*sz:=by rw[AJ];omega
 refine⟨?_,?_,fun o ho=>?_⟩
 ·rw[Ad,Ad,nt,Ar,hcl,hnl];omega
 ·rw[AO,List.drop_append_of_le_length (by rw[nt];omega),Kt,←AO,Hl (by rw[Ad,hol,hnl,E8])]
 ·rw[FX,AO,AY (by rw[nt];exact ho),BH ho,A2]
omit hI in
theorem gX{b n m sz cap:Nat}{Fz:Array Value}{E:TypeId}{olds news:List Value}(hb:w.heap[b]?=some (.cells Fz E (0,0)))(Xo:Fz.size=cap*sz)(hn:n≤cap)(hm:n+m≤cap)(hnl:news.length=m*sz)(hol:olds.length=n*sz)
  (GB:∀j u,olds[j]?=some u→w.cell? ⟨b,j,none⟩=some u) :
  (Fz.toList.take (n*sz)++news++Fz.toList.drop (n*sz+news.length)).length=cap*sz ∧
  (Fz.toList.take (n*sz)++news++Fz.toList.drop (n*sz+news.length)).take ((n+m)*sz)=olds++news ∧
  ∀o,o<n*sz→(Fz.toList.take (n*sz)++news++Fz.toList.drop (n*sz+news.length)).toArray[o]?=Fz[o]?:=by
 have hcl:Fz.toList.length=cap*sz:=by rw[B5];exact Xo
 have SC:(n+m)*sz≤cap*sz:=Bj _ hm;have fu:n*sz≤cap*sz:=Bj _ hn;rw[E8]at SC;have Kt:Fz.toList.take (n*sz)=olds:=by
  apply CC;intro j
  by_cases hj:j<n*sz
  ·rw[BH hj];have hx:olds[j]?=some olds[j]:=Ay (by omega)
   have:=GB j _ hx
   rw[FC hb]at this;rw[A2,this,hx]
  ·rw[A6 (by rw[AJ];omega),A6 (by omega)]
 have nt:(Fz.toList.take (n*sz)).length=n*sz:=by rw[AJ];omega
 refine⟨?_,?_,fun o ho=>?_⟩
 ·rw[Ad,Ad,nt,Ar,hcl,hnl];omega
 ·rw[Kt,Hl (by rw[Ad,hol,hnl,E8])]
 ·rw[FX,AO,AY (by rw[nt];exact ho),BH ho,A2]
theorem Uq{r n sz:Nat}{es:List (List AV)}{x:Value}(he:h r=.arr sz es)(hx:BI g w (AR h) (.msl r n) x)(hn:n=es.length) :
  x=g.ρ r∧∃news,NX w x es.length sz news∧CF g w Fp es.flatten news:=by
 have ho:=hI.objs r;rw[he]at ho;obtain⟨t1,l1,al,a1⟩:=ho;cases hx with
 |msl _ _ _ a cap hu ht Xt ha Lv =>
  have e:=Lv (hn.trans l1.symm);refine⟨e,?_⟩;rw[e];rcases a1 with ⟨rfl,e2,e3⟩ | ⟨b,Lu,E,vs,e1,e2,e3,e4,e5,e6,e7⟩
  ·exact⟨[],⟨by simp,by simp,none,0,e2,.inl rfl⟩,by simp,by simp,fun i av x h1 h2=>by simp at h2⟩
  ·have Xo:vs.toList.length=Lu*sz:=by rw[B5];exact e5
   have Hi:es.length*sz≤vs.toList.length:=by rw[Xo];exact Bj _ e3
   refine⟨vs.toList.take (es.length*sz),⟨by rw[AJ,Nat.min_eq_left Hi],e6.2.1,_,_,e1,.inr ⟨_,rfl,fun j u hj=>?_⟩⟩,e6⟩;rw[Addr.add_lit,Bk,FC e4];have DI:=(As.1 hj).1;rw[AJ]at DI;rw[BH (by omega),A2]at hj;exact hj
theorem bz{sz:Nat}{x:AV}{vx:Value}{K:List (List AV)→Prop}(hx:BI g w (AR h) x vx)(hk:KV h x K) :
  ∃es,K es∧((∀c∈es,c.length=sz)→∃news,NX w vx es.length sz news∧CF g w Fp es.flatten news):=by
 unfold KV at hk;split at hk
 ·exact⟨_,hk,fun hl=>NX.of_rep hx.slice_none hl⟩
 ·obtain rfl:=hx.v_eq;exact⟨[],hk,fun _=>⟨[],⟨by simp,by simp,none,0,rfl,.inl rfl⟩,by simp,by simp,fun i av x h1 h2=>by simp at h2⟩⟩
 ·rename_i r n;split at hk
  ·rename_i Gm es e;obtain⟨hn,hk⟩:=hk;refine⟨es,hk,fun hl=>?_⟩;obtain⟨_,news,n1,n2⟩:=Uq hI e hx hn;refine⟨news,?_,n2⟩
   have:news.length=es.length*sz:=by rw[n2.1,Df hl]
   exact⟨this,n1.2.1,n1.2.2⟩
  ·exact hk.elim
 ·exact hk.elim
theorem cu{cx:Cx}{d:Option Nat}{sz:Nat}{K:HK}(hk:Ew cx d h sz [] K) :
  ∃g' av h',K av h'∧DJ w0 g0 h0 h' g' w∧Le h g w h' g' w∧BI g' w (AR h') av (.slice none 0 0):=by
 have base:∀(d:Nat) (o' : HO),h d=.free→o'≠.free→(∀g' : Gh,g'.ρ d=.slice none 0 0→g'.ln d=0→g'.tk d=true→g'.own d=none→Ea g' w (AR (AW h d o')) d o') →
   DJ w0 g0 h0 (AW h d o') (g.upd d (.slice none 0 0) 0 true none g.S) w∧Le h g w (AW h d o') (g.upd d (.slice none 0 0) 0 true none g.S) w:=by
  intro d o' hd DD Jb;refine hI.upd d o' _ _ _ _ _ w none ⟨rfl,rfl,rfl,Ak _⟩ (fun _ _ _=>rfl) (fun b e=>by cases e) (fun _ _ h=>h) (fun _ _ h=>.inl h) (fun b o e=>by cases e) (fun b _ e=>by cases e) DD (fun hu=>absurd hd hu) (fun _ _=>?_);obtain⟨u1,u2,u3,u4⟩:=BA g d (.slice none 0 0) 0 true none g.S;exact Jb _ u1 u2 u3 u4
 unfold Ew at hk;split at hk
 ·exact hk.elim
 ·rename_i d;generalize Kq cx d=d1 at hk;split at hk
  ·rename_i hd;split at hk
   ·obtain⟨k1,k2⟩:=base d1 (.arr sz []) hd (by simp) (fun g' u1 u2 u3 u4=>⟨u3,u2,by simp,.inl ⟨rfl,u1,u4⟩⟩);exact⟨_,_,_,hk,k1,k2,.msl _ d1 0 none 0 (by unfold AR;rw[Bd];simp) (by simp[Gh.upd]) (AM _) (.inl rfl) (fun _=>by simp[Gh.upd])⟩
   ·obtain⟨k1,k2⟩:=base d1 (.tok sz 0) hd (by simp) (fun g' u1 u2 u3 u4=>⟨u3,u2,none,0,u1,.inl ⟨rfl,u4⟩⟩);exact⟨_,_,_,hk,k1,k2,.tok _ d1 sz [] _ (.snil _ _ _) (by simp) (by unfold AR;rw[Bd];simp) (by simp[Gh.upd]) (AM _) (fun _=>by simp[Gh.upd])⟩
  ·exact hk.elim
theorem Yt{cx:Cx}(hT:Cy P cx.T){d:Option Nat}{t ty:Nat}{s x:AV}{vs vx:Value}{K:HK}(hs:BI g w (AR h) s vs)(hx:BI g w (AR h) x vx)(hk:H9 cx d h t s x K) :
  NS P w0 g0 h0 h g w (Builtin.append_ #[t,t] ty #[vs,vx]) K:=by
 unfold H9 at hk;split at hk
 ·rename_i e ht;split at hk
  ·exact hk.elim
  ·rename_i hz;have hz:=AL hz;split at hk
   ·exact hk.elim
   ·rename_i k EH;have h5:=bz hI (sz:=(cx.T e).size) hx hk
    clear hk
    obtain⟨es2,hk,h6⟩:=h5;split at hk
    ·obtain⟨⟨q1,q2,q3⟩,hk⟩:=hk;obtain rfl:=hs.v_eq;obtain⟨news,n1,n2⟩:=h6 (FM q1);obtain⟨m1,m2,a,c,rfl,m4⟩:=n1
     by_cases hm:es2.length=0
     ·obtain rfl:=AB hm;obtain⟨g',av,h',k1,k2,k3,k4⟩:=cu hI hk;exact⟨_,w,g',av,h',ID hT w ht EH none a 0 0 c (Ak _),k1,k2,k3,k4⟩
     ·obtain⟨nc,rest,r1,r2,r3⟩:=HH hT w (ty:=ty) ht EH hz (olds:=[]) (a:=none) (n:=0) (cap:=0) ⟨by simp,by simp,none,0,rfl,.inl rfl⟩ rfl (fun _=>rfl) ⟨m1,m2,a,c,rfl,m4⟩ rfl (by omega) (by omega) (by rw[Bk];exact q2) (by omega);obtain⟨g',av,h',k1,k2,k3,k4⟩:=JM hI hk (vs:=([]++news++rest).toArray) (cap:=nc) e (FM q1) (by omega) (by simpa using r3) (by
       rw[D8,show(news++rest).toArray.toList=news++rest from rfl,Hl m1];exact n2) w.drew ⟨rfl,rfl,rfl,rfl⟩
      rw[Bk]at r1;exact⟨_,_,g',av,h',r1,k1,k2,k3,k4⟩
    ·rename_i Gm es;split at hk
     ·rename_i Qz;obtain Qz:=AL Qz;obtain⟨⟨q1,q2,q3,q4⟩,hk⟩:=hk;obtain⟨news,n1,n2⟩:=h6 (FM q1);obtain⟨m1,m2,a2,c2,rfl,m4⟩:=n1;cases hs with
      |full _ _ _ _ hr Ww Lv =>
       obtain⟨a,rfl⟩:=Lv;have FS:∀c∈es++es2,c.length=(cx.T e).size:=fun c hc=>(A3.1 hc).elim (fun h=>(Ww c h).trans Qz) (FM q1 c);obtain⟨olds,o1,o2⟩:=NX.of_rep hr (sz:=(cx.T e).size) (fun c hc=>(Ww c hc).trans Qz);have Wx:=o2.app n2;rw[←CI]at Wx;have ha:a=none→es.length=0:=by
        rintro rfl
        obtain⟨p1,p2,a',c',p3,p4⟩:=o1;cases p3;rcases p4 with h | ⟨b',h,_⟩
        ·exact h
        ·cases h
       obtain⟨nc,rest,r1,r2,r3⟩:=HH hT w (ty:=ty) ht EH hz o1 rfl ha ⟨m1,m2,a2,c2,rfl,m4⟩ rfl q2 (by omega) q3 q4;obtain⟨g',av,h',k1,k2,k3,k4⟩:=JM hI hk (vs:=(olds++news++rest).toArray) (cap:=nc) e FS (by rw[Ad];exact r2) (by rw[Fm];exact r3) (by
        rw[show(olds++news++rest).toArray.toList=olds++news++rest from rfl,Hl (by rw[Ad,Ad,o1.1,m1,E8])];exact Wx) w.drew ⟨rfl,rfl,rfl,rfl⟩
       rw[Ad]at k4;exact⟨_,_,g',av,h',r1,k1,k2,k3,k4⟩
     ·exact hk.elim
    ·rename_i r Gm es;have ho:=hI.objs r;split at hk
     ·rename_i sz n e0;rw[e0]at ho;split at hk
      ·rename_i Qz uL;obtain rfl:=AL uL;obtain Qz:=AL Qz;obtain⟨⟨q1,q2,q3,q4⟩,hk⟩:=hk;rw[Qz]at q1;obtain⟨news,n1,n2⟩:=h6 (FM q1);obtain⟨m1,m2,a2,c2,rfl,m4⟩:=n1;obtain⟨t1,l1,a,cap,a1,a3⟩:=ho;have hl:(h r).live:=by rw[e0];trivial
       have FS:∀c∈es++es2,es.length=n→True:=fun _ _ _=>trivial;cases hs with
       |tok _ _ _ _ _ hr Ww hu ht' hn Lv =>
        have hv:=Lv (q2.trans l1.symm);rw[a1]at hv;subst hv;subst q2;have FS:∀c∈es++es2,c.length=Gm:=fun c hc=>(A3.1 hc).elim (Ww c) (fun h=>(FM q1 c h).trans Qz.symm);obtain⟨olds,o1,o2⟩:=NX.of_rep hr Ww;have Wx:=o2.app n2;rw[←CI]at Wx;have ZZ:es.length≤cap:=by rcases a3 with ⟨e1,_⟩ | ⟨e1,_⟩<;>omega
        by_cases hm:es2.length=0
        ·obtain rfl:=AB hm;have Jb:=hI.objs r;rw[e0]at Jb
         obtain⟨k1,k2⟩:=hI.upd r (.tok Gm (es.length+([]:List (List AV)).length)) (g.ρ r) (g.ln r) (g.tk r) (g.own r) g.S w none ⟨rfl,rfl,rfl,Ak _⟩ (fun _ _ _=>rfl) (fun b e=>by cases e) (fun _ _ h=>h) (fun _ _ h=>.inl h) (fun b o e=>by cases e)
          (fun b _ e=>⟨(hI.loc r b hl e).1,.inl ⟨hl,e⟩⟩) (by simp) (fun _=>⟨rfl,Ak _,fun _=>rfl,fun _=>rfl⟩) (fun hg HQ=>by
           obtain⟨u1,u2,u3,u4⟩:=BA g r (g.ρ r) (g.ln r) (g.tk r) (g.own r) g.S;rw[AC,DB];exact Jb.same HQ (fun i hi=>DO (by simp) i hi) hg u1 u2 u3 u4 (fun b _ _=>⟨rfl,fun _ h=>h⟩))
         refine⟨_,w,_,_,_,ID hT w ht EH a a2 es.length cap c2 ZZ,hk,k1,k2,?_⟩;rw[B3];exact(BI.tok (AR h) r Gm es _ hr Ww hu ht' hn Lv).le k2
        ·by_cases JI:es.length+es2.length≤cap
         ·rcases a3 with ⟨e1,_⟩ | ⟨e1,b,E,Fz,off,rfl,e3,e4,e5,e6⟩
          ·omega
          ·rcases m4 with h | ⟨ba,rfl,IK⟩
           ·omega
           ·obtain⟨i,z,i1,i2,i3,i4,i5⟩:=Ho hT EH;have SC:(es.length+es2.length)*Gm≤cap*Gm:=Bj _ JI;have lA:news.length=es2.length*Gm:=by rw[Qz];exact m1
            have YZ:i.size=Gm:=i3.trans Qz.symm;have CN:=Tw (P:=P) t ty e i (hT.slice ht) i1 b off es.length cap Fz e4 ba es2.length c2 news (by rw[YZ];exact lA) IK m2 JI (by rw[YZ,lA,e5];rw[E8]at SC;omega);rw[YZ]at CN;have GB:∀j u,olds[j]?=some u→w.cell? ⟨b,off+j,none⟩=some u:=by
             obtain⟨p1,p2,a',c',p3,p4⟩:=o1;cases p3;intro j u hj;rcases p4 with h | ⟨b',h,h'⟩
             ·rw[h,Kh]at p1;rw[AB p1]at hj;simp at hj
             ·cases h
              have:=h' j u hj
              rwa [Addr.add_lit]at this
            obtain⟨p1,p2,p3⟩:=kO e4 e5 e1 JI lA o1.1 GB;generalize hnewd:Fz.toList.take (off+es.length*Gm)++news++Fz.toList.drop (off+es.length*Gm+news.length)=new at CN p1 p2 p3;have EO:=setRow_heap w b Fz new.toArray E (0,0) e4;have bL:=(hI.loc r b hl e3).1
            obtain⟨k1,k2⟩:=hI.upd r (.tok Gm (es.length+es2.length)) (.slice (some ⟨b,off,none⟩) (es.length+es2.length) cap) (es.length+es2.length) (g.tk r) (g.own r) (g.more b (off+(es.length+es2.length)*Gm)) (w.setRow b new.toArray) (some b)
             ⟨rfl,rfl,rfl,by rw[size_setRow];exact Ak _⟩ (fun k _ DD=>setRow_other w b k _ (fun e=>DD (by rw[e]))) (fun b' e=>by cases e;exact⟨hl,e3⟩) (fun _ _ h=>.inl h)
             (fun b' o hs=>hs.elim .inl (fun hs=>.inr ⟨by rw[size_setRow,hs.1];exact bL,.inr ⟨hl,by rw[hs.1];exact e3⟩⟩))
             (fun b' o e hs=>by
              cases e
              refine⟨?_,fun es ck he=>by rw[e4]at he;cases he⟩;rw[FC EO,FC e4];exact p3 o (e6 o hs)) (fun b' _ e=>by
              rw[e3]at e;cases e;exact⟨by rw[size_setRow];exact bL,.inl ⟨hl,e3⟩⟩) (by simp) (fun _=>⟨rfl,by omega,fun e=>(by rw[t1]at e;cases e),fun e=>by omega⟩) (fun hg HQ=>by
              obtain⟨u1,u2,u3,u4⟩:=BA g r (.slice (some ⟨b,off,none⟩) (es.length+es2.length) cap) (es.length+es2.length) (g.tk r) (g.own r) (g.more b (off+(es.length+es2.length)*Gm));exact⟨u3.trans t1,u2,_,cap,u1,  .inr ⟨JI,b,E,_,off,rfl,u4.trans e3,EO,by rw[Fm];exact p1,fun o ho=>by
               rcases ho with ho | ⟨_,ho⟩
               ·have h1:=e6 o ho;have h2:es.length*Gm≤(es.length+es2.length)*Gm:=Bj _ (by omega);omega
               ·exact ho⟩⟩)
            have Ec:=BI.slice_off (g:=g.upd r (.slice (some ⟨b,off,none⟩) (es.length+es2.length) cap) (es.length+es2.length) (g.tk r) (g.own r) (g.more b (off+(es.length+es2.length)*Gm))) (U:=AR (AW h r (.tok Gm (es.length+es2.length)))) (cap:=cap) (es:=es++es2) EO FS (by rw[Ad];exact JI) (by
             rw[Ad,show new.toArray.toList=new from rfl,p2];exact Wx.mono k2.keeps (fun _ h=>h) (fun _ h=>h.elim)) (fun o ho=>.inr ⟨rfl,by rw[Ad]at ho;exact Nat.add_lt_add_left ho off⟩)
            rw[Ad]at Ec;exact⟨_,_,_,_,_,CN,hk,k1,k2,.tok _ r Gm _ _ Ec FS (by unfold AR;rw[Bd];simp) (by simp[Gh.upd,t1]) (by simp[Gh.upd]) (fun _=>by simp[Gh.upd])⟩
         ·have fp:cap<es.length+es2.length:=by omega
          have ha:a=none→cap=0:=by
           rintro rfl
           rcases a3 with ⟨e1,_⟩ | ⟨_,b,_,_,_,e2,_⟩
           ·obtain⟨p1,p2,a',c',p3,p4⟩:=o1;cases p3;rcases p4 with h | ⟨b',h,_⟩
            ·omega
            ·cases h
           ·cases e2
          obtain⟨nc,rest,r1,r2,r3⟩:=HH hT w (ty:=ty) ht EH hz (by rw[←Qz];exact o1) rfl ha ⟨m1,m2,a2,c2,rfl,m4⟩ rfl (by omega) fp q3 q4;have EO:=Hx w.drew (.cells (olds++news++rest).toArray e (0,0)) (b:=w.heap.size) rfl
          obtain⟨k1,k2⟩:=hI.upd r (.tok Gm (es.length+es2.length)) (.slice (some ⟨w.heap.size,0,none⟩) (es.length+es2.length) nc) (es.length+es2.length) (g.tk r) (some w.heap.size) (g.more w.heap.size ((es.length+es2.length)*Gm))
           (w.drew.alloc (.cells (olds++news++rest).toArray e (0,0))) none
           ⟨rfl,rfl,rfl,by rw[World.size_alloc];exact Nat.le_succ _⟩ (fun k JX _=>by rw[heap_alloc_old _ _ (by exact JX)];rfl) (fun b' e=>by cases e) (fun _ _ h=>.inl h)
           (fun b' o hs=>hs.elim .inl (fun hs=>.inr ⟨by rw[World.size_alloc,hs.1];exact GN _,.inl (by rw[hs.1];exact Ak _)⟩))
           (fun b' o e=>by cases e) (fun b' _ e=>by cases e;exact⟨by rw[World.size_alloc];exact GN _,.inr (Ak _)⟩) (by simp) (fun _=>⟨rfl,by omega,fun e=>(by rw[t1]at e;cases e),fun e=>by omega⟩) (fun hg HQ=>by
            obtain⟨u1,u2,u3,u4⟩:=BA g r (.slice (some ⟨w.heap.size,0,none⟩) (es.length+es2.length) nc) (es.length+es2.length) (g.tk r) (some w.heap.size) (g.more w.heap.size ((es.length+es2.length)*Gm));exact⟨u3.trans t1,u2,_,nc,u1,.inr ⟨r2,w.heap.size,e,_,0,rfl,u4,EO,by rw[Fm,Qz,Bk];exact r3,fun o ho=>by
             rcases ho with ho | ⟨_,ho⟩
             ·have:=hI.slt _ _ ho;omega
             ·omega⟩⟩)
          have Ec:=BI.slice_row (g:=g.upd r (.slice (some ⟨w.heap.size,0,none⟩) (es.length+es2.length) nc) (es.length+es2.length) (g.tk r) (some w.heap.size) (g.more w.heap.size ((es.length+es2.length)*Gm))) (U:=AR (AW h r (.tok Gm (es.length+es2.length)))) (cap:=nc) (es:=es++es2) EO FS (by rw[Ad];exact r2) (by
           rw[Ad,show(olds++news++rest).toArray.toList=olds++news++rest from rfl,Hl (by rw[Ad,o1.1,m1,Qz,E8])];exact Wx.mono k2.keeps (fun _ h=>h) (fun _ h=>h.elim)) (fun o ho=>.inr ⟨rfl,by rw[Ad]at ho;exact ho⟩)
          rw[Ad]at Ec;exact⟨_,_,_,_,_,r1,hk,k1,k2,.tok _ r Gm _ _ Ec FS (by unfold AR;rw[Bd];simp) (by simp[Gh.upd,t1]) (by simp[Gh.upd]) (fun _=>by simp[Gh.upd])⟩
      ·exact hk.elim
     ·exact hk.elim
    ·rename_i r n;have ho:=hI.objs r;split at hk
     ·rename_i sz es e0;split at hk
      ·rename_i Qz;obtain Qz:=AL Qz;obtain⟨⟨q1,q2,q3,q4⟩,hk⟩:=hk;rw[Qz]at q1;obtain⟨news,n1,n2⟩:=h6 (FM q1);obtain⟨m1,m2,a2,c2,rfl,m4⟩:=n1;obtain⟨hv,olds,o1,o2⟩:=Uq hI e0 hs q2.symm;have Jb:=ho;rw[e0]at ho;obtain⟨t1,l1,al,a3⟩:=ho;have hl:(h r).live:=by rw[e0];trivial
       subst hv;have FS:∀c∈es++es2,c.length=sz:=fun c hc=>(A3.1 hc).elim (al c) (fun h=>(FM q1 c h).trans Qz.symm);have Wx:=o2.app n2;rw[←CI]at Wx;obtain⟨a,cap,hρ,ZZ,ha⟩:∃a cap,g.ρ r=.slice a es.length cap∧es.length≤cap∧(a=none→cap=0):=by
        rcases a3 with ⟨rfl,e2,e3⟩ | ⟨b,cap,E,Fz,e1,e2,e3,e4,e5,e6,e7⟩
        ·exact⟨none,0,e2,Ak _,fun _=>rfl⟩
        ·exact⟨_,cap,e1,e3,fun e=>by cases e⟩
       by_cases hm:es2.length=0
       ·obtain rfl:=AB hm;rw[e0]at Jb
        obtain⟨k1,k2⟩:=hI.upd r (.arr sz (es++[])) (g.ρ r) (g.ln r) (g.tk r) (g.own r) g.S w none ⟨rfl,rfl,rfl,Ak _⟩ (fun _ _ _=>rfl) (fun b e=>by cases e) (fun _ _ h=>h) (fun _ _ h=>.inl h) (fun b o e=>by cases e)
         (fun b _ e=>⟨(hI.loc r b hl e).1,.inl ⟨hl,e⟩⟩) (by simp) (fun _=>⟨rfl,Ak _,fun _=>rfl,fun _=>rfl⟩) (fun hg HQ=>by
          obtain⟨u1,u2,u3,u4⟩:=BA g r (g.ρ r) (g.ln r) (g.tk r) (g.own r) g.S;rw[B3];exact Jb.same HQ (fun i hi=>DO (by simp) i hi) hg u1 u2 u3 u4 (fun b _ _=>⟨rfl,fun _ h=>h⟩))
        refine⟨g.ρ r,w,_,_,_,?_,hk,k1,k2,?_⟩
        ·rw[hρ];exact ID hT w ht EH a a2 es.length cap c2 ZZ
        ·have:=hs.le k2
         rw[←q2]at this;exact this
       ·by_cases JI:es.length+es2.length≤cap
        ·rcases a3 with ⟨rfl,e2,e3⟩ | ⟨b,Lu,E,Fz,e1,e2,e3,e4,e5,e6,e7⟩
         ·rw[e2]at hρ;cases hρ;omega
         ·rw[e1]at hρ;simp only[Value.slice.injEq,true_and]at hρ;obtain⟨rfl,rfl⟩:=hρ;rcases m4 with h | ⟨ba,rfl,IK⟩
          ·omega
          ·obtain⟨i,z,i1,i2,i3,i4,i5⟩:=Ho hT EH;have SC:(es.length+es2.length)*sz≤Lu*sz:=Bj _ JI;have lA:news.length=es2.length*sz:=by rw[Qz];exact m1
           have YZ:i.size=sz:=i3.trans Qz.symm;have CN:=PS (P:=P) t ty e i (hT.slice ht) i1 b es.length Lu Fz e4 ba es2.length c2 news (by rw[YZ];exact lA) IK m2 JI (by rw[YZ,lA,←E8,e5];exact SC);rw[YZ]at CN;have GB:∀j u,olds[j]?=some u→w.cell? ⟨b,j,none⟩=some u:=by
            obtain⟨p1,p2,a',c',p3,p4⟩:=o1;rw[e1]at p3;cases p3;intro j u hj;rcases p4 with h | ⟨b',h,h'⟩
            ·rw[h,Kh]at p1;rw[AB p1]at hj;simp at hj
            ·cases h
             have:=h' j u hj
             rwa [Addr.add_lit,Bk]at this
           obtain⟨p1,p2,p3⟩:=gX e4 e5 e3 JI lA o1.1 GB;generalize hnewd:Fz.toList.take (es.length*sz)++news++Fz.toList.drop (es.length*sz+news.length)=new at CN p1 p2 p3;have EO:=setRow_heap w b Fz new.toArray E (0,0) e4;have bL:=(hI.loc r b hl e2).1
           obtain⟨k1,k2⟩:=hI.upd r (.arr sz (es++es2)) (.slice (some ⟨b,0,none⟩) (es.length+es2.length) Lu) (es.length+es2.length) (g.tk r) (g.own r) g.S (w.setRow b new.toArray) (some b)
            ⟨rfl,rfl,rfl,by rw[size_setRow];exact Ak _⟩ (fun k _ DD=>setRow_other w b k _ (fun e=>DD (by rw[e]))) (fun b' e=>by cases e;exact⟨hl,e2⟩) (fun _ _ h=>h) (fun _ _ h=>.inl h)
            (fun b' o e hs=>by cases e;exact absurd hs (e7 o)) (fun b' _ e=>by
             rw[e2]at e;cases e;exact⟨by rw[size_setRow];exact bL,.inl ⟨hl,e2⟩⟩) (by simp) (fun _=>⟨rfl,by omega,fun e=>(by rw[t1]at e;cases e),fun e=>by omega⟩) (fun hg HQ=>by
             obtain⟨u1,u2,u3,u4⟩:=BA g r (.slice (some ⟨b,0,none⟩) (es.length+es2.length) Lu) (es.length+es2.length) (g.tk r) (g.own r) g.S;refine⟨u3.trans t1,by rw[u2,Ad],FS,.inr ⟨b,Lu,E,_,by rw[u1,Ad],u4.trans e2,by rw[Ad];exact JI,EO,by rw[Fm];exact p1,?_,e7⟩⟩;rw[Ad,show new.toArray.toList=new from rfl,p2];exact Wx.mono HQ (fun _ h=>h) (fun _ h=>h.elim))
           rw[e1];exact⟨_,_,_,_,_,CN,hk,k1,k2,.msl _ r _ _ _ (by unfold AR;rw[Bd];simp) (by simp[Gh.upd,t1]) (by simp[Gh.upd]) (.inr ⟨_,rfl⟩) (fun _=>by simp[Gh.upd])⟩
        ·have fp:cap<es.length+es2.length:=by omega
         obtain⟨nc,rest,r1,r2,r3⟩:=HH hT w (ty:=ty) ht EH hz (by rw[←Qz];exact o1) hρ ha ⟨m1,m2,a2,c2,rfl,m4⟩ rfl (by omega) fp q3 q4;have EO:=Hx w.drew (.cells (olds++news++rest).toArray e (0,0)) (b:=w.heap.size) rfl
         obtain⟨k1,k2⟩:=hI.upd r (.arr sz (es++es2)) (.slice (some ⟨w.heap.size,0,none⟩) (es.length+es2.length) nc) (es.length+es2.length) (g.tk r) (some w.heap.size) g.S
          (w.drew.alloc (.cells (olds++news++rest).toArray e (0,0))) none
          ⟨rfl,rfl,rfl,by rw[World.size_alloc];exact Nat.le_succ _⟩ (fun k JX _=>by rw[heap_alloc_old _ _ (by exact JX)];rfl) (fun b' e=>by cases e) (fun _ _ h=>h) (fun _ _ h=>.inl h)
          (fun b' o e=>by cases e) (fun b' _ e=>by cases e;exact⟨by rw[World.size_alloc];exact GN _,.inr (Ak _)⟩) (by simp) (fun _=>⟨rfl,by omega,fun e=>(by rw[t1]at e;cases e),fun e=>by omega⟩) (fun hg HQ=>by
           obtain⟨u1,u2,u3,u4⟩:=BA g r (.slice (some ⟨w.heap.size,0,none⟩) (es.length+es2.length) nc) (es.length+es2.length) (g.tk r) (some w.heap.size) g.S;refine⟨u3.trans t1,by rw[u2,Ad],FS,.inr ⟨w.heap.size,nc,e,_,by rw[u1,Ad],u4,by rw[Ad];exact r2,EO,by rw[Fm,Qz];exact r3,?_,fun o ho=>by have:=hI.slt _ _ ho;omega⟩⟩;rw[Ad,show(olds++news++rest).toArray.toList=olds++news++rest from rfl,Hl (by rw[Ad,o1.1,m1,Qz,E8])];exact Wx.mono HQ (fun _ h=>h) (fun _ h=>h.elim))
         exact⟨_,_,_,_,_,r1,hk,k1,k2,.msl _ r _ _ _ (by unfold AR;rw[Bd];simp) (by simp[Gh.upd,t1]) (by simp[Gh.upd]) (.inr ⟨_,rfl⟩) (fun _=>by simp[Gh.upd])⟩
      ·exact hk.elim
     ·exact hk.elim
    ·exact hk.elim
 ·exact hk.elim
end
section
variable {P:Program}{w0:World}{g0:Gh}{h0 h:Nat→HO}{g:Gh}{w:World}(hI:DJ w0 g0 h0 h g w)
include hI
theorem NF{d sz n:Nat}{es:List (List AV)}{a:Option Addr}(hd:h d=.free)(hl:∀c∈es,c.length=sz)(hn:es.length=n)(hr:BI g w Fp (.slice .none es) (.slice a n n)) :
  ∃g',DJ w0 g0 h0 (AW h d (.tok sz n)) g' w∧Le h g w (AW h d (.tok sz n)) g' w∧BI g' w (AR (AW h d (.tok sz n))) (.slice (.id d sz) es) (.slice a n n):=by
 obtain⟨k1,k2⟩:=hI.upd d (.tok sz n) (.slice a n n) n true none g.S w none ⟨rfl,rfl,rfl,Ak _⟩ (fun _ _ _=>rfl) (fun b e=>by cases e) (fun _ _ h=>h) (fun _ _ h=>.inl h) (fun b o e=>by cases e) (fun b _ e=>by cases e) (by simp)
  (fun hu=>absurd hd hu) (fun _ _=>by
   obtain⟨u1,u2,u3,u4⟩:=BA g d (.slice a n n) n true none g.S;exact⟨u3,u2,a,n,u1,.inl ⟨rfl,u4⟩⟩)
 exact⟨_,k1,k2,.tok _ d sz es _ (((hr.up (AR h)).le k2)) hl (by unfold AR;rw[Bd];simp) (by simp[Gh.upd]) (by simp[Gh.upd,hn]) (fun _=>by simp[Gh.upd])⟩
theorem Yv{cx:Cx}{d:Option Nat}{x:AV}{vx:Value}{K:HK}(hx:BI g w (AR h) x vx)(hk:N2 cx d h x K):∃g' av h',K av h'∧DJ w0 g0 h0 h' g' w∧Le h g w h' g' w∧BI g' w (AR h') av vx:=by
 have plain:K x h→∃g' av h',K av h'∧DJ w0 g0 h0 h' g' w∧Le h g w h' g' w∧BI g' w (AR h') av vx:=fun hk=>⟨g,x,h,hk,hI,.refl _ _ _,hx⟩;unfold N2 at hk;split at hk
 ·exact plain hk
 ·rename_i d;split at hk
  ·rename_i sz _;split at hk
   ·refine⟨g,yk x,h,hk,hI,.refl _ _ _,?_⟩;cases x with
    |slice tk es=>exact(BI.slice_none hx).up _
    |_=>exact hx
   ·split at hk
    ·split at hk
     ·rename_i hd;obtain rfl:=hx.v_eq;obtain⟨g',k1,k2,k3⟩:=NF hI (sz:=sz) (es:=[]) (a:=none) hd (by simp) rfl (.snil _ _ _);exact⟨g',_,_,hk,k1,k2,k3⟩
     ·exact hk.elim
    ·exact plain hk
  ·split at hk
   ·rename_i sz _;split at hk
    ·split at hk
     ·rename_i hd;obtain rfl:=hx.v_eq
      obtain⟨k1,k2⟩:=hI.upd d (.arr sz []) (.slice none 0 0) 0 true none g.S w none ⟨rfl,rfl,rfl,Ak _⟩ (fun _ _ _=>rfl) (fun b e=>by cases e) (fun _ _ h=>h) (fun _ _ h=>.inl h) (fun b o e=>by cases e) (fun b _ e=>by cases e) (by simp)
       (fun hu=>absurd hd hu) (fun _ _=>by
        obtain⟨u1,u2,u3,u4⟩:=BA g d (.slice none 0 0) 0 true none g.S;exact⟨u3,u2,by simp,.inl ⟨rfl,u1,u4⟩⟩)
      exact⟨_,_,_,hk,k1,k2,.msl _ d 0 none 0 (by unfold AR;rw[Bd];simp) (by simp[Gh.upd]) (AM _) (.inl rfl) (fun _=>by simp[Gh.upd])⟩
     ·exact hk.elim
    ·exact plain hk
   ·exact plain hk
theorem XJ{T:Gq}{mku:List Nat}{d:Option Nat}{ty:Nat}{K:HK}(hk:Kx T mku d h ty K):NS P w0 g0 h0 h g w (Instr.makeMap ty none) K:=by
 unfold Kx at hk;split at hk
 ·exact hk.elim
 ·rename_i d;split at hk
  ·rename_i hd;split at hk
   ·split at hk
    ·rename_i sh _;split at hk
     ·obtain⟨k1,k2⟩:=hI.newOwn hd (.mapU sh []) (.map #[] 0) (.map (some w.heap.size)) 0 false w ⟨rfl,rfl,rfl,rfl⟩ (by simp) (fun hg HQ=>by
       obtain⟨u1,u2,u3,u4⟩:=BA g d (.map (some w.heap.size)) 0 false (some w.heap.size) g.S;exact⟨u3,w.heap.size,#[],0,u4,u1,Hx w _ rfl,⟨rfl,by simp,by simp,by simp,by simp,by simp⟩,by simp,fun o ho=>by have:=hI.slt _ _ ho;omega⟩)
      refine⟨_,_,_,_,_,?_,hk,k1,k2,.mref _ d w.heap.size (by unfold AR;rw[Bd];simp) ?_ ?_⟩
      ·simp[Instr.makeMap]
      ·simp[Gh.upd]
      ·simp[Gh.upd]
     ·obtain⟨k1,k2⟩:=hI.newOwn hd (.map sh []) (.map #[] 0) (.map (some w.heap.size)) 0 false w ⟨rfl,rfl,rfl,rfl⟩ (by simp) (fun hg HQ=>by
       obtain⟨u1,u2,u3,u4⟩:=BA g d (.map (some w.heap.size)) 0 false (some w.heap.size) g.S;exact⟨u3,w.heap.size,#[],0,u4,u1,Hx w _ rfl,⟨rfl,by simp,by simp,by simp,by simp,by simp⟩,by simp,fun o ho=>by have:=hI.slt _ _ ho;omega⟩)
      refine⟨_,_,_,_,_,?_,hk,k1,k2,.mref _ d w.heap.size (by unfold AR;rw[Bd];simp) ?_ ?_⟩
      ·simp[Instr.makeMap]
      ·simp[Gh.upd]
      ·simp[Gh.upd]
    ·exact hk.elim
   ·exact hk.elim
  ·exact hk.elim
omit hI in
theorem BI.sub{es:List (List AV)}{sz l m:Nat}{x:Value}{a:Option Addr}{n cap:Nat}(hr:BI g w Fp (.slice .none es) x)(hx:x=.slice a n cap)(hl:∀c∈es,c.length=sz)(h1:l≤m)(h2:m≤es.length)(c' : Nat)(hc:m-l≤c')(a' : Option Addr)
  (ha:a'=a.map (·.add (l*sz))∨(m=l∧a'=a)):BI g w Fp (.slice .none ((es.take m).drop l)) (.slice a' (m-l) c'):=by
 subst hx;have CB:((es.take m).drop l).length=m-l:=by rw[Ar,AJ];omega
 by_cases h0:m-l=0
 ·have:(es.take m).drop l=[]:=AB (by omega)
  rw[this,h0];exact .snil _ _ _
 ·cases hr with
  |snil=>simp at h2;omega
  |slice _ _ b off Gm cap val ov Py DE Ec =>
   have hz:Gm=sz:=by
    have:(0:Nat)<es.length:=by omega
    have h3:=Py 0 es[0] (Ay this);rw[←h3];exact hl _ (Ao this)
   subst hz;have zg : a'=some ⟨b,off+l*Gm,none⟩:=by
    rcases ha with h | ⟨h,_⟩
    ·rw[h];simp[Addr.add_lit]
    ·omega
   subst zg;rw[←CB];have Fb:∀(i:Nat) (cs:List AV),((es.take m).drop l)[i]?=some cs→es[l+i]?=some cs:=fun i cs h=>by
    rw[BR]at h
    by_cases hi:l+i<m
    ·rwa [BH hi]at h
    ·rw[A6 (by rw[AJ];omega)]at h;cases h
   refine .slice _ _ b (off+l*Gm) Gm c' (fun i j=>val (l+i) j) (by rw[CB];exact hc) (fun i cs h=>Py _ _ (Fb i cs h)) (fun i cs j av h1 h2=>?_) (fun i cs j av h1 h2=>Ec _ _ _ _ (Fb i cs h1) h2)
   have:=DE _ _ _ _ (Fb i cs h1) h2
   rwa [show off+(l+i)*Gm+j=off+l*Gm+i*Gm+j by rw[E8];omega]at this
omit hI in
theorem KC{t:Nat→AV}{ρ:Operand→Value}(ht:∀x:Operand,BI g w (AR h) (ev t x) (ρ x)){o:Option Operand}{i:Option Int}(hk:B6 t o=some i):o.map ρ=i.map fun n=>.int .i64 n:=by
 cases o with
 |none=>cases hk;rfl
 |some x =>
  unfold B6 at hk;dsimp only at hk;split at hk
  ·rename_i n e;cases hk
   have:=ht x
   rw[e]at this;simp[this.v_eq]
  ·cases hk
omit hI in
theorem Tx(b:Bool)(len cap:Nat)(lo hi mx:Option Int)(jN:mx=none∨hi≠none)(h0:0≤lo.getD 0)(h1:lo.getD 0≤hi.getD len)(h2:hi.getD len≤mx.getD cap)(h3:mx.getD cap≤cap) :
  (Instr.sliceBounds b len cap (lo.map fun n=>.int .i64 n) (hi.map fun n=>.int .i64 n) (mx.map fun n=>.int .i64 n)).run P w=.ok ((lo.getD 0).toNat,(hi.getD len).toNat,(mx.getD cap).toNat) w:=by
 have e1:∀n:Int,0≤n→(n.toNat:Int)=n:=fun n hn=>Int.toNat_of_nonneg hn;cases mx with
 |none =>
  cases hi with
  |none =>
   cases lo with
   |none=>simp[Instr.sliceBounds]
   |some l =>
    simp only[Cw,DW]at h0 h1 h2;simp[Instr.sliceBounds,run_sliceBound,h0,h1]
  |some hh =>
   simp only[Cw,DW]at h1 h2;have qc:0≤hh:=by omega
   cases lo with
   |none=>simp[Instr.sliceBounds,run_sliceBound,qc,h2]
   |some l =>
    simp only[Cw]at h0 h1;simp[Instr.sliceBounds,run_sliceBound,h0,h1,h2,qc,e1]
 |some m =>
  cases hi with
  |none=>simp at jN
  |some hh =>
   simp only[Cw]at h1 h2 h3;have qc:0≤hh:=by omega
   have r8:0≤m:=by omega
   cases lo with
   |none=>simp[Instr.sliceBounds,run_sliceBound,h2,h3,qc,r8,e1]
   |some l =>
    simp only[Cw]at h0 h1;simp[Instr.sliceBounds,run_sliceBound,h0,h1,h2,h3,qc,r8,e1]
omit hI in
theorem EJ{T:Gq}(hT:Cy P T){ty e k:Nat}(ht:(T ty).d=.slice e)(hk:(T e).size=k+1)(a:Option Addr)(len cap:Nat)(lo hi mx:Option Int)(jN:mx=none∨hi≠none)(h0:0≤lo.getD 0)(h1:lo.getD 0≤hi.getD len)(h2:hi.getD len≤mx.getD cap)(h3:mx.getD cap≤cap) :
  (Instr.sliceAt ty (.slice a len cap) (lo.map fun n=>.int .i64 n) (hi.map fun n=>.int .i64 n) (mx.map fun n=>.int .i64 n)).run P w =
   .ok (.slice (if(mx.getD cap).toNat=(lo.getD 0).toNat then a else a.map (·.add ((lo.getD 0).toNat*(T e).size))) ((hi.getD len).toNat-(lo.getD 0).toNat) ((mx.getD cap).toNat-(lo.getD 0).toNat)) w:=by
 have hu:=hT.slice ht;have hb:=Tx (P:=P) (w:=w) true len cap lo hi mx jN h0 h1 h2 h3;simp only[Instr.sliceAt,Sem.run_bind,run_underlying hu,Result.andThen_ok,Instr.slice,hb,hT.size1 w hk,Sem.run_pure];rw[hk]
theorem DJ.moveO(r r2:Nat)(DD:r2≠r)(hf:h r2=.free)(hl:(h r).live){ob:Option Nat}(ho:∀c,ob=some c→g.own r=some c)(o' : HO)(x:Value)(n:Nat)(t:Bool)(hn:o'≠.free)
  (Jb:EY g w (g.upd r2 x n t ob g.S) w→Ea (g.upd r2 x n t ob g.S) w (AR (AW (AW h r .dead) r2 o')) r2 o') :
  DJ w0 g0 h0 (AW (AW h r .dead) r2 o') (g.upd r2 x n t ob g.S) w∧Le h g w (AW (AW h r .dead) r2 o') (g.upd r2 x n t ob g.S) w:=by
 have dq:JS g (g.upd r2 x n t ob g.S) (AR h):=by
  intro i hi;have e:i≠r2:=fun e=>hi (by rw[e];exact hf);refine⟨by simp[Gh.upd,e],by simp[Gh.upd,e],fun _=>by simp[Gh.upd,e],fun _=>by simp[Gh.upd,e]⟩
 have hK:EY g w (g.upd r2 x n t ob g.S) w:=fun b o hb=>⟨hb,rfl,fun _ _ h=>h⟩;have KZ:∀i,AR h i→AR (AW (AW h r .dead) r2 o') i:=fun i hi=>DO hn i (DO (by simp) i hi);have key:∀i,i≠r2→(AW (AW h r .dead) r2 o' i).live→i≠r∧(h i).live:=fun i h2 hl=>by
  rw[B1 _ _ _ _ h2]at hl
  by_cases e:i=r
  ·subst e;rw[Bd]at hl;exact hl.elim
  ·rw[B1 _ _ _ _ e]at hl;exact⟨e,hl⟩
 have own:∀i,i≠r2→(g.upd r2 x n t ob g.S).own i=g.own i:=fun i e=>by simp[Gh.upd,e]
 have Tl:(g.upd r2 x n t ob g.S).own r2=ob:=by simp[Gh.upd]
 refine⟨⟨hI.os,hI.tape,hI.output,hI.size,hI.frame,hI.slt,fun i=>?_,fun i j c hi hj ei ej=>?_,fun i c hi ei=>?_,hI.sg,hI.glob.keep hK⟩,dq,KZ,hK⟩
 ·by_cases e:i=r2
  ·subst e;rw[Bd];exact Jb hK
  ·rw[B1 _ _ _ _ e]
   by_cases e1:i=r
   ·subst e1;rw[Bd];trivial
   ·rw[B1 _ _ _ _ e1];exact(hI.objs i).same hK KZ dq (by simp[Gh.upd,e]) (by simp[Gh.upd,e]) (by simp[Gh.upd,e]) (by simp[Gh.upd,e]) (fun b hl hb=>⟨rfl,fun k hk=>hk⟩)
 ·by_cases e1:i=r2<;>by_cases e2:j=r2
  ·exact e1.trans e2.symm
  ·subst e1;rw[Tl]at ei;rw[own j e2]at ej;obtain⟨a1,a2⟩:=key j e2 hj;exact absurd (hI.inj j r _ a2 hl ej (ho _ ei)) a1
  ·subst e2;rw[Tl]at ej;rw[own i e1]at ei;obtain⟨a1,a2⟩:=key i e1 hi;exact absurd (hI.inj i r _ a2 hl ei (ho _ ej)) a1
  ·rw[own i e1]at ei;rw[own j e2]at ej;exact hI.inj i j c (key i e1 hi).2 (key j e2 hj).2 ei ej
 ·by_cases e1:i=r2
  ·subst e1;rw[Tl]at ei;exact hI.loc r _ hl (ho _ ei)
  ·rw[own i e1]at ei;exact hI.loc i c (key i e1 hi).2 ei
theorem Ya{cx:Cx}(hT:Cy P cx.T){d:Option Nat}{ty:Nat}{x:AV}{vx:Value}{t:Nat→AV}{ρ:Operand→Value}(ht:∀x:Operand,BI g w (AR h) (ev t x) (ρ x)){lo hi mx:Option Operand}{K:HK}(hx:BI g w (AR h) x vx)
  (hk:Tt cx d h ty x (B6 t lo) hi mx K):NS P w0 g0 h0 h g w (Instr.sliceAt ty vx (lo.map ρ) (hi.map ρ) (mx.map ρ)) K:=by
 unfold Tt at hk;split at hk
 ·rename_i d HA e1;rw[KC ht e1];split at hk
  ·rename_i e hs;split at hk
   ·exact hk.elim
   ·rename_i k EH;split at hk
    ·rename_i r sz es;split at hk
     ·rename_i Gm n e0;split at hk
      ·rename_i hd;split at hk
       ·rename_i q1 q2;obtain rfl:=AL q1;have q2:=AL q2;obtain⟨⟨rfl,h1,h2⟩,hk⟩:=hk;have hl:(h r).live:=by rw[e0];trivial
        have DD:Kq cx d≠r:=fun e=>by rw[e,e0]at hd;cases hd
        have ho:=hI.objs r;rw[e0]at ho;obtain⟨t1,l1,a,cap,a1,a3⟩:=ho;have hr:=hx.slice_none;cases hx with
        |tok _ _ _ _ _ oG Ww hu ht' hn Lv =>
         have hv:=Lv l1.symm;rw[a1]at hv;subst hv;have ZZ:es.length≤cap:=by rcases a3 with ⟨e1,_⟩ | ⟨e1,_⟩<;>omega
         have CN:=EJ (P:=P) (w:=w) hT hs EH a es.length cap (some HA) none none (.inl rfl) h1 h2 (by simp only[DW];omega) (by simp);simp only[Cw,DW,Ch]at CN;have CB:(es.drop HA.toNat).length=es.length-HA.toNat:=Ar;have fE:=BI.sub (c':=cap-HA.toNat) hr rfl Ww (l:=HA.toNat) (m:=es.length) (by omega) (Ak _) (by omega) (if cap=HA.toNat then a else a.map (·.add (HA.toNat*(cx.T e).size))) (by
          split
          ·exact .inr ⟨by omega,rfl⟩
          ·rw[q2];exact .inl rfl)
         rw[Dv]at fE
         have fin:∀ob:Option Nat,(∀c,ob=some c→g.own r=some c)→(es.length-HA.toNat=cap-HA.toNat∧ob=none∨es.length-HA.toNat≤cap-HA.toNat∧∃b E vs off,(if cap=HA.toNat then a else a.map (·.add (HA.toNat*(cx.T e).size)))=some ⟨b,off,none⟩∧ob=some b∧w.heap[b]?=some (.cells vs E (0,0))∧vs.size=off+(cap-HA.toNat)*Gm∧∀o,g.S b o→o<off+(es.length-HA.toNat)*Gm) →
           NS P w0 g0 h0 h g w (Instr.sliceAt ty (.slice a es.length cap) ((some HA).map fun n=>.int .i64 n) ((none:Option Operand).map ρ) ((none:Option Operand).map ρ)) K:=fun ob ho qr=>by
          obtain⟨k1,k2⟩:=hI.moveO r (Kq cx d) DD hd hl ho (.tok Gm (es.drop HA.toNat).length) (.slice (if cap=HA.toNat then a else a.map (·.add (HA.toNat*(cx.T e).size))) (es.length-HA.toNat) (cap-HA.toNat)) (es.length-HA.toNat) true (by simp) (fun HQ=>by
           obtain⟨u1,u2,u3,u4⟩:=BA g (Kq cx d) (.slice (if cap=HA.toNat then a else a.map (·.add (HA.toNat*(cx.T e).size))) (es.length-HA.toNat) (cap-HA.toNat)) (es.length-HA.toNat) true ob g.S;refine⟨u3,u2.trans CB.symm,_,_,by rw[CB];exact u1,?_⟩;rw[CB,u4];exact qr)
          exact⟨_,w,_,_,_,CN,hk,k1,k2,.tok _ _ _ _ _ (((fE.mono k2.keeps (fun _ h=>h) (fun _ h=>h.elim))).up _) (fun c hc=>Ww c (Ik hc)) (by unfold AR;rw[Bd];simp) (by simp[Gh.upd]) (by simp[Gh.upd]) (fun _=>by simp[Gh.upd])⟩
         rcases a3 with ⟨e1,e2⟩ | ⟨e1,b,E,vs,off,rfl,e3,e4,e5,e6⟩
         ·exact fin none (fun c h=>by cases h) (.inl ⟨by omega,rfl⟩)
         ·by_cases hc:cap=HA.toNat
          ·exact fin none (fun c h=>by cases h) (.inl ⟨by omega,rfl⟩)
          ·refine fin (some b) (fun c h=>by cases h;exact e3) (.inr ⟨by omega,b,E,vs,off+HA.toNat*Gm,?_,rfl,e4,?_,fun o ho=>?_⟩)
           ·rw[Al hc];simp[Addr.add_lit,q2]
           ·rw[e5,Nat.sub_mul]
            have:=Bj Gm (show HA.toNat≤cap by omega)
            omega
           ·have:=e6 o ho
            rw[Nat.sub_mul]
            have:=Bj Gm (show HA.toNat≤es.length by omega)
            omega
       ·exact hk.elim
      ·exact hk.elim
     ·exact hk.elim
    ·exact hk.elim
  ·exact hk.elim
 ·exact hk.elim
omit hI in
theorem No{sz:Nat}:∀{es:List (List AV)},(∀cs∈es,cs.length=sz)→∀k,(es.take k).flatten=es.flatten.take (k*sz)
 | [],_,k=>by simp
 |c::es,hl,0=>by simp
 |c::es,hl,k+1=>by
  have h1:=hl c (Aa ..);have h2:c.length≤k*sz+sz:=by omega
  rw[IP,Bz,Bz,No (fun x hx=>hl x (Af _ hx)) k,List.take_append,h1,DV,
   AT h2,show k*sz+sz-sz=k*sz by omega]
omit hI in
theorem CF.takeE{U:Nat→Prop}{sz k:Nat}{es:List (List AV)}{vs:List Value}(hl:∀cs∈es,cs.length=sz)(hk:k≤es.length)(h:CF g w U es.flatten (vs.take (es.length*sz))):CF g w U (es.take k).flatten (vs.take (k*sz)):=by
 have e:vs.take (k*sz)=(vs.take (es.length*sz)).take (k*sz):=by
  rw[Kf,Nat.min_eq_left (Bj _ hk)]
 rw[No hl,e];refine⟨by rw[AJ (l:=vs.take (es.length*sz)),h.1,AJ],fun x hx=>h.2.1 x (Er hx),fun i av x q1 q2=>?_⟩;have hi:i<k*sz:=by
  rcases EF i (k*sz)with q | q
  ·exact q
  ·rw[Js,Al (by omega)]at q1;cases q1
 rw[Js,Az hi]at q1 q2;exact h.2.2 i av x q1 q2
theorem aC{cx:Cx}(hT:Cy P cx.T){d:Option Nat}{ty:Nat}{x:AV}{vx:Value}{t:Nat→AV}{ρ:Operand→Value}(ht:∀x:Operand,BI g w (AR h) (ev t x) (ρ x)){hi:Option Operand}{K:HK}(hx:BI g w (AR h) x vx)
  (hk:gO cx d h ty x (B6 t hi) K):NS P w0 g0 h0 h g w (Instr.sliceAt ty vx none (hi.map ρ) none) K:=by
 unfold gO at hk;split at hk
 ·rename_i d LB e1;rw[KC ht e1];split at hk
  ·rename_i e hs;split at hk
   ·exact hk.elim
   ·rename_i k EH;split at hk
    ·rename_i r n;split at hk
     ·rename_i sz es e0;split at hk
      ·rename_i hd;split at hk
       ·rename_i q1 q3;have q1:=AL q1;obtain⟨⟨rfl,h1,h2⟩,hk⟩:=hk;have hl:(h r).live:=by rw[e0];trivial
        have DD:Kq cx d≠r:=fun e=>by rw[e,e0]at hd;cases hd
        have ho:=hI.objs r;rw[e0]at ho;obtain⟨t1,l1,al,a2⟩:=ho;have CB:(es.take LB.toNat).length=LB.toNat:=by rw[AJ];omega
        cases hx with
        |msl _ _ _ a cap hu ht' Xt ha Lv =>
         have hv:=Lv l1.symm;have Ox:es.length≤cap:=by
          rcases a2 with ⟨b1,_,_⟩ | ⟨b,Lu,E,vs,b1,_,b3,_⟩
          ·subst b1;exact AM _
          ·rw[b1]at hv;cases hv;exact b3
         have CN:=EJ (P:=P) (w:=w) hT hs EH a es.length cap none (some LB) none (.inl rfl) (by simp) (by simp only[DW,Cw];exact h1) (by simp only[Cw,DW];omega) (by simp);have Ln:(if cap-(0:Nat)=0 then a else a.map (·.add (0*(cx.T e).size)))=a:=by
          rw[Kh];split
          ·rfl
          ·rcases ha with e3 | ⟨b,rfl⟩
           ·cases a with
            |none=>rfl
            |some a=>simp[Addr.add]
           ·rfl
         simp only[Cw,DW,Ch,Int.toNat_zero,Nat.sub_zero]at CN Ln;have key:∃a',(Instr.sliceAt ty (.slice a es.length cap) ((none:Option Int).map fun n=>.int .i64 n) ((some LB).map fun n=>.int .i64 n) ((none:Option Int).map fun n=>.int .i64 n)).run P w=.ok (.slice a' LB.toNat cap) w∧(a'=a):=⟨_,CN,by first | exact Ln | (split<;>first | rfl | exact Ln | (simp_all))⟩
         obtain⟨a',CN,rfl⟩:=key;have JY:BI (g.upd (Kq cx d) (.slice a' LB.toNat cap) LB.toNat true (g.own r) g.S) w (AR (AW (AW h r .dead) (Kq cx d) (.arr sz (es.take LB.toNat)))) (.msl (Kq cx d) LB.toNat) (.slice a' LB.toNat cap) :=
          .msl _ _ _ _ _ (by unfold AR;rw[Bd];simp) (by simp[Gh.upd]) (by simp[Gh.upd]) (ha.elim (fun e=>.inl (by omega)) .inr) (fun _=>by simp[Gh.upd])
         obtain⟨k1,k2⟩:=hI.moveO r (Kq cx d) DD hd hl (ob:=g.own r) (fun c h=>h) (.arr sz (es.take LB.toNat)) (.slice a' LB.toNat cap) LB.toNat true (by simp) (fun HQ=>by
          obtain⟨u1,u2,u3,u4⟩:=BA g (Kq cx d) (.slice a' LB.toNat cap) LB.toNat true (g.own r) g.S;refine⟨u3,u2.trans CB.symm,fun c hc=>al c (Er hc),?_⟩;rcases a2 with ⟨b1,b2,b3⟩ | ⟨b,Lu,E,vs,b1,b2,b3,b4,b5,b6,b7⟩
          ·subst b1;rw[b2]at hv;cases hv;have h0:LB.toNat=0:=by simp only[AC]at h2;omega
           exact .inl ⟨List.take_nil,by rw[u1,h0],u4.trans b3⟩
          ·rw[b1]at hv;cases hv;refine .inr ⟨b,cap,E,vs,by rw[CB];exact u1,u4.trans b2,by rw[CB];omega,b4,b5,?_,b7⟩;rw[CB];exact(CF.takeE al (by omega) b6).mono HQ (fun _ h=>h) (fun _ h=>h.elim))
         exact⟨_,w,_,_,_,CN,hk,k1,k2,JY⟩
       ·exact hk.elim
      ·exact hk.elim
     ·exact hk.elim
    ·exact hk.elim
  ·exact hk.elim
 ·exact hk.elim
theorem Vf{cx:Cx}(hT:Cy P cx.T){d:Option Nat}{ty:Nat}{x:AV}{vx:Value}{t:Nat→AV}{ρ:Operand→Value}(ht:∀x:Operand,BI g w (AR h) (ev t x) (ρ x)){lo hi mx:Option Operand}{K:HK}(hx:BI g w (AR h) x vx)
  (hk:Gl cx d h ty x (B6 t lo) (B6 t hi) (B6 t mx) K):NS P w0 g0 h0 h g w (Instr.sliceAt ty vx (lo.map ρ) (hi.map ρ) (mx.map ρ)) K:=by
 unfold Gl at hk;split at hk
 ·rename_i HA LB lR e1 e2 e3;rw[KC ht e1,KC ht e2,KC ht e3];split at hk
  ·rename_i hs;split at hk
   ·rename_i s;obtain⟨⟨h1,h2,h3⟩,hk⟩:=hk;obtain rfl:=hx.v_eq;have hb:=Tx (P:=P) (w:=w) false s.size s.size HA LB none (.inl rfl) h1 h2 (by simpa using h3) (by simp);refine(BQ.val (x:=.string (s.extract (HA.getD 0).toNat (LB.getD s.size).toNat)) ?_ hk).does hI;simp only[Instr.sliceAt,Sem.run_bind,run_underlying (hT.string hs),Result.andThen_ok,Instr.slice];simp only[Option.map_none,Option.isSome_none,Dk,Gg]at hb⊢;simp only[Sem.run_bind,hb,Result.andThen_ok,Sem.run_pure]
   ·exact hk.elim
  ·rename_i e hs;split at hk
   ·exact hk.elim
   ·rename_i k EH;split at hk
    ·rename_i tk es;have hr:=hx.slice_none;obtain⟨a,cap,hv,Ox⟩:∃a cap,vx=.slice a es.length cap∧es.length≤cap:=by
      cases hr with
      |snil _ a cap=>exact⟨a,cap,rfl,AM _⟩
      |slice _ _ b off sz cap val hc=>exact⟨_,cap,rfl,hc⟩
     subst hv;split at hk
     ·obtain⟨⟨h1,h2,h3⟩,hl,hk⟩:=hk;have CN:=EJ (P:=P) (w:=w) hT hs EH a es.length cap HA LB none (.inl rfl) h1 h2 (by simp only[DW];omega) (by simp);refine BQ.does hI ⟨_,_,CN,hk,(BI.sub (c':=cap-(HA.getD 0).toNat) hr rfl hl (l:=(HA.getD 0).toNat) (m:=(LB.getD es.length).toNat) (by omega) (by omega) (by simp;omega) _ ?_).up _⟩;split
      ·rename_i e;simp only[DW,Ch]at e;exact .inr ⟨by omega,rfl⟩
      ·exact .inl rfl
     ·rename_i m;split at hk
      ·rename_i d hh;split at hk
       ·obtain⟨⟨h1,h2,rfl,h3⟩,hl,hk⟩:=hk;have CN:=EJ (P:=P) (w:=w) hT hs EH a es.length cap HA (some m) (some m) (.inr (by simp)) h1 h2 (by simp) (by simp only[Cw];omega);simp only[Cw]at CN;have CB:((es.take m.toNat).drop (HA.getD 0).toNat).length=m.toNat-(HA.getD 0).toNat:=by rw[Ar,AJ];omega
        refine BQ.does hI ⟨_,_,CN,hk,.full _ _ _ _ ((BI.sub (c':=m.toNat-(HA.getD 0).toNat) hr rfl hl (l:=(HA.getD 0).toNat) (m:=m.toNat) (by omega) (by omega) (by omega) _ ?_).up _) (fun c hc=>hl c (Er (Ik hc))) ⟨_,by rw[CB]⟩⟩;split
        ·rename_i e;exact .inr ⟨e,rfl⟩
        ·exact .inl rfl
       split at hk
       ·rename_i hd;obtain⟨⟨h1,h2,rfl,h3⟩,hl,hk⟩:=hk;have CN:=EJ (P:=P) (w:=w) hT hs EH a es.length cap HA (some m) (some m) (.inr (by simp)) h1 h2 (by simp) (by simp only[Cw];omega);simp only[Cw]at CN
        obtain⟨g',k1,k2,k3⟩:=NF hI (sz:=(cx.T e).size) (n:=m.toNat-(HA.getD 0).toNat) hd (es:=(es.take m.toNat).drop (HA.getD 0).toNat) (fun c hc=>hl c (Er (Ik hc))) (by rw[Ar,AJ];omega)
         (BI.sub (c':=m.toNat-(HA.getD 0).toNat) hr rfl hl (l:=(HA.getD 0).toNat) (m:=m.toNat) (by omega) (by omega) (by omega) (if m.toNat=(HA.getD 0).toNat then a else a.map (·.add ((HA.getD 0).toNat*(cx.T e).size))) (by
          split
          ·rename_i e;exact .inr ⟨e,rfl⟩
          ·exact .inl rfl))
        exact⟨_,w,g',_,_,CN,hk,k1,k2,k3⟩
       ·exact hk.elim
      ·exact hk.elim
    ·obtain⟨⟨h1,h2,h3⟩,h4,hk⟩:=hk;obtain rfl:=hx.v_eq;have CN:=EJ (P:=P) (w:=w) hT hs EH none 0 0 HA LB lR h4 (by omega) (by simp only[Ix]at *;omega) (by simp only[Ix]at *;omega) (by simp only[Ix]at *;omega);refine BQ.does hI (BQ.val (x:=.slice none 0 0) ?_ hk);rw[CN];simp only[h1,Ix,h2,h3];simp
    ·rename_i r n;split at hk
     ·rename_i sz es e0;split at hk
      ·rename_i Qz;obtain rfl:=AL Qz;obtain⟨⟨h1,h2,h3,h4,h5⟩,hk⟩:=hk;have ho:=hI.objs r;rw[e0]at ho;obtain⟨t1,l1,al,a3⟩:=ho;have hl:(h r).live:=by rw[e0];trivial
       have qo:lR=none∨LB≠none:=h5.imp id (fun q=>q.2);cases hx with
       |msl _ _ _ a cap hu ht' hn ha Lv =>
        have hv:=Lv (h1.trans l1.symm);subst h1;have jN:∀c:Nat,es.length≤c→LB.getD es.length≤lR.getD c∧lR.getD c≤c:=fun c hc=>by
         rcases h5 with h5 | ⟨h5,DD⟩
         ·rw[h5];simp only[DW];omega
         ·obtain⟨m,hm⟩:=Option.ne_none_iff_exists'.1 DD;rw[h5,hm];rw[hm]at h3 h4;simp only[Cw]at h3 h4⊢;omega
        rcases a3 with ⟨rfl,q2,q3⟩ | ⟨b,Lu,E,vs,q1,q2,q3,q4,q5,q6,q7⟩
        ·rw[q2]at hv;cases hv;have CN:=EJ (P:=P) (w:=w) hT hs EH none 0 0 HA LB lR qo h2 h3 (jN 0 (by simp)).1 (jN 0 (by simp)).2
         obtain⟨k1,k2⟩:=hI.upd r .dead (g.ρ r) (g.ln r) (g.tk r) (g.own r) g.S w none ⟨rfl,rfl,rfl,Ak _⟩ (fun _ _ _=>rfl) (fun b e=>by cases e) (fun _ _ h=>h) (fun _ _ h=>.inl h) (fun b o e=>by cases e) (fun b hh _=>by cases hh) (by simp)
          (fun _=>⟨rfl,Ak _,fun _=>rfl,fun _=>rfl⟩) (fun _ _=>trivial)
         refine⟨_,w,_,_,_,CN,hk,k1,k2,?_⟩;have z1:((HA.getD 0).toNat)=0:=by simp only[AC,Ix]at h3 h4;omega
         have z2:((LB.getD (([]:List (List AV)).length:Int)).toNat)=0:=by simp only[AC,Ix]at h3 h4⊢;omega
         simp only[List.take_nil,List.drop_nil];have z3:((LB.getD ((0:Nat):Int)).toNat)=0:=z2;rw[z1,z3];exact .snil _ _ _
        ·rw[q1]at hv;cases hv;have CN:=EJ (P:=P) (w:=w) hT hs EH (some ⟨b,0,none⟩) es.length cap HA LB lR qo h2 h3 (jN _ q3).1 (jN _ q3).2;have bL:=(hI.loc r b hl q2).1
         obtain⟨k1,k2⟩:=hI.upd r .dead (g.ρ r) (g.ln r) (g.tk r) (g.own r) (g.more b (es.length*(cx.T e).size)) w none ⟨rfl,rfl,rfl,Ak _⟩ (fun _ _ _=>rfl) (fun b e=>by cases e) (fun _ _ h=>.inl h)
          (fun b' o hs=>hs.elim .inl (fun hs=>.inr ⟨by rw[hs.1];exact bL,.inr ⟨hl,by rw[hs.1];exact q2⟩⟩)) (fun b o e=>by cases e) (fun b hh _=>by cases hh) (by simp)
          (fun _=>⟨rfl,Ak _,fun _=>rfl,fun _=>rfl⟩) (fun _ _=>trivial)
         have Ec:=BI.slice_row (g:=g.upd r (g.ρ r) (g.ln r) (g.tk r) (g.own r) (g.more b (es.length*(cx.T e).size))) (U:=Fp) q4 al q3 (q6.mono k2.keeps (fun _ h=>h) (fun _ h=>h.elim)) (fun o ho=>.inr ⟨rfl,ho⟩);have zG:=jN _ q3;refine⟨_,w,_,_,_,CN,hk,k1,k2,(BI.sub (c':=(lR.getD cap).toNat-(HA.getD 0).toNat) Ec rfl al (l:=(HA.getD 0).toNat) (m:=(LB.getD es.length).toNat) (by omega) (by omega) (by omega) _ ?_).up _⟩;split
         ·rename_i e;exact .inr ⟨by omega,rfl⟩
         ·exact .inl rfl
      ·exact hk.elim
     ·exact hk.elim
    ·exact hk.elim
  ·exact hk.elim
 ·exact hk.elim
theorem Uc{cx:Cx}(hT:Cy P cx.T){d:Option Nat}{ty:Nat}{n c:AV}{vn vc:Value}{K:HK}(hn:BI g w (AR h) n vn)(hc:BI g w (AR h) c vc)(hk:Jg cx d h ty n c K) :
  NS P w0 g0 h0 h g w (Instr.makeSlice ty vn vc) K:=by
 unfold Jg at hk;split at hk
 ·rename_i e n c hs;obtain rfl:=hn.v_eq;obtain rfl:=hc.v_eq;split at hk
  ·rename_i Q0;split at hk
   ·rename_i MM;have MM:=AL MM;split at hk
    ·exact hk.elim
    ·rename_i k EH;obtain⟨⟨h1,h2,h3,h4⟩,hk⟩:=hk;obtain⟨i,z,i1,i2,i3,i4,i5⟩:=Ho hT EH;have nu:(cx.T e).zc≠[]:=fun e0=>by rw[e0]at MM;rw[EH]at MM;cases MM
     have wn:IntKind.i64.wrap n=n:=MI ⟨by omega,by omega⟩;have wc:IntKind.i64.wrap c=c:=MI ⟨by omega,by omega⟩;have FS:∀l:List AV,(∀a∈l,one a=true)→GW l=true:=by
      intro l
      induction l with
      |nil=>intro _;rfl
      |cons a l ih=>intro h;simp[GW,h a (List.mem_cons_self ..),ih (fun b hb=>h b (List.mem_cons_of_mem _ hb))]
     have nq:((Array.range (c.toNat*(cx.T e).size)).map fun k=>z.cells[k % z.cells.size]!).toList=(List.replicate c.toNat (cx.T e).zc).flatten:=by
      rw[HF c.toNat _ nu,MM,i5];have e6:z.cells.size=(cx.T e).size:=by rw[←MM,i5];simp
      simp[e6,Array.getElem!_eq_getD]
     have hzs:(cx.T e).zc.length=(cx.T e).size:=MM;have r7:∀c'∈List.replicate c.toNat (cx.T e).zc,c'.length=(cx.T e).size:=fun c' hc=>by rw[Cf hc];exact MM
     have un : ∀c'∈List.replicate n.toNat ((cx.T e).zc.map AV.v),c'.length=(cx.T e).size:=fun c' hc=>by rw[Cf hc,Bb];exact MM
     have uo:∀c'∈List.replicate n.toNat (cx.T e).zc,c'.length=(cx.T e).size:=fun c' hc=>by rw[Cf hc];exact MM
     obtain⟨g',av,h',q1,q2,q3,q4⟩:=JM hI hk (vs:=(Array.range (c.toNat*(cx.T e).size)).map fun k=>z.cells[k % z.cells.size]!) (cap:=c.toNat) e un (by rw[Cq];omega) (by simp) (by
      rw[nq,Cq];have e1:(List.replicate n.toNat ((cx.T e).zc.map AV.v)).flatten=(List.replicate n.toNat (cx.T e).zc).flatten.map AV.v:=by
       rw[RB,List.map_replicate]
      have e2:(List.replicate c.toNat (cx.T e).zc).flatten.take (n.toNat*(cx.T e).size)=(List.replicate n.toNat (cx.T e).zc).flatten:=by
       obtain⟨m,hm⟩:∃m,c.toNat=n.toNat+m:=⟨c.toNat-n.toNat,by omega⟩;rw[hm,←List.replicate_append_replicate,CI,Hl (by rw[Df uo,Cq])]
      rw[e1,e2];refine CF.vals (FS _ (fun a ha=>?_));obtain⟨x,hx,rfl⟩:=Am.1 ha;obtain⟨l,hl,hx⟩:=Ep.1 hx;rw[Cf hl]at hx;exact Mi Q0 _ (Am.2 ⟨x,hx,rfl⟩)) w ⟨rfl,rfl,rfl,rfl⟩
     rw[Cq]at q4;refine⟨_,_,g',av,h',?_,q1,q2,q3,q4⟩;have t6:¬((cx.T e).bytes*c>2 ^ 48):=by rw[Int.mul_comm];omega
     have fg:((decide (c<0)||decide (((cx.T e).bytes:Int)*c>2 ^ 48))||decide (n<0)||decide (n>c))=false:=by
      simp only[Bool.or_eq_false_iff,JF];exact⟨⟨⟨by omega,t6⟩,by omega⟩,by omega⟩
     simp only[Instr.makeSlice,Sem.run_bind,run_underlying (hT.slice hs),Result.andThen_ok,asInt,asIntOf,Sem.run_pure,typeInfo,run_program,i1,i4,wn,wc,fg,Dk,Gg,run_askRoom,hT.size1 w EH]
     by_cases hz:c.toNat*(k+1)=0
     ·have pZ:c.toNat=0:=by
       rcases Nat.mul_eq_zero.1 hz with h | h
       ·exact h
       ·cases h
      rw[pZ];simp only[Kh,QB];simp only[show Array.range 0=#[]from rfl,Array.map_empty];simp[newRow]
     ·simp only[Al hz,Sem.run_bind,zeroValue,typeInfo,run_program,i1,i2,Result.andThen_ok,Sem.run_pure];rw[EH];simp[newRow]
   ·exact hk.elim
  ·exact hk.elim
 ·exact hk.elim
end
end Go.Eng
