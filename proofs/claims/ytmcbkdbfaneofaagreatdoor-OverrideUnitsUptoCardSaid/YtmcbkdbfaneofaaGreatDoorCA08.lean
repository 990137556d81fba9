/- Lemmas for the claims of this seat, without a condition: part 8 (EngR, EngS). -/
import Derived.Test.YtmcbkdbfaneofaaGreatDoorCA07
namespace Go.Eng
theorem CC.app{g:Gh}{w:World}{U:Nat→Prop}{TV bs:List AV}{xs ys:List Value}(h:CC g w U TV xs)(k:CC g w U bs ys):CC g w U (TV++bs) (xs++ys):=by
 refine⟨by simp[h.1,k.1],fun x hx=>(A6.1 hx).elim (h.2.1 x) (k.2.1 x),fun i av x h1 h2=>?_⟩
 by_cases hi:i<TV.length
 ·rw[AW hi]at h1;rw[AW (by rw[h.1];exact hi)]at h2;exact h.2.2 i av x h1 h2
 ·rw[A2 (by omega)]at h1;rw[A2 (by rw[h.1];omega),h.1]at h2;exact k.2.2 _ av x h1 h2
section
variable {P:Program}{w0:World}{g0:Gh}{h0 h:Nat→HO}{g:Gh}{w:World}(hI:DG w0 g0 h0 h g w)
include hI
omit hI in
theorem PU(t ty e:TypeId)(i:TypeInfo)(ht:P.underlying t=some (.slice e))(hi:P.info? e=some i){E:TypeId}
  (g NO Zx:Nat) (Fs:Array Value) (hg:w.heap[g]?=some (.cells Fs E (0,0)))
  (a:Addr) (m c:Nat) (news:List Value) (hl:news.length=m*i.size) (IF:∀j u,news[j]?=some u→w.cell? (a.add j)=some u) (h1:∀u∈news,u.oneCell'=true)
  (JE:NO+m≤Zx) (YY:NO*i.size+news.length≤Fs.size) :
  (Builtin.append_ #[t,t] ty #[.slice (some ⟨g,0,none⟩) NO Zx,.slice (some a) m c]).run P w =
   .ok (.slice (some ⟨g,0,none⟩) (NO+m) Zx) (w.setRow g (Fs.toList.take (NO*i.size)++news++Fs.toList.drop (NO*i.size+news.length)).toArray):=by
 have hf:=run_firstCells_some (P:=P) w i.size m a m c news hl IF;have I9:=run_storeCells_at P g (NO*i.size) E news 0 Fs w hg (by simpa using YY) h1;simp only[Dx]at I9;simp[Builtin.append_,run_underlying ht,sizeOf,typeInfo,hi,Builtin.lenOf,JE,hf,Addr.add_lit,I9]
omit hI in
theorem Tu(t ty e:TypeId)(i:TypeInfo)(ht:P.underlying t=some (.slice e))(hi:P.info? e=some i){E:TypeId}
  (g off NO Zx:Nat) (Fs:Array Value) (hg:w.heap[g]?=some (.cells Fs E (0,0)))
  (a:Addr) (m c:Nat) (news:List Value) (hl:news.length=m*i.size) (IF:∀j u,news[j]?=some u→w.cell? (a.add j)=some u) (h1:∀u∈news,u.oneCell'=true)
  (JE:NO+m≤Zx) (YY:off+NO*i.size+news.length≤Fs.size) :
  (Builtin.append_ #[t,t] ty #[.slice (some ⟨g,off,none⟩) NO Zx,.slice (some a) m c]).run P w =
   .ok (.slice (some ⟨g,off,none⟩) (NO+m) Zx) (w.setRow g (Fs.toList.take (off+NO*i.size)++news++Fs.toList.drop (off+NO*i.size+news.length)).toArray):=by
 have hf:=run_firstCells_some (P:=P) w i.size m a m c news hl IF;have I9:=run_storeCells_at P g (off+NO*i.size) E news 0 Fs w hg (by simpa using YY) h1;simp only[Dx]at I9;simp[Builtin.append_,run_underlying ht,sizeOf,typeInfo,hi,Builtin.lenOf,JE,hf,Addr.add_lit,I9]
omit hI in
theorem kw{b off n m sz cap:Nat}{Fs:Array Value}{E:TypeId}{olds news:List Value}(hb:w.heap[b]?=some (.cells Fs E (0,0)))(Xp:Fs.size=off+cap*sz)(hn:n≤cap)(hm:n+m≤cap)(hnl:news.length=m*sz)(hol:olds.length=n*sz)
  (Gv:∀j u,olds[j]?=some u→w.cell? ⟨b,off+j,none⟩=some u) :
  (Fs.toList.take (off+n*sz)++news++Fs.toList.drop (off+n*sz+news.length)).length=off+cap*sz ∧
  ((Fs.toList.take (off+n*sz)++news++Fs.toList.drop (off+n*sz+news.length)).drop off).take ((n+m)*sz)=olds++news ∧
  ∀o,o<off+n*sz→(Fs.toList.take (off+n*sz)++news++Fs.toList.drop (off+n*sz+news.length)).toArray[o]?=Fs[o]?:=by
 have hcl:Fs.toList.length=off+cap*sz:=by rw[B3];exact Xp
 have SD:(n+m)*sz≤cap*sz:=Bg _ hm;have fp:n*sz≤cap*sz:=Bg _ hn;rw[E3]at SD;have Kl:(Fs.toList.take (off+n*sz)).drop off=olds:=by
  apply Cz;intro j
  by_cases hj:j<n*sz
  ·rw[BP,BF (by omega)];have hx:olds[j]?=some olds[j]:=Ay (by omega)
   have:=Gv j _ hx
   rw[Fv hb]at this;rw[A1,this,hx]
  ·rw[A4 (by rw[Ar,AJ];omega),A4 (by omega)]
 have m5:(Fs.toList.take (off+n*sz)).length=off+n*sz:=by rw[AJ];omega
 refine⟨?_,?_,fun o ho=>?_⟩
 ·rw[Ad,Ad,m5,Ar,hcl,hnl];omega
 ·rw[AO,List.drop_append_of_le_length (by rw[m5];omega),Kl,←AO,Hg (by rw[Ad,hol,hnl,E3])]
 ·rw[FP,AO,AW (by rw[m5];exact ho),BF ho,A1]
omit hI in
theorem gR{b n m sz cap:Nat}{Fs:Array Value}{E:TypeId}{olds news:List Value}(hb:w.heap[b]?=some (.cells Fs E (0,0)))(Xp:Fs.size=cap*sz)(hn:n≤cap)(hm:n+m≤cap)(hnl:news.length=m*sz)(hol:olds.length=n*sz)
  (Gv:∀j u,olds[j]?=some u→w.cell? ⟨b,j,none⟩=some u) :
  (Fs.toList.take (n*sz)++news++Fs.toList.drop (n*sz+news.length)).length=cap*sz ∧
  (Fs.toList.take (n*sz)++news++Fs.toList.drop (n*sz+news.length)).take ((n+m)*sz)=olds++news ∧
  ∀o,o<n*sz→(Fs.toList.take (n*sz)++news++Fs.toList.drop (n*sz+news.length)).toArray[o]?=Fs[o]?:=by
 have hcl:Fs.toList.length=cap*sz:=by rw[B3];exact Xp
 have SD:(n+m)*sz≤cap*sz:=Bg _ hm;have fp:n*sz≤cap*sz:=Bg _ hn;rw[E3]at SD;have Kl:Fs.toList.take (n*sz)=olds:=by
  apply Cz;intro j
  by_cases hj:j<n*sz
  ·rw[BF hj];have hx:olds[j]?=some olds[j]:=Ay (by omega)
   have:=Gv j _ hx
   rw[Fv hb]at this;rw[A1,this,hx]
  ·rw[A4 (by rw[AJ];omega),A4 (by omega)]
 have m5:(Fs.toList.take (n*sz)).length=n*sz:=by rw[AJ];omega
 refine⟨?_,?_,fun o ho=>?_⟩
 ·rw[Ad,Ad,m5,Ar,hcl,hnl];omega
 ·rw[Kl,Hg (by rw[Ad,hol,hnl,E3])]
 ·rw[FP,AO,AW (by rw[m5];exact ho),BF ho,A1]
theorem Ur{r n sz:Nat}{es:List (List AV)}{x:Value}(he:h r=.arr sz es)(hx:BG g w (AR h) (.msl r n) x)(hn:n=es.length) :
  x=g.ρ r∧∃news,N0 w x es.length sz news∧CC g w Fi es.flatten news:=by
 have ho:=hI.objs r;rw[he]at ho;obtain⟨t1,l1,al,a1⟩:=ho;cases hx with
 |msl _ _ _ a cap hu ht Xu ha Ls =>
  have e:=Ls (hn.trans l1.symm);refine⟨e,?_⟩;rw[e];rcases a1 with ⟨rfl,e2,e3⟩ | ⟨b,Lr,E,vs,e1,e2,e3,e4,e5,e6,e7⟩
  ·exact⟨[],⟨by simp,by simp,none,0,e2,.inl rfl⟩,by simp,by simp,fun i av x h1 h2=>by simp at h2⟩
  ·have Xp:vs.toList.length=Lr*sz:=by rw[B3];exact e5
   have Hc:es.length*sz≤vs.toList.length:=by rw[Xp];exact Bg _ e3
   refine⟨vs.toList.take (es.length*sz),⟨by rw[AJ,Nat.min_eq_left Hc],e6.2.1,_,_,e1,.inr ⟨_,rfl,fun j u hj=>?_⟩⟩,e6⟩;rw[Addr.add_lit,Bi,Fv e4];have DF:=(As.1 hj).1;rw[AJ]at DF;rw[BF (by omega),A1]at hj;exact hj
theorem bz{sz:Nat}{x:AV}{vx:Value}{K:List (List AV)→Prop}(hx:BG g w (AR h) x vx)(hk:KN h x K) :
  ∃es,K es∧((∀c∈es,c.length=sz)→∃news,N0 w vx es.length sz news∧CC g w Fi es.flatten news):=by
 unfold KN at hk;split at hk
 ·exact⟨_,hk,fun hl=>N0.of_rep hx.slice_none hl⟩
 ·obtain rfl:=hx.v_eq;exact⟨[],hk,fun _=>⟨[],⟨by simp,by simp,none,0,rfl,.inl rfl⟩,by simp,by simp,fun i av x h1 h2=>by simp at h2⟩⟩
 ·rename_i r n;split at hk
  ·rename_i Gf es e;obtain⟨hn,hk⟩:=hk;refine⟨es,hk,fun hl=>?_⟩;obtain⟨_,news,n1,n2⟩:=Ur hI e hx hn;refine⟨news,?_,n2⟩
   have:news.length=es.length*sz:=by rw[n2.1,Df hl]
   exact⟨this,n1.2.1,n1.2.2⟩
  ·exact hk.elim
 ·exact hk.elim
theorem cq{cx:Cx}{d:Option Nat}{sz:Nat}{K:HK}(hk:Es cx d h sz [] K) :
  ∃g' av h',K av h'∧DG w0 g0 h0 h' g' w∧Le h g w h' g' w∧BG g' w (AR h') av (.slice none 0 0):=by
 have base:∀(d:Nat) (o' : HO),h d=.free→o'≠.free→(∀g' : Gh,g'.ρ d=.slice none 0 0→g'.ln d=0→g'.tk d=true→g'.own d=none→D7 g' w (AR (AU h d o')) d o') →
   DG w0 g0 h0 (AU h d o') (g.upd d (.slice none 0 0) 0 true none g.S) w∧Le h g w (AU h d o') (g.upd d (.slice none 0 0) 0 true none g.S) w:=by
  intro d o' hd Dz I8;refine hI.upd d o' _ _ _ _ _ w none ⟨rfl,rfl,rfl,Aj _⟩ (fun _ _ _=>rfl) (fun b e=>by cases e) (fun _ _ h=>h) (fun _ _ h=>.inl h) (fun b o e=>by cases e) (fun b _ e=>by cases e) Dz (fun hu=>absurd hd hu) (fun _ _=>?_);obtain⟨u1,u2,u3,u4⟩:=Bz g d (.slice none 0 0) 0 true none g.S;exact I8 _ u1 u2 u3 u4
 unfold Es at hk;split at hk
 ·exact hk.elim
 ·rename_i d;generalize Ki cx d=d1 at hk;split at hk
  ·rename_i hd;split at hk
   ·obtain⟨k1,k2⟩:=base d1 (.arr sz []) hd (by simp) (fun g' u1 u2 u3 u4=>⟨u3,u2,by simp,.inl ⟨rfl,u1,u4⟩⟩);exact⟨_,_,_,hk,k1,k2,.msl _ d1 0 none 0 (by unfold AR;rw[Bc];simp) (by simp[Gh.upd]) (AN _) (.inl rfl) (fun _=>by simp[Gh.upd])⟩
   ·obtain⟨k1,k2⟩:=base d1 (.tok sz 0) hd (by simp) (fun g' u1 u2 u3 u4=>⟨u3,u2,none,0,u1,.inl ⟨rfl,u4⟩⟩);exact⟨_,_,_,hk,k1,k2,.tok _ d1 sz [] _ (.snil _ _ _) (by simp) (by unfold AR;rw[Bc];simp) (by simp[Gh.upd]) (AN _) (fun _=>by simp[Gh.upd])⟩
  ·exact hk.elim
theorem Yt{cx:Cx}(hT:Cw P cx.T){d:Option Nat}{t ty:Nat}{s x:AV}{vs vx:Value}{K:HK}(hs:BG g w (AR h) s vs)(hx:BG g w (AR h) x vx)(hk:H5 cx d h t s x K) :
  NV P w0 g0 h0 h g w (Builtin.append_ #[t,t] ty #[vs,vx]) K:=by
 unfold H5 at hk;split at hk
 ·rename_i e ht;split at hk
  ·exact hk.elim
  ·rename_i hz;have hz:=AL hz;split at hk
   ·exact hk.elim
   ·rename_i k EB;have h5:=bz hI (sz:=(cx.T e).size) hx hk
    clear hk
    obtain⟨es2,hk,h6⟩:=h5;split at hk
    ·obtain⟨⟨q1,q2,q3⟩,hk⟩:=hk;obtain rfl:=hs.v_eq;obtain⟨news,n1,n2⟩:=h6 (FF q1);obtain⟨m1,m2,a,c,rfl,m4⟩:=n1
     by_cases hm:es2.length=0
     ·obtain rfl:=AB hm;obtain⟨g',av,h',k1,k2,k3,k4⟩:=cq hI hk;exact⟨_,w,g',av,h',Iy hT w ht EB none a 0 0 c (Aj _),k1,k2,k3,k4⟩
     ·obtain⟨nc,rest,r1,r2,r3⟩:=HB hT w (ty:=ty) ht EB hz (olds:=[]) (a:=none) (n:=0) (cap:=0) ⟨by simp,by simp,none,0,rfl,.inl rfl⟩ rfl (fun _=>rfl) ⟨m1,m2,a,c,rfl,m4⟩ rfl (by omega) (by omega) (by rw[Bi];exact q2) (by omega);obtain⟨g',av,h',k1,k2,k3,k4⟩:=JG hI hk (vs:=([]++news++rest).toArray) (cap:=nc) e (FF q1) (by omega) (by simpa using r3) (by
       rw[D6,show(news++rest).toArray.toList=news++rest from rfl,Hg m1];exact n2) w.drew ⟨rfl,rfl,rfl,rfl⟩
      rw[Bi]at r1;exact⟨_,_,g',av,h',r1,k1,k2,k3,k4⟩
    ·rename_i Gf es;split at hk
     ·rename_i QB;obtain QB:=AL QB;obtain⟨⟨q1,q2,q3,q4⟩,hk⟩:=hk;obtain⟨news,n1,n2⟩:=h6 (FF q1);obtain⟨m1,m2,a2,c2,rfl,m4⟩:=n1;cases hs with
      |full _ _ _ _ hr Wy Ls =>
       obtain⟨a,rfl⟩:=Ls;have FM:∀c∈es++es2,c.length=(cx.T e).size:=fun c hc=>(A6.1 hc).elim (fun h=>(Wy c h).trans QB) (FF q1 c);obtain⟨olds,o1,o2⟩:=N0.of_rep hr (sz:=(cx.T e).size) (fun c hc=>(Wy c hc).trans QB);have Wz:=o2.app n2;rw[←CG]at Wz;have ha:a=none→es.length=0:=by
        rintro rfl
        obtain⟨p1,p2,a',c',p3,p4⟩:=o1;cases p3;rcases p4 with h | ⟨b',h,_⟩
        ·exact h
        ·cases h
       obtain⟨nc,rest,r1,r2,r3⟩:=HB hT w (ty:=ty) ht EB hz o1 rfl ha ⟨m1,m2,a2,c2,rfl,m4⟩ rfl q2 (by omega) q3 q4;obtain⟨g',av,h',k1,k2,k3,k4⟩:=JG hI hk (vs:=(olds++news++rest).toArray) (cap:=nc) e FM (by rw[Ad];exact r2) (by rw[Ff];exact r3) (by
        rw[show(olds++news++rest).toArray.toList=olds++news++rest from rfl,Hg (by rw[Ad,Ad,o1.1,m1,E3])];exact Wz) w.drew ⟨rfl,rfl,rfl,rfl⟩
       rw[Ad]at k4;exact⟨_,_,g',av,h',r1,k1,k2,k3,k4⟩
     ·exact hk.elim
    ·rename_i r Gf es;have ho:=hI.objs r;split at hk
     ·rename_i sz n e0;rw[e0]at ho;split at hk
      ·rename_i QB uu;obtain rfl:=AL uu;obtain QB:=AL QB;obtain⟨⟨q1,q2,q3,q4⟩,hk⟩:=hk;rw[QB]at q1;obtain⟨news,n1,n2⟩:=h6 (FF q1);obtain⟨m1,m2,a2,c2,rfl,m4⟩:=n1;obtain⟨t1,l1,a,cap,a1,a3⟩:=ho;have hl:(h r).live:=by rw[e0];trivial
       have FM:∀c∈es++es2,es.length=n→True:=fun _ _ _=>trivial;cases hs with
       |tok _ _ _ _ _ hr Wy hu ht' hn Ls =>
        have hv:=Ls (q2.trans l1.symm);rw[a1]at hv;subst hv;subst q2;have FM:∀c∈es++es2,c.length=Gf:=fun c hc=>(A6.1 hc).elim (Wy c) (fun h=>(FF q1 c h).trans QB.symm);obtain⟨olds,o1,o2⟩:=N0.of_rep hr Wy;have Wz:=o2.app n2;rw[←CG]at Wz;have ZZ:es.length≤cap:=by rcases a3 with ⟨e1,_⟩ | ⟨e1,_⟩<;>omega
        by_cases hm:es2.length=0
        ·obtain rfl:=AB hm;have I8:=hI.objs r;rw[e0]at I8
         obtain⟨k1,k2⟩:=hI.upd r (.tok Gf (es.length+([]:List (List AV)).length)) (g.ρ r) (g.ln r) (g.tk r) (g.own r) g.S w none ⟨rfl,rfl,rfl,Aj _⟩ (fun _ _ _=>rfl) (fun b e=>by cases e) (fun _ _ h=>h) (fun _ _ h=>.inl h) (fun b o e=>by cases e)
          (fun b _ e=>⟨(hI.loc r b hl e).1,.inl ⟨hl,e⟩⟩) (by simp) (fun _=>⟨rfl,Aj _,fun _=>rfl,fun _=>rfl⟩) (fun hg HH=>by
           obtain⟨u1,u2,u3,u4⟩:=Bz g r (g.ρ r) (g.ln r) (g.tk r) (g.own r) g.S;rw[AC,Dx];exact I8.same HH (fun i hi=>DL (by simp) i hi) hg u1 u2 u3 u4 (fun b _ _=>⟨rfl,fun _ h=>h⟩))
         refine⟨_,w,_,_,_,Iy hT w ht EB a a2 es.length cap c2 ZZ,hk,k1,k2,?_⟩;rw[BZ];exact(BG.tok (AR h) r Gf es _ hr Wy hu ht' hn Ls).le k2
        ·by_cases JE:es.length+es2.length≤cap
         ·rcases a3 with ⟨e1,_⟩ | ⟨e1,b,E,Fs,off,rfl,e3,e4,e5,e6⟩
          ·omega
          ·rcases m4 with h | ⟨ba,rfl,IF⟩
           ·omega
           ·obtain⟨i,z,i1,i2,i3,i4,i5⟩:=Hh hT EB;have SD:(es.length+es2.length)*Gf≤cap*Gf:=Bg _ JE;have li:news.length=es2.length*Gf:=by rw[QB];exact m1
            have YZ:i.size=Gf:=i3.trans QB.symm;have CM:=Tu (P:=P) t ty e i (hT.slice ht) i1 b off es.length cap Fs e4 ba es2.length c2 news (by rw[YZ];exact li) IF m2 JE (by rw[YZ,li,e5];rw[E3]at SD;omega);rw[YZ]at CM;have Gv:∀j u,olds[j]?=some u→w.cell? ⟨b,off+j,none⟩=some u:=by
             obtain⟨p1,p2,a',c',p3,p4⟩:=o1;cases p3;intro j u hj;rcases p4 with h | ⟨b',h,h'⟩
             ·rw[h,Ka]at p1;rw[AB p1]at hj;simp at hj
             ·cases h
              have:=h' j u hj
              rwa [Addr.add_lit]at this
            obtain⟨p1,p2,p3⟩:=kw e4 e5 e1 JE li o1.1 Gv;generalize hnewd:Fs.toList.take (off+es.length*Gf)++news++Fs.toList.drop (off+es.length*Gf+news.length)=new at CM p1 p2 p3;have EJ:=setRow_heap w b Fs new.toArray E (0,0) e4;have bL:=(hI.loc r b hl e3).1
            obtain⟨k1,k2⟩:=hI.upd r (.tok Gf (es.length+es2.length)) (.slice (some ⟨b,off,none⟩) (es.length+es2.length) cap) (es.length+es2.length) (g.tk r) (g.own r) (g.more b (off+(es.length+es2.length)*Gf)) (w.setRow b new.toArray) (some b)
             ⟨rfl,rfl,rfl,by rw[size_setRow];exact Aj _⟩ (fun k _ Dz=>setRow_other w b k _ (fun e=>Dz (by rw[e]))) (fun b' e=>by cases e;exact⟨hl,e3⟩) (fun _ _ h=>.inl h)
             (fun b' o hs=>hs.elim .inl (fun hs=>.inr ⟨by rw[size_setRow,hs.1];exact bL,.inr ⟨hl,by rw[hs.1];exact e3⟩⟩))
             (fun b' o e hs=>by
              cases e
              refine⟨?_,fun es ck he=>by rw[e4]at he;cases he⟩;rw[Fv EJ,Fv e4];exact p3 o (e6 o hs)) (fun b' _ e=>by
              rw[e3]at e;cases e;exact⟨by rw[size_setRow];exact bL,.inl ⟨hl,e3⟩⟩) (by simp) (fun _=>⟨rfl,by omega,fun e=>(by rw[t1]at e;cases e),fun e=>by omega⟩) (fun hg HH=>by
              obtain⟨u1,u2,u3,u4⟩:=Bz g r (.slice (some ⟨b,off,none⟩) (es.length+es2.length) cap) (es.length+es2.length) (g.tk r) (g.own r) (g.more b (off+(es.length+es2.length)*Gf));exact⟨u3.trans t1,u2,_,cap,u1,  .inr ⟨JE,b,E,_,off,rfl,u4.trans e3,EJ,by rw[Ff];exact p1,fun o ho=>by
               rcases ho with ho | ⟨_,ho⟩
               ·have h1:=e6 o ho;have h2:es.length*Gf≤(es.length+es2.length)*Gf:=Bg _ (by omega);omega
               ·exact ho⟩⟩)
            have Ea:=BG.slice_off (g:=g.upd r (.slice (some ⟨b,off,none⟩) (es.length+es2.length) cap) (es.length+es2.length) (g.tk r) (g.own r) (g.more b (off+(es.length+es2.length)*Gf))) (U:=AR (AU h r (.tok Gf (es.length+es2.length)))) (cap:=cap) (es:=es++es2) EJ FM (by rw[Ad];exact JE) (by
             rw[Ad,show new.toArray.toList=new from rfl,p2];exact Wz.mono k2.keeps (fun _ h=>h) (fun _ h=>h.elim)) (fun o ho=>.inr ⟨rfl,by rw[Ad]at ho;exact Nat.add_lt_add_left ho off⟩)
            rw[Ad]at Ea;exact⟨_,_,_,_,_,CM,hk,k1,k2,.tok _ r Gf _ _ Ea FM (by unfold AR;rw[Bc];simp) (by simp[Gh.upd,t1]) (by simp[Gh.upd]) (fun _=>by simp[Gh.upd])⟩
         ·have fj:cap<es.length+es2.length:=by omega
          have ha:a=none→cap=0:=by
           rintro rfl
           rcases a3 with ⟨e1,_⟩ | ⟨_,b,_,_,_,e2,_⟩
           ·obtain⟨p1,p2,a',c',p3,p4⟩:=o1;cases p3;rcases p4 with h | ⟨b',h,_⟩
            ·omega
            ·cases h
           ·cases e2
          obtain⟨nc,rest,r1,r2,r3⟩:=HB hT w (ty:=ty) ht EB hz (by rw[←QB];exact o1) rfl ha ⟨m1,m2,a2,c2,rfl,m4⟩ rfl (by omega) fj q3 q4;have EJ:=Hr w.drew (.cells (olds++news++rest).toArray e (0,0)) (b:=w.heap.size) rfl
          obtain⟨k1,k2⟩:=hI.upd r (.tok Gf (es.length+es2.length)) (.slice (some ⟨w.heap.size,0,none⟩) (es.length+es2.length) nc) (es.length+es2.length) (g.tk r) (some w.heap.size) (g.more w.heap.size ((es.length+es2.length)*Gf))
           (w.drew.alloc (.cells (olds++news++rest).toArray e (0,0))) none
           ⟨rfl,rfl,rfl,by rw[World.size_alloc];exact Nat.le_succ _⟩ (fun k JR _=>by rw[heap_alloc_old _ _ (by exact JR)];rfl) (fun b' e=>by cases e) (fun _ _ h=>.inl h)
           (fun b' o hs=>hs.elim .inl (fun hs=>.inr ⟨by rw[World.size_alloc,hs.1];exact GG _,.inl (by rw[hs.1];exact Aj _)⟩))
           (fun b' o e=>by cases e) (fun b' _ e=>by cases e;exact⟨by rw[World.size_alloc];exact GG _,.inr (Aj _)⟩) (by simp) (fun _=>⟨rfl,by omega,fun e=>(by rw[t1]at e;cases e),fun e=>by omega⟩) (fun hg HH=>by
            obtain⟨u1,u2,u3,u4⟩:=Bz g r (.slice (some ⟨w.heap.size,0,none⟩) (es.length+es2.length) nc) (es.length+es2.length) (g.tk r) (some w.heap.size) (g.more w.heap.size ((es.length+es2.length)*Gf));exact⟨u3.trans t1,u2,_,nc,u1,.inr ⟨r2,w.heap.size,e,_,0,rfl,u4,EJ,by rw[Ff,QB,Bi];exact r3,fun o ho=>by
             rcases ho with ho | ⟨_,ho⟩
             ·have:=hI.slt _ _ ho;omega
             ·omega⟩⟩)
          have Ea:=BG.slice_row (g:=g.upd r (.slice (some ⟨w.heap.size,0,none⟩) (es.length+es2.length) nc) (es.length+es2.length) (g.tk r) (some w.heap.size) (g.more w.heap.size ((es.length+es2.length)*Gf))) (U:=AR (AU h r (.tok Gf (es.length+es2.length)))) (cap:=nc) (es:=es++es2) EJ FM (by rw[Ad];exact r2) (by
           rw[Ad,show(olds++news++rest).toArray.toList=olds++news++rest from rfl,Hg (by rw[Ad,o1.1,m1,QB,E3])];exact Wz.mono k2.keeps (fun _ h=>h) (fun _ h=>h.elim)) (fun o ho=>.inr ⟨rfl,by rw[Ad]at ho;exact ho⟩)
          rw[Ad]at Ea;exact⟨_,_,_,_,_,r1,hk,k1,k2,.tok _ r Gf _ _ Ea FM (by unfold AR;rw[Bc];simp) (by simp[Gh.upd,t1]) (by simp[Gh.upd]) (fun _=>by simp[Gh.upd])⟩
      ·exact hk.elim
     ·exact hk.elim
    ·rename_i r n;have ho:=hI.objs r;split at hk
     ·rename_i sz es e0;split at hk
      ·rename_i QB;obtain QB:=AL QB;obtain⟨⟨q1,q2,q3,q4⟩,hk⟩:=hk;rw[QB]at q1;obtain⟨news,n1,n2⟩:=h6 (FF q1);obtain⟨m1,m2,a2,c2,rfl,m4⟩:=n1;obtain⟨hv,olds,o1,o2⟩:=Ur hI e0 hs q2.symm;have I8:=ho;rw[e0]at ho;obtain⟨t1,l1,al,a3⟩:=ho;have hl:(h r).live:=by rw[e0];trivial
       subst hv;have FM:∀c∈es++es2,c.length=sz:=fun c hc=>(A6.1 hc).elim (al c) (fun h=>(FF q1 c h).trans QB.symm);have Wz:=o2.app n2;rw[←CG]at Wz;obtain⟨a,cap,hρ,ZZ,ha⟩:∃a cap,g.ρ r=.slice a es.length cap∧es.length≤cap∧(a=none→cap=0):=by
        rcases a3 with ⟨rfl,e2,e3⟩ | ⟨b,cap,E,Fs,e1,e2,e3,e4,e5,e6,e7⟩
        ·exact⟨none,0,e2,Aj _,fun _=>rfl⟩
        ·exact⟨_,cap,e1,e3,fun e=>by cases e⟩
       by_cases hm:es2.length=0
       ·obtain rfl:=AB hm;rw[e0]at I8
        obtain⟨k1,k2⟩:=hI.upd r (.arr sz (es++[])) (g.ρ r) (g.ln r) (g.tk r) (g.own r) g.S w none ⟨rfl,rfl,rfl,Aj _⟩ (fun _ _ _=>rfl) (fun b e=>by cases e) (fun _ _ h=>h) (fun _ _ h=>.inl h) (fun b o e=>by cases e)
         (fun b _ e=>⟨(hI.loc r b hl e).1,.inl ⟨hl,e⟩⟩) (by simp) (fun _=>⟨rfl,Aj _,fun _=>rfl,fun _=>rfl⟩) (fun hg HH=>by
          obtain⟨u1,u2,u3,u4⟩:=Bz g r (g.ρ r) (g.ln r) (g.tk r) (g.own r) g.S;rw[BZ];exact I8.same HH (fun i hi=>DL (by simp) i hi) hg u1 u2 u3 u4 (fun b _ _=>⟨rfl,fun _ h=>h⟩))
        refine⟨g.ρ r,w,_,_,_,?_,hk,k1,k2,?_⟩
        ·rw[hρ];exact Iy hT w ht EB a a2 es.length cap c2 ZZ
        ·have:=hs.le k2
         rw[←q2]at this;exact this
       ·by_cases JE:es.length+es2.length≤cap
        ·rcases a3 with ⟨rfl,e2,e3⟩ | ⟨b,Lr,E,Fs,e1,e2,e3,e4,e5,e6,e7⟩
         ·rw[e2]at hρ;cases hρ;omega
         ·rw[e1]at hρ;simp only[Value.slice.injEq,true_and]at hρ;obtain⟨rfl,rfl⟩:=hρ;rcases m4 with h | ⟨ba,rfl,IF⟩
          ·omega
          ·obtain⟨i,z,i1,i2,i3,i4,i5⟩:=Hh hT EB;have SD:(es.length+es2.length)*sz≤Lr*sz:=Bg _ JE;have li:news.length=es2.length*sz:=by rw[QB];exact m1
           have YZ:i.size=sz:=i3.trans QB.symm;have CM:=PU (P:=P) t ty e i (hT.slice ht) i1 b es.length Lr Fs e4 ba es2.length c2 news (by rw[YZ];exact li) IF m2 JE (by rw[YZ,li,←E3,e5];exact SD);rw[YZ]at CM;have Gv:∀j u,olds[j]?=some u→w.cell? ⟨b,j,none⟩=some u:=by
            obtain⟨p1,p2,a',c',p3,p4⟩:=o1;rw[e1]at p3;cases p3;intro j u hj;rcases p4 with h | ⟨b',h,h'⟩
            ·rw[h,Ka]at p1;rw[AB p1]at hj;simp at hj
            ·cases h
             have:=h' j u hj
             rwa [Addr.add_lit,Bi]at this
           obtain⟨p1,p2,p3⟩:=gR e4 e5 e3 JE li o1.1 Gv;generalize hnewd:Fs.toList.take (es.length*sz)++news++Fs.toList.drop (es.length*sz+news.length)=new at CM p1 p2 p3;have EJ:=setRow_heap w b Fs new.toArray E (0,0) e4;have bL:=(hI.loc r b hl e2).1
           obtain⟨k1,k2⟩:=hI.upd r (.arr sz (es++es2)) (.slice (some ⟨b,0,none⟩) (es.length+es2.length) Lr) (es.length+es2.length) (g.tk r) (g.own r) g.S (w.setRow b new.toArray) (some b)
            ⟨rfl,rfl,rfl,by rw[size_setRow];exact Aj _⟩ (fun k _ Dz=>setRow_other w b k _ (fun e=>Dz (by rw[e]))) (fun b' e=>by cases e;exact⟨hl,e2⟩) (fun _ _ h=>h) (fun _ _ h=>.inl h)
            (fun b' o e hs=>by cases e;exact absurd hs (e7 o)) (fun b' _ e=>by
             rw[e2]at e;cases e;exact⟨by rw[size_setRow];exact bL,.inl ⟨hl,e2⟩⟩) (by simp) (fun _=>⟨rfl,by omega,fun e=>(by rw[t1]at e;cases e),fun e=>by omega⟩) (fun hg HH=>by
             obtain⟨u1,u2,u3,u4⟩:=Bz g r (.slice (some ⟨b,0,none⟩) (es.length+es2.length) Lr) (es.length+es2.length) (g.tk r) (g.own r) g.S;refine⟨u3.trans t1,by rw[u2,Ad],FM,.inr ⟨b,Lr,E,_,by rw[u1,Ad],u4.trans e2,by rw[Ad];exact JE,EJ,by rw[Ff];exact p1,?_,e7⟩⟩;rw[Ad,show new.toArray.toList=new from rfl,p2];exact Wz.mono HH (fun _ h=>h) (fun _ h=>h.elim))
           rw[e1];exact⟨_,_,_,_,_,CM,hk,k1,k2,.msl _ r _ _ _ (by unfold AR;rw[Bc];simp) (by simp[Gh.upd,t1]) (by simp[Gh.upd]) (.inr ⟨_,rfl⟩) (fun _=>by simp[Gh.upd])⟩
        ·have fj:cap<es.length+es2.length:=by omega
         obtain⟨nc,rest,r1,r2,r3⟩:=HB hT w (ty:=ty) ht EB hz (by rw[←QB];exact o1) hρ ha ⟨m1,m2,a2,c2,rfl,m4⟩ rfl (by omega) fj q3 q4;have EJ:=Hr w.drew (.cells (olds++news++rest).toArray e (0,0)) (b:=w.heap.size) rfl
         obtain⟨k1,k2⟩:=hI.upd r (.arr sz (es++es2)) (.slice (some ⟨w.heap.size,0,none⟩) (es.length+es2.length) nc) (es.length+es2.length) (g.tk r) (some w.heap.size) g.S
          (w.drew.alloc (.cells (olds++news++rest).toArray e (0,0))) none
          ⟨rfl,rfl,rfl,by rw[World.size_alloc];exact Nat.le_succ _⟩ (fun k JR _=>by rw[heap_alloc_old _ _ (by exact JR)];rfl) (fun b' e=>by cases e) (fun _ _ h=>h) (fun _ _ h=>.inl h)
          (fun b' o e=>by cases e) (fun b' _ e=>by cases e;exact⟨by rw[World.size_alloc];exact GG _,.inr (Aj _)⟩) (by simp) (fun _=>⟨rfl,by omega,fun e=>(by rw[t1]at e;cases e),fun e=>by omega⟩) (fun hg HH=>by
           obtain⟨u1,u2,u3,u4⟩:=Bz g r (.slice (some ⟨w.heap.size,0,none⟩) (es.length+es2.length) nc) (es.length+es2.length) (g.tk r) (some w.heap.size) g.S;refine⟨u3.trans t1,by rw[u2,Ad],FM,.inr ⟨w.heap.size,nc,e,_,by rw[u1,Ad],u4,by rw[Ad];exact r2,EJ,by rw[Ff,QB];exact r3,?_,fun o ho=>by have:=hI.slt _ _ ho;omega⟩⟩;rw[Ad,show(olds++news++rest).toArray.toList=olds++news++rest from rfl,Hg (by rw[Ad,o1.1,m1,QB,E3])];exact Wz.mono HH (fun _ h=>h) (fun _ h=>h.elim))
         exact⟨_,_,_,_,_,r1,hk,k1,k2,.msl _ r _ _ _ (by unfold AR;rw[Bc];simp) (by simp[Gh.upd,t1]) (by simp[Gh.upd]) (.inr ⟨_,rfl⟩) (fun _=>by simp[Gh.upd])⟩
      ·exact hk.elim
     ·exact hk.elim
    ·exact hk.elim
 ·exact hk.elim
end
section
variable {P:Program}{w0:World}{g0:Gh}{h0 h:Nat→HO}{g:Gh}{w:World}(hI:DG w0 g0 h0 h g w)
include hI
theorem NI{d sz n:Nat}{es:List (List AV)}{a:Option Addr}(hd:h d=.free)(hl:∀c∈es,c.length=sz)(hn:es.length=n)(hr:BG g w Fi (.slice .none es) (.slice a n n)) :
  ∃g',DG w0 g0 h0 (AU h d (.tok sz n)) g' w∧Le h g w (AU h d (.tok sz n)) g' w∧BG g' w (AR (AU h d (.tok sz n))) (.slice (.id d sz) es) (.slice a n n):=by
 obtain⟨k1,k2⟩:=hI.upd d (.tok sz n) (.slice a n n) n true none g.S w none ⟨rfl,rfl,rfl,Aj _⟩ (fun _ _ _=>rfl) (fun b e=>by cases e) (fun _ _ h=>h) (fun _ _ h=>.inl h) (fun b o e=>by cases e) (fun b _ e=>by cases e) (by simp)
  (fun hu=>absurd hd hu) (fun _ _=>by
   obtain⟨u1,u2,u3,u4⟩:=Bz g d (.slice a n n) n true none g.S;exact⟨u3,u2,a,n,u1,.inl ⟨rfl,u4⟩⟩)
 exact⟨_,k1,k2,.tok _ d sz es _ (((hr.up (AR h)).le k2)) hl (by unfold AR;rw[Bc];simp) (by simp[Gh.upd]) (by simp[Gh.upd,hn]) (fun _=>by simp[Gh.upd])⟩
theorem Yv{cx:Cx}{d:Option Nat}{x:AV}{vx:Value}{K:HK}(hx:BG g w (AR h) x vx)(hk:N5 cx d h x K):∃g' av h',K av h'∧DG w0 g0 h0 h' g' w∧Le h g w h' g' w∧BG g' w (AR h') av vx:=by
 have plain:K x h→∃g' av h',K av h'∧DG w0 g0 h0 h' g' w∧Le h g w h' g' w∧BG g' w (AR h') av vx:=fun hk=>⟨g,x,h,hk,hI,.refl _ _ _,hx⟩;unfold N5 at hk;split at hk
 ·exact plain hk
 ·rename_i d;split at hk
  ·rename_i sz _;split at hk
   ·refine⟨g,xY x,h,hk,hI,.refl _ _ _,?_⟩;cases x with
    |slice tk es=>exact(BG.slice_none hx).up _
    |_=>exact hx
   ·split at hk
    ·split at hk
     ·rename_i hd;obtain rfl:=hx.v_eq;obtain⟨g',k1,k2,k3⟩:=NI hI (sz:=sz) (es:=[]) (a:=none) hd (by simp) rfl (.snil _ _ _);exact⟨g',_,_,hk,k1,k2,k3⟩
     ·exact hk.elim
    ·exact plain hk
  ·split at hk
   ·rename_i sz _;split at hk
    ·split at hk
     ·rename_i hd;obtain rfl:=hx.v_eq
      obtain⟨k1,k2⟩:=hI.upd d (.arr sz []) (.slice none 0 0) 0 true none g.S w none ⟨rfl,rfl,rfl,Aj _⟩ (fun _ _ _=>rfl) (fun b e=>by cases e) (fun _ _ h=>h) (fun _ _ h=>.inl h) (fun b o e=>by cases e) (fun b _ e=>by cases e) (by simp)
       (fun hu=>absurd hd hu) (fun _ _=>by
        obtain⟨u1,u2,u3,u4⟩:=Bz g d (.slice none 0 0) 0 true none g.S;exact⟨u3,u2,by simp,.inl ⟨rfl,u1,u4⟩⟩)
      exact⟨_,_,_,hk,k1,k2,.msl _ d 0 none 0 (by unfold AR;rw[Bc];simp) (by simp[Gh.upd]) (AN _) (.inl rfl) (fun _=>by simp[Gh.upd])⟩
     ·exact hk.elim
    ·exact plain hk
   ·exact plain hk
theorem XI{T:Gj}{mku:List Nat}{d:Option Nat}{ty:Nat}{K:HK}(hk:Kq T mku d h ty K):NV P w0 g0 h0 h g w (Instr.makeMap ty none) K:=by
 unfold Kq at hk;split at hk
 ·exact hk.elim
 ·rename_i d;split at hk
  ·rename_i hd;split at hk
   ·split at hk
    ·rename_i sh _;split at hk
     ·obtain⟨k1,k2⟩:=hI.newOwn hd (.mapU sh []) (.map #[] 0) (.map (some w.heap.size)) 0 false w ⟨rfl,rfl,rfl,rfl⟩ (by simp) (fun hg HH=>by
       obtain⟨u1,u2,u3,u4⟩:=Bz g d (.map (some w.heap.size)) 0 false (some w.heap.size) g.S;exact⟨u3,w.heap.size,#[],0,u4,u1,Hr w _ rfl,⟨rfl,by simp,by simp,by simp,by simp,by simp⟩,by simp,fun o ho=>by have:=hI.slt _ _ ho;omega⟩)
      refine⟨_,_,_,_,_,?_,hk,k1,k2,.mref _ d w.heap.size (by unfold AR;rw[Bc];simp) ?_ ?_⟩
      ·simp[Instr.makeMap]
      ·simp[Gh.upd]
      ·simp[Gh.upd]
     ·obtain⟨k1,k2⟩:=hI.newOwn hd (.map sh []) (.map #[] 0) (.map (some w.heap.size)) 0 false w ⟨rfl,rfl,rfl,rfl⟩ (by simp) (fun hg HH=>by
       obtain⟨u1,u2,u3,u4⟩:=Bz g d (.map (some w.heap.size)) 0 false (some w.heap.size) g.S;exact⟨u3,w.heap.size,#[],0,u4,u1,Hr w _ rfl,⟨rfl,by simp,by simp,by simp,by simp,by simp⟩,by simp,fun o ho=>by have:=hI.slt _ _ ho;omega⟩)
      refine⟨_,_,_,_,_,?_,hk,k1,k2,.mref _ d w.heap.size (by unfold AR;rw[Bc];simp) ?_ ?_⟩
      ·simp[Instr.makeMap]
      ·simp[Gh.upd]
      ·simp[Gh.upd]
    ·exact hk.elim
   ·exact hk.elim
  ·exact hk.elim
omit hI in
theorem BG.sub{es:List (List AV)}{sz l m:Nat}{x:Value}{a:Option Addr}{n cap:Nat}(hr:BG g w Fi (.slice .none es) x)(hx:x=.slice a n cap)(hl:∀c∈es,c.length=sz)(h1:l≤m)(h2:m≤es.length)(c' : Nat)(hc:m-l≤c')(a' : Option Addr)
  (ha:a'=a.map (·.add (l*sz))∨(m=l∧a'=a)):BG g w Fi (.slice .none ((es.take m).drop l)) (.slice a' (m-l) c'):=by
 subst hx;have CE:((es.take m).drop l).length=m-l:=by rw[Ar,AJ];omega
 by_cases h0:m-l=0
 ·have:(es.take m).drop l=[]:=AB (by omega)
  rw[this,h0];exact .snil _ _ _
 ·cases hr with
  |snil=>simp at h2;omega
  |slice _ _ b off Gf cap val nZ PD DB Ea =>
   have hz:Gf=sz:=by
    have:(0:Nat)<es.length:=by omega
    have h3:=PD 0 es[0] (Ay this);rw[←h3];exact hl _ (Aq this)
   subst hz;have yT : a'=some ⟨b,off+l*Gf,none⟩:=by
    rcases ha with h | ⟨h,_⟩
    ·rw[h];simp[Addr.add_lit]
    ·omega
   subst yT;rw[←CE];have E6:∀(i:Nat) (cs:List AV),((es.take m).drop l)[i]?=some cs→es[l+i]?=some cs:=fun i cs h=>by
    rw[BP]at h
    by_cases hi:l+i<m
    ·rwa [BF hi]at h
    ·rw[A4 (by rw[AJ];omega)]at h;cases h
   refine .slice _ _ b (off+l*Gf) Gf c' (fun i j=>val (l+i) j) (by rw[CE];exact hc) (fun i cs h=>PD _ _ (E6 i cs h)) (fun i cs j av h1 h2=>?_) (fun i cs j av h1 h2=>Ea _ _ _ _ (E6 i cs h1) h2)
   have:=DB _ _ _ _ (E6 i cs h1) h2
   rwa [show off+(l+i)*Gf+j=off+l*Gf+i*Gf+j by rw[E3];omega]at this
omit hI in
theorem Kv{t:Nat→AV}{ρ:Operand→Value}(ht:∀x:Operand,BG g w (AR h) (ev t x) (ρ x)){o:Option Operand}{i:Option Int}(hk:B5 t o=some i):o.map ρ=i.map fun n=>.int .i64 n:=by
 cases o with
 |none=>cases hk;rfl
 |some x =>
  unfold B5 at hk;dsimp only at hk;split at hk
  ·rename_i n e;cases hk
   have:=ht x
   rw[e]at this;simp[this.v_eq]
  ·cases hk
omit hI in
theorem Tw(b:Bool)(len cap:Nat)(lo hi mx:Option Int)(jB:mx=none∨hi≠none)(h0:0≤lo.getD 0)(h1:lo.getD 0≤hi.getD len)(h2:hi.getD len≤mx.getD cap)(h3:mx.getD cap≤cap) :
  (Instr.sliceBounds b len cap (lo.map fun n=>.int .i64 n) (hi.map fun n=>.int .i64 n) (mx.map fun n=>.int .i64 n)).run P w=.ok ((lo.getD 0).toNat,(hi.getD len).toNat,(mx.getD cap).toNat) w:=by
 have e1:∀n:Int,0≤n→(n.toNat:Int)=n:=fun n hn=>Int.toNat_of_nonneg hn;cases mx with
 |none =>
  cases hi with
  |none =>
   cases lo with
   |none=>simp[Instr.sliceBounds]
   |some l =>
    simp only[Cv,DV]at h0 h1 h2;simp[Instr.sliceBounds,run_sliceBound,h0,h1]
  |some hh =>
   simp only[Cv,DV]at h1 h2;have pU:0≤hh:=by omega
   cases lo with
   |none=>simp[Instr.sliceBounds,run_sliceBound,pU,h2]
   |some l =>
    simp only[Cv]at h0 h1;simp[Instr.sliceBounds,run_sliceBound,h0,h1,h2,pU,e1]
 |some m =>
  cases hi with
  |none=>simp at jB
  |some hh =>
   simp only[Cv]at h1 h2 h3;have pU:0≤hh:=by omega
   have rP:0≤m:=by omega
   cases lo with
   |none=>simp[Instr.sliceBounds,run_sliceBound,h2,h3,pU,rP,e1]
   |some l =>
    simp only[Cv]at h0 h1;simp[Instr.sliceBounds,run_sliceBound,h0,h1,h2,h3,pU,rP,e1]
omit hI in
theorem EE{T:Gj}(hT:Cw P T){ty e k:Nat}(ht:(T ty).d=.slice e)(hk:(T e).size=k+1)(a:Option Addr)(len cap:Nat)(lo hi mx:Option Int)(jB:mx=none∨hi≠none)(h0:0≤lo.getD 0)(h1:lo.getD 0≤hi.getD len)(h2:hi.getD len≤mx.getD cap)(h3:mx.getD cap≤cap) :
  (Instr.sliceAt ty (.slice a len cap) (lo.map fun n=>.int .i64 n) (hi.map fun n=>.int .i64 n) (mx.map fun n=>.int .i64 n)).run P w =
   .ok (.slice (if(mx.getD cap).toNat=(lo.getD 0).toNat then a else a.map (·.add ((lo.getD 0).toNat*(T e).size))) ((hi.getD len).toNat-(lo.getD 0).toNat) ((mx.getD cap).toNat-(lo.getD 0).toNat)) w:=by
 have hu:=hT.slice ht;have hb:=Tw (P:=P) (w:=w) true len cap lo hi mx jB h0 h1 h2 h3;simp only[Instr.sliceAt,Sem.run_bind,run_underlying hu,Result.andThen_ok,Instr.slice,hb,hT.size1 w hk,Sem.run_pure];rw[hk]
theorem DG.moveO(r r2:Nat)(Dz:r2≠r)(hf:h r2=.free)(hl:(h r).live){ob:Option Nat}(ho:∀c,ob=some c→g.own r=some c)(o' : HO)(x:Value)(n:Nat)(t:Bool)(hn:o'≠.free)
  (I8:ET g w (g.upd r2 x n t ob g.S) w→D7 (g.upd r2 x n t ob g.S) w (AR (AU (AU h r .dead) r2 o')) r2 o') :
  DG w0 g0 h0 (AU (AU h r .dead) r2 o') (g.upd r2 x n t ob g.S) w∧Le h g w (AU (AU h r .dead) r2 o') (g.upd r2 x n t ob g.S) w:=by
 have dk:JM g (g.upd r2 x n t ob g.S) (AR h):=by
  intro i hi;have e:i≠r2:=fun e=>hi (by rw[e];exact hf);refine⟨by simp[Gh.upd,e],by simp[Gh.upd,e],fun _=>by simp[Gh.upd,e],fun _=>by simp[Gh.upd,e]⟩
 have hK:ET g w (g.upd r2 x n t ob g.S) w:=fun b o hb=>⟨hb,rfl,fun _ _ h=>h⟩;have KR:∀i,AR h i→AR (AU (AU h r .dead) r2 o') i:=fun i hi=>DL hn i (DL (by simp) i hi);have key:∀i,i≠r2→(AU (AU h r .dead) r2 o' i).live→i≠r∧(h i).live:=fun i h2 hl=>by
  rw[BX _ _ _ _ h2]at hl
  by_cases e:i=r
  ·subst e;rw[Bc]at hl;exact hl.elim
  ·rw[BX _ _ _ _ e]at hl;exact⟨e,hl⟩
 have own:∀i,i≠r2→(g.upd r2 x n t ob g.S).own i=g.own i:=fun i e=>by simp[Gh.upd,e]
 have Tj:(g.upd r2 x n t ob g.S).own r2=ob:=by simp[Gh.upd]
 refine⟨⟨hI.os,hI.tape,hI.output,hI.size,hI.frame,hI.slt,fun i=>?_,fun i j c hi hj ei ej=>?_,fun i c hi ei=>?_,hI.sg,hI.glob.keep hK⟩,dk,KR,hK⟩
 ·by_cases e:i=r2
  ·subst e;rw[Bc];exact I8 hK
  ·rw[BX _ _ _ _ e]
   by_cases e1:i=r
   ·subst e1;rw[Bc];trivial
   ·rw[BX _ _ _ _ e1];exact(hI.objs i).same hK KR dk (by simp[Gh.upd,e]) (by simp[Gh.upd,e]) (by simp[Gh.upd,e]) (by simp[Gh.upd,e]) (fun b hl hb=>⟨rfl,fun k hk=>hk⟩)
 ·by_cases e1:i=r2<;>by_cases e2:j=r2
  ·exact e1.trans e2.symm
  ·subst e1;rw[Tj]at ei;rw[own j e2]at ej;obtain⟨a1,a2⟩:=key j e2 hj;exact absurd (hI.inj j r _ a2 hl ej (ho _ ei)) a1
  ·subst e2;rw[Tj]at ej;rw[own i e1]at ei;obtain⟨a1,a2⟩:=key i e1 hi;exact absurd (hI.inj i r _ a2 hl ei (ho _ ej)) a1
  ·rw[own i e1]at ei;rw[own j e2]at ej;exact hI.inj i j c (key i e1 hi).2 (key j e2 hj).2 ei ej
 ·by_cases e1:i=r2
  ·subst e1;rw[Tj]at ei;exact hI.loc r _ hl (ho _ ei)
  ·rw[own i e1]at ei;exact hI.loc i c (key i e1 hi).2 ei
theorem Ya{cx:Cx}(hT:Cw P cx.T){d:Option Nat}{ty:Nat}{x:AV}{vx:Value}{t:Nat→AV}{ρ:Operand→Value}(ht:∀x:Operand,BG g w (AR h) (ev t x) (ρ x)){lo hi mx:Option Operand}{K:HK}(hx:BG g w (AR h) x vx)
  (hk:Ts cx d h ty x (B5 t lo) hi mx K):NV P w0 g0 h0 h g w (Instr.sliceAt ty vx (lo.map ρ) (hi.map ρ) (mx.map ρ)) K:=by
 unfold Ts at hk;split at hk
 ·rename_i d Ht e1;rw[Kv ht e1];split at hk
  ·rename_i e hs;split at hk
   ·exact hk.elim
   ·rename_i k EB;split at hk
    ·rename_i r sz es;split at hk
     ·rename_i Gf n e0;split at hk
      ·rename_i hd;split at hk
       ·rename_i q1 q2;obtain rfl:=AL q1;have q2:=AL q2;obtain⟨⟨rfl,h1,h2⟩,hk⟩:=hk;have hl:(h r).live:=by rw[e0];trivial
        have Dz:Ki cx d≠r:=fun e=>by rw[e,e0]at hd;cases hd
        have ho:=hI.objs r;rw[e0]at ho;obtain⟨t1,l1,a,cap,a1,a3⟩:=ho;have hr:=hx.slice_none;cases hx with
        |tok _ _ _ _ _ om Wy hu ht' hn Ls =>
         have hv:=Ls l1.symm;rw[a1]at hv;subst hv;have ZZ:es.length≤cap:=by rcases a3 with ⟨e1,_⟩ | ⟨e1,_⟩<;>omega
         have CM:=EE (P:=P) (w:=w) hT hs EB a es.length cap (some Ht) none none (.inl rfl) h1 h2 (by simp only[DV];omega) (by simp);simp only[Cv,DV,Ch]at CM;have CE:(es.drop Ht.toNat).length=es.length-Ht.toNat:=Ar;have fB:=BG.sub (c':=cap-Ht.toNat) hr rfl Wy (l:=Ht.toNat) (m:=es.length) (by omega) (Aj _) (by omega) (if cap=Ht.toNat then a else a.map (·.add (Ht.toNat*(cx.T e).size))) (by
          split
          ·exact .inr ⟨by omega,rfl⟩
          ·rw[q2];exact .inl rfl)
         rw[Du]at fB
         have fin:∀ob:Option Nat,(∀c,ob=some c→g.own r=some c)→(es.length-Ht.toNat=cap-Ht.toNat∧ob=none∨es.length-Ht.toNat≤cap-Ht.toNat∧∃b E vs off,(if cap=Ht.toNat then a else a.map (·.add (Ht.toNat*(cx.T e).size)))=some ⟨b,off,none⟩∧ob=some b∧w.heap[b]?=some (.cells vs E (0,0))∧vs.size=off+(cap-Ht.toNat)*Gf∧∀o,g.S b o→o<off+(es.length-Ht.toNat)*Gf) →
           NV P w0 g0 h0 h g w (Instr.sliceAt ty (.slice a es.length cap) ((some Ht).map fun n=>.int .i64 n) ((none:Option Operand).map ρ) ((none:Option Operand).map ρ)) K:=fun ob ho qd=>by
          obtain⟨k1,k2⟩:=hI.moveO r (Ki cx d) Dz hd hl ho (.tok Gf (es.drop Ht.toNat).length) (.slice (if cap=Ht.toNat then a else a.map (·.add (Ht.toNat*(cx.T e).size))) (es.length-Ht.toNat) (cap-Ht.toNat)) (es.length-Ht.toNat) true (by simp) (fun HH=>by
           obtain⟨u1,u2,u3,u4⟩:=Bz g (Ki cx d) (.slice (if cap=Ht.toNat then a else a.map (·.add (Ht.toNat*(cx.T e).size))) (es.length-Ht.toNat) (cap-Ht.toNat)) (es.length-Ht.toNat) true ob g.S;refine⟨u3,u2.trans CE.symm,_,_,by rw[CE];exact u1,?_⟩;rw[CE,u4];exact qd)
          exact⟨_,w,_,_,_,CM,hk,k1,k2,.tok _ _ _ _ _ (((fB.mono k2.keeps (fun _ h=>h) (fun _ h=>h.elim))).up _) (fun c hc=>Wy c (Ie hc)) (by unfold AR;rw[Bc];simp) (by simp[Gh.upd]) (by simp[Gh.upd]) (fun _=>by simp[Gh.upd])⟩
         rcases a3 with ⟨e1,e2⟩ | ⟨e1,b,E,vs,off,rfl,e3,e4,e5,e6⟩
         ·exact fin none (fun c h=>by cases h) (.inl ⟨by omega,rfl⟩)
         ·by_cases hc:cap=Ht.toNat
          ·exact fin none (fun c h=>by cases h) (.inl ⟨by omega,rfl⟩)
          ·refine fin (some b) (fun c h=>by cases h;exact e3) (.inr ⟨by omega,b,E,vs,off+Ht.toNat*Gf,?_,rfl,e4,?_,fun o ho=>?_⟩)
           ·rw[Ak hc];simp[Addr.add_lit,q2]
           ·rw[e5,Nat.sub_mul]
            have:=Bg Gf (show Ht.toNat≤cap by omega)
            omega
           ·have:=e6 o ho
            rw[Nat.sub_mul]
            have:=Bg Gf (show Ht.toNat≤es.length by omega)
            omega
       ·exact hk.elim
      ·exact hk.elim
     ·exact hk.elim
    ·exact hk.elim
  ·exact hk.elim
 ·exact hk.elim
omit hI in
theorem Nr{sz:Nat}:∀{es:List (List AV)},(∀cs∈es,cs.length=sz)→∀k,(es.take k).flatten=es.flatten.take (k*sz)
 | [],_,k=>by simp
 |c::es,hl,0=>by simp
 |c::es,hl,k+1=>by
  have h1:=hl c (Aa ..);have h2:c.length≤k*sz+sz:=by omega
  rw[IJ,By,By,Nr (fun x hx=>hl x (Af _ hx)) k,List.take_append,h1,DU,
   AT h2,show k*sz+sz-sz=k*sz by omega]
omit hI in
theorem CC.takeE{U:Nat→Prop}{sz k:Nat}{es:List (List AV)}{vs:List Value}(hl:∀cs∈es,cs.length=sz)(hk:k≤es.length)(h:CC g w U es.flatten (vs.take (es.length*sz))):CC g w U (es.take k).flatten (vs.take (k*sz)):=by
 have e:vs.take (k*sz)=(vs.take (es.length*sz)).take (k*sz):=by
  rw[J8,Nat.min_eq_left (Bg _ hk)]
 rw[Nr hl,e];refine⟨by rw[AJ (l:=vs.take (es.length*sz)),h.1,AJ],fun x hx=>h.2.1 x (Em hx),fun i av x q1 q2=>?_⟩;have hi:i<k*sz:=by
  rcases Ez i (k*sz)with q | q
  ·exact q
  ·rw[Jq,Ak (by omega)]at q1;cases q1
 rw[Jq,Aw hi]at q1 q2;exact h.2.2 i av x q1 q2
theorem aC{cx:Cx}(hT:Cw P cx.T){d:Option Nat}{ty:Nat}{x:AV}{vx:Value}{t:Nat→AV}{ρ:Operand→Value}(ht:∀x:Operand,BG g w (AR h) (ev t x) (ρ x)){hi:Option Operand}{K:HK}(hx:BG g w (AR h) x vx)
  (hk:gI cx d h ty x (B5 t hi) K):NV P w0 g0 h0 h g w (Instr.sliceAt ty vx none (hi.map ρ) none) K:=by
 unfold gI at hk;split at hk
 ·rename_i d Ly e1;rw[Kv ht e1];split at hk
  ·rename_i e hs;split at hk
   ·exact hk.elim
   ·rename_i k EB;split at hk
    ·rename_i r n;split at hk
     ·rename_i sz es e0;split at hk
      ·rename_i hd;split at hk
       ·rename_i q1 q3;have q1:=AL q1;obtain⟨⟨rfl,h1,h2⟩,hk⟩:=hk;have hl:(h r).live:=by rw[e0];trivial
        have Dz:Ki cx d≠r:=fun e=>by rw[e,e0]at hd;cases hd
        have ho:=hI.objs r;rw[e0]at ho;obtain⟨t1,l1,al,a2⟩:=ho;have CE:(es.take Ly.toNat).length=Ly.toNat:=by rw[AJ];omega
        cases hx with
        |msl _ _ _ a cap hu ht' Xu ha Ls =>
         have hv:=Ls l1.symm;have Oz:es.length≤cap:=by
          rcases a2 with ⟨b1,_,_⟩ | ⟨b,Lr,E,vs,b1,_,b3,_⟩
          ·subst b1;exact AN _
          ·rw[b1]at hv;cases hv;exact b3
         have CM:=EE (P:=P) (w:=w) hT hs EB a es.length cap none (some Ly) none (.inl rfl) (by simp) (by simp only[DV,Cv];exact h1) (by simp only[Cv,DV];omega) (by simp);have Lk:(if cap-(0:Nat)=0 then a else a.map (·.add (0*(cx.T e).size)))=a:=by
          rw[Ka];split
          ·rfl
          ·rcases ha with e3 | ⟨b,rfl⟩
           ·cases a with
            |none=>rfl
            |some a=>simp[Addr.add]
           ·rfl
         simp only[Cv,DV,Ch,Int.toNat_zero,Nat.sub_zero]at CM Lk;have key:∃a',(Instr.sliceAt ty (.slice a es.length cap) ((none:Option Int).map fun n=>.int .i64 n) ((some Ly).map fun n=>.int .i64 n) ((none:Option Int).map fun n=>.int .i64 n)).run P w=.ok (.slice a' Ly.toNat cap) w∧(a'=a):=⟨_,CM,by first | exact Lk | (split<;>first | rfl | exact Lk | (simp_all))⟩
         obtain⟨a',CM,rfl⟩:=key;have Km:BG (g.upd (Ki cx d) (.slice a' Ly.toNat cap) Ly.toNat true (g.own r) g.S) w (AR (AU (AU h r .dead) (Ki cx d) (.arr sz (es.take Ly.toNat)))) (.msl (Ki cx d) Ly.toNat) (.slice a' Ly.toNat cap) :=
          .msl _ _ _ _ _ (by unfold AR;rw[Bc];simp) (by simp[Gh.upd]) (by simp[Gh.upd]) (ha.elim (fun e=>.inl (by omega)) .inr) (fun _=>by simp[Gh.upd])
         obtain⟨k1,k2⟩:=hI.moveO r (Ki cx d) Dz hd hl (ob:=g.own r) (fun c h=>h) (.arr sz (es.take Ly.toNat)) (.slice a' Ly.toNat cap) Ly.toNat true (by simp) (fun HH=>by
          obtain⟨u1,u2,u3,u4⟩:=Bz g (Ki cx d) (.slice a' Ly.toNat cap) Ly.toNat true (g.own r) g.S;refine⟨u3,u2.trans CE.symm,fun c hc=>al c (Em hc),?_⟩;rcases a2 with ⟨b1,b2,b3⟩ | ⟨b,Lr,E,vs,b1,b2,b3,b4,b5,b6,b7⟩
          ·subst b1;rw[b2]at hv;cases hv;have h0:Ly.toNat=0:=by simp only[AC]at h2;omega
           exact .inl ⟨List.take_nil,by rw[u1,h0],u4.trans b3⟩
          ·rw[b1]at hv;cases hv;refine .inr ⟨b,cap,E,vs,by rw[CE];exact u1,u4.trans b2,by rw[CE];omega,b4,b5,?_,b7⟩;rw[CE];exact(CC.takeE al (by omega) b6).mono HH (fun _ h=>h) (fun _ h=>h.elim))
         exact⟨_,w,_,_,_,CM,hk,k1,k2,Km⟩
       ·exact hk.elim
      ·exact hk.elim
     ·exact hk.elim
    ·exact hk.elim
  ·exact hk.elim
 ·exact hk.elim
theorem Vi{cx:Cx}(hT:Cw P cx.T){d:Option Nat}{ty:Nat}{x:AV}{vx:Value}{t:Nat→AV}{ρ:Operand→Value}(ht:∀x:Operand,BG g w (AR h) (ev t x) (ρ x)){lo hi mx:Option Operand}{K:HK}(hx:BG g w (AR h) x vx)
  (hk:Gd cx d h ty x (B5 t lo) (B5 t hi) (B5 t mx) K):NV P w0 g0 h0 h g w (Instr.sliceAt ty vx (lo.map ρ) (hi.map ρ) (mx.map ρ)) K:=by
 unfold Gd at hk;split at hk
 ·rename_i Ht Ly lD e1 e2 e3;rw[Kv ht e1,Kv ht e2,Kv ht e3];split at hk
  ·rename_i hs;split at hk
   ·rename_i s;obtain⟨⟨h1,h2,h3⟩,hk⟩:=hk;obtain rfl:=hx.v_eq;have hb:=Tw (P:=P) (w:=w) false s.size s.size Ht Ly none (.inl rfl) h1 h2 (by simpa using h3) (by simp);refine(BO.val (x:=.string (s.extract (Ht.getD 0).toNat (Ly.getD s.size).toNat)) ?_ hk).does hI;simp only[Instr.sliceAt,Sem.run_bind,run_underlying (hT.string hs),Result.andThen_ok,Instr.slice];simp only[Option.map_none,Option.isSome_none,Dj,F8]at hb⊢;simp only[Sem.run_bind,hb,Result.andThen_ok,Sem.run_pure]
   ·exact hk.elim
  ·rename_i e hs;split at hk
   ·exact hk.elim
   ·rename_i k EB;split at hk
    ·rename_i tk es;have hr:=hx.slice_none;obtain⟨a,cap,hv,Oz⟩:∃a cap,vx=.slice a es.length cap∧es.length≤cap:=by
      cases hr with
      |snil _ a cap=>exact⟨a,cap,rfl,AN _⟩
      |slice _ _ b off sz cap val hc=>exact⟨_,cap,rfl,hc⟩
     subst hv;split at hk
     ·obtain⟨⟨h1,h2,h3⟩,hl,hk⟩:=hk;have CM:=EE (P:=P) (w:=w) hT hs EB a es.length cap Ht Ly none (.inl rfl) h1 h2 (by simp only[DV];omega) (by simp);refine BO.does hI ⟨_,_,CM,hk,(BG.sub (c':=cap-(Ht.getD 0).toNat) hr rfl hl (l:=(Ht.getD 0).toNat) (m:=(Ly.getD es.length).toNat) (by omega) (by omega) (by simp;omega) _ ?_).up _⟩;split
      ·rename_i e;simp only[DV,Ch]at e;exact .inr ⟨by omega,rfl⟩
      ·exact .inl rfl
     ·rename_i m;split at hk
      ·rename_i d hh;split at hk
       ·obtain⟨⟨h1,h2,rfl,h3⟩,hl,hk⟩:=hk;have CM:=EE (P:=P) (w:=w) hT hs EB a es.length cap Ht (some m) (some m) (.inr (by simp)) h1 h2 (by simp) (by simp only[Cv];omega);simp only[Cv]at CM;have CE:((es.take m.toNat).drop (Ht.getD 0).toNat).length=m.toNat-(Ht.getD 0).toNat:=by rw[Ar,AJ];omega
        refine BO.does hI ⟨_,_,CM,hk,.full _ _ _ _ ((BG.sub (c':=m.toNat-(Ht.getD 0).toNat) hr rfl hl (l:=(Ht.getD 0).toNat) (m:=m.toNat) (by omega) (by omega) (by omega) _ ?_).up _) (fun c hc=>hl c (Em (Ie hc))) ⟨_,by rw[CE]⟩⟩;split
        ·rename_i e;exact .inr ⟨e,rfl⟩
        ·exact .inl rfl
       split at hk
       ·rename_i hd;obtain⟨⟨h1,h2,rfl,h3⟩,hl,hk⟩:=hk;have CM:=EE (P:=P) (w:=w) hT hs EB a es.length cap Ht (some m) (some m) (.inr (by simp)) h1 h2 (by simp) (by simp only[Cv];omega);simp only[Cv]at CM
        obtain⟨g',k1,k2,k3⟩:=NI hI (sz:=(cx.T e).size) (n:=m.toNat-(Ht.getD 0).toNat) hd (es:=(es.take m.toNat).drop (Ht.getD 0).toNat) (fun c hc=>hl c (Em (Ie hc))) (by rw[Ar,AJ];omega)
         (BG.sub (c':=m.toNat-(Ht.getD 0).toNat) hr rfl hl (l:=(Ht.getD 0).toNat) (m:=m.toNat) (by omega) (by omega) (by omega) (if m.toNat=(Ht.getD 0).toNat then a else a.map (·.add ((Ht.getD 0).toNat*(cx.T e).size))) (by
          split
          ·rename_i e;exact .inr ⟨e,rfl⟩
          ·exact .inl rfl))
        exact⟨_,w,g',_,_,CM,hk,k1,k2,k3⟩
       ·exact hk.elim
      ·exact hk.elim
    ·obtain⟨⟨h1,h2,h3⟩,h4,hk⟩:=hk;obtain rfl:=hx.v_eq;have CM:=EE (P:=P) (w:=w) hT hs EB none 0 0 Ht Ly lD h4 (by omega) (by simp only[Is]at *;omega) (by simp only[Is]at *;omega) (by simp only[Is]at *;omega);refine BO.does hI (BO.val (x:=.slice none 0 0) ?_ hk);rw[CM];simp only[h1,Is,h2,h3];simp
    ·rename_i r n;split at hk
     ·rename_i sz es e0;split at hk
      ·rename_i QB;obtain rfl:=AL QB;obtain⟨⟨h1,h2,h3,h4,h5⟩,hk⟩:=hk;have ho:=hI.objs r;rw[e0]at ho;obtain⟨t1,l1,al,a3⟩:=ho;have hl:(h r).live:=by rw[e0];trivial
       have qb:lD=none∨Ly≠none:=h5.imp id (fun q=>q.2);cases hx with
       |msl _ _ _ a cap hu ht' hn ha Ls =>
        have hv:=Ls (h1.trans l1.symm);subst h1;have jB:∀c:Nat,es.length≤c→Ly.getD es.length≤lD.getD c∧lD.getD c≤c:=fun c hc=>by
         rcases h5 with h5 | ⟨h5,Dz⟩
         ·rw[h5];simp only[DV];omega
         ·obtain⟨m,hm⟩:=Option.ne_none_iff_exists'.1 Dz;rw[h5,hm];rw[hm]at h3 h4;simp only[Cv]at h3 h4⊢;omega
        rcases a3 with ⟨rfl,q2,q3⟩ | ⟨b,Lr,E,vs,q1,q2,q3,q4,q5,q6,q7⟩
        ·rw[q2]at hv;cases hv;have CM:=EE (P:=P) (w:=w) hT hs EB none 0 0 Ht Ly lD qb h2 h3 (jB 0 (by simp)).1 (jB 0 (by simp)).2
         obtain⟨k1,k2⟩:=hI.upd r .dead (g.ρ r) (g.ln r) (g.tk r) (g.own r) g.S w none ⟨rfl,rfl,rfl,Aj _⟩ (fun _ _ _=>rfl) (fun b e=>by cases e) (fun _ _ h=>h) (fun _ _ h=>.inl h) (fun b o e=>by cases e) (fun b hh _=>by cases hh) (by simp)
          (fun _=>⟨rfl,Aj _,fun _=>rfl,fun _=>rfl⟩) (fun _ _=>trivial)
         refine⟨_,w,_,_,_,CM,hk,k1,k2,?_⟩;have z1:((Ht.getD 0).toNat)=0:=by simp only[AC,Is]at h3 h4;omega
         have z2:((Ly.getD (([]:List (List AV)).length:Int)).toNat)=0:=by simp only[AC,Is]at h3 h4⊢;omega
         simp only[List.take_nil,List.drop_nil];have z3:((Ly.getD ((0:Nat):Int)).toNat)=0:=z2;rw[z1,z3];exact .snil _ _ _
        ·rw[q1]at hv;cases hv;have CM:=EE (P:=P) (w:=w) hT hs EB (some ⟨b,0,none⟩) es.length cap Ht Ly lD qb h2 h3 (jB _ q3).1 (jB _ q3).2;have bL:=(hI.loc r b hl q2).1
         obtain⟨k1,k2⟩:=hI.upd r .dead (g.ρ r) (g.ln r) (g.tk r) (g.own r) (g.more b (es.length*(cx.T e).size)) w none ⟨rfl,rfl,rfl,Aj _⟩ (fun _ _ _=>rfl) (fun b e=>by cases e) (fun _ _ h=>.inl h)
          (fun b' o hs=>hs.elim .inl (fun hs=>.inr ⟨by rw[hs.1];exact bL,.inr ⟨hl,by rw[hs.1];exact q2⟩⟩)) (fun b o e=>by cases e) (fun b hh _=>by cases hh) (by simp)
          (fun _=>⟨rfl,Aj _,fun _=>rfl,fun _=>rfl⟩) (fun _ _=>trivial)
         have Ea:=BG.slice_row (g:=g.upd r (g.ρ r) (g.ln r) (g.tk r) (g.own r) (g.more b (es.length*(cx.T e).size))) (U:=Fi) q4 al q3 (q6.mono k2.keeps (fun _ h=>h) (fun _ h=>h.elim)) (fun o ho=>.inr ⟨rfl,ho⟩);have zo:=jB _ q3;refine⟨_,w,_,_,_,CM,hk,k1,k2,(BG.sub (c':=(lD.getD cap).toNat-(Ht.getD 0).toNat) Ea rfl al (l:=(Ht.getD 0).toNat) (m:=(Ly.getD es.length).toNat) (by omega) (by omega) (by omega) _ ?_).up _⟩;split
         ·rename_i e;exact .inr ⟨by omega,rfl⟩
         ·exact .inl rfl
      ·exact hk.elim
     ·exact hk.elim
    ·exact hk.elim
  ·exact hk.elim
 ·exact hk.elim
theorem Uc{cx:Cx}(hT:Cw P cx.T){d:Option Nat}{ty:Nat}{n c:AV}{vn vc:Value}{K:HK}(hn:BG g w (AR h) n vn)(hc:BG g w (AR h) c vc)(hk:Je cx d h ty n c K) :
  NV P w0 g0 h0 h g w (Instr.makeSlice ty vn vc) K:=by
 unfold Je at hk;split at hk
 ·rename_i e n c hs;obtain rfl:=hn.v_eq;obtain rfl:=hc.v_eq;split at hk
  ·rename_i Rb;split at hk
   ·rename_i MN;have MN:=AL MN;split at hk
    ·exact hk.elim
    ·rename_i k EB;obtain⟨⟨h1,h2,h3,h4⟩,hk⟩:=hk;obtain⟨i,z,i1,i2,i3,i4,i5⟩:=Hh hT EB;have m6:(cx.T e).zc≠[]:=fun e0=>by rw[e0]at MN;rw[EB]at MN;cases MN
     have wn:IntKind.i64.wrap n=n:=MJ ⟨by omega,by omega⟩;have wc:IntKind.i64.wrap c=c:=MJ ⟨by omega,by omega⟩;have FM:∀l:List AV,(∀a∈l,one a=true)→GP l=true:=by
      intro l
      induction l with
      |nil=>intro _;rfl
      |cons a l ih=>intro h;simp[GP,h a (List.mem_cons_self ..),ih (fun b hb=>h b (List.mem_cons_of_mem _ hb))]
     have mZ:((Array.range (c.toNat*(cx.T e).size)).map fun k=>z.cells[k % z.cells.size]!).toList=(List.replicate c.toNat (cx.T e).zc).flatten:=by
      rw[Hz c.toNat _ m6,MN,i5];have e6:z.cells.size=(cx.T e).size:=by rw[←MN,i5];simp
      simp[e6,Array.getElem!_eq_getD]
     have hzs:(cx.T e).zc.length=(cx.T e).size:=MN;have rO:∀c'∈List.replicate c.toNat (cx.T e).zc,c'.length=(cx.T e).size:=fun c' hc=>by rw[Ce hc];exact MN
     have tZ : ∀c'∈List.replicate n.toNat ((cx.T e).zc.map AV.v),c'.length=(cx.T e).size:=fun c' hc=>by rw[Ce hc,A9];exact MN
     have t6:∀c'∈List.replicate n.toNat (cx.T e).zc,c'.length=(cx.T e).size:=fun c' hc=>by rw[Ce hc];exact MN
     obtain⟨g',av,h',q1,q2,q3,q4⟩:=JG hI hk (vs:=(Array.range (c.toNat*(cx.T e).size)).map fun k=>z.cells[k % z.cells.size]!) (cap:=c.toNat) e tZ (by rw[Cq];omega) (by simp) (by
      rw[mZ,Cq];have e1:(List.replicate n.toNat ((cx.T e).zc.map AV.v)).flatten=(List.replicate n.toNat (cx.T e).zc).flatten.map AV.v:=by
       rw[RD,List.map_replicate]
      have e2:(List.replicate c.toNat (cx.T e).zc).flatten.take (n.toNat*(cx.T e).size)=(List.replicate n.toNat (cx.T e).zc).flatten:=by
       obtain⟨m,hm⟩:∃m,c.toNat=n.toNat+m:=⟨c.toNat-n.toNat,by omega⟩;rw[hm,←List.replicate_append_replicate,CG,Hg (by rw[Df t6,Cq])]
      rw[e1,e2];refine CC.vals (FM _ (fun a ha=>?_));obtain⟨x,hx,rfl⟩:=Am.1 ha;obtain⟨l,hl,hx⟩:=El.1 hx;rw[Ce hl]at hx;exact Mi Rb _ (Am.2 ⟨x,hx,rfl⟩)) w ⟨rfl,rfl,rfl,rfl⟩
     rw[Cq]at q4;refine⟨_,_,g',av,h',?_,q1,q2,q3,q4⟩;have tG:¬((cx.T e).bytes*c>2 ^ 48):=by rw[Int.mul_comm];omega
     have fc:((decide (c<0)||decide (((cx.T e).bytes:Int)*c>2 ^ 48))||decide (n<0)||decide (n>c))=false:=by
      simp only[Bool.or_eq_false_iff,JB];exact⟨⟨⟨by omega,tG⟩,by omega⟩,by omega⟩
     simp only[Instr.makeSlice,Sem.run_bind,run_underlying (hT.slice hs),Result.andThen_ok,asInt,asIntOf,Sem.run_pure,typeInfo,run_program,i1,i4,wn,wc,fc,Dj,F8,run_askRoom,hT.size1 w EB]
     by_cases hz:c.toNat*(k+1)=0
     ·have pM:c.toNat=0:=by
       rcases Nat.mul_eq_zero.1 hz with h | h
       ·exact h
       ·cases h
      rw[pM];simp only[Ka,QD];simp only[show Array.range 0=#[]from rfl,Array.map_empty];simp[newRow]
     ·simp only[Ak hz,Sem.run_bind,zeroValue,typeInfo,run_program,i1,i2,Result.andThen_ok,Sem.run_pure];rw[EB];simp[newRow]
   ·exact hk.elim
  ·exact hk.elim
 ·exact hk.elim
end
end Go.Eng
