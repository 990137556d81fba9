/- Lemmas for the claims of this seat, without a condition: part 9 (EngR, EngS). -/
import Derived.Test.YtddfphmpfnmknaaGreatDoorCA08
namespace Go.Eng
theorem Ct.app{g:Gh}{w:World}{U:Nat→Prop}{T3 bs:List AV}{xs ys:List Value}(h:Ct g w U T3 xs)(k:Ct g w U bs ys):Ct g w U (T3++bs) (xs++ys):=by
 refine⟨by simp[h.1,k.1],fun x hx=>(AU.1 hx).elim (h.2.1 x) (k.2.1 x),fun i av x h1 h2=>?_⟩
 by_cases hi:i<T3.length
 ·rw[AX hi]at h1;rw[AX (by rw[h.1];exact hi)]at h2;exact h.2.2 i av x h1 h2
 ·rw[AZ (by omega)]at h1;rw[AZ (by rw[h.1];omega),h.1]at h2;exact k.2.2 _ av x h1 h2
section
variable {P:Program}{w0:World}{g0:Gh}{h0 h:Nat→HO}{g:Gh}{w:World}(hI:DA w0 g0 h0 h g w)
include hI
omit hI in
theorem PU(t ty e:TypeId)(i:TypeInfo)(ht:P.underlying t=some (.slice e))(hi:P.info? e=some i){E:TypeId}
  (g NT ZC:Nat) (Fx:Array Value) (hg:w.heap[g]?=some (.cells Fx E (0,0)))
  (a:Addr) (m c:Nat) (news:List Value) (hl:news.length=m*i.size) (IL:∀j u,news[j]?=some u→w.cell? (a.add j)=some u) (h1:∀u∈news,u.oneCell'=true)
  (JL:NT+m≤ZC) (Y4:NT*i.size+news.length≤Fx.size) :
  (Builtin.append_ #[t,t] ty #[.slice (some ⟨g,0,none⟩) NT ZC,.slice (some a) m c]).run P w =
   .ok (.slice (some ⟨g,0,none⟩) (NT+m) ZC) (w.setRow g (Fx.toList.take (NT*i.size)++news++Fx.toList.drop (NT*i.size+news.length)).toArray):=by
 have hf:=run_firstCells_some (P:=P) w i.size m a m c news hl IL;have Jf:=run_storeCells_at P g (NT*i.size) E news 0 Fx w hg (by simpa using Y4) h1;simp only[Gd]at Jf;simp[Builtin.append_,run_underlying ht,sizeOf,typeInfo,hi,Builtin.lenOf,JL,hf,Addr.add_lit,Jf]
omit hI in
theorem TA(t ty e:TypeId)(i:TypeInfo)(ht:P.underlying t=some (.slice e))(hi:P.info? e=some i){E:TypeId}
  (g off NT ZC:Nat) (Fx:Array Value) (hg:w.heap[g]?=some (.cells Fx E (0,0)))
  (a:Addr) (m c:Nat) (news:List Value) (hl:news.length=m*i.size) (IL:∀j u,news[j]?=some u→w.cell? (a.add j)=some u) (h1:∀u∈news,u.oneCell'=true)
  (JL:NT+m≤ZC) (Y4:off+NT*i.size+news.length≤Fx.size) :
  (Builtin.append_ #[t,t] ty #[.slice (some ⟨g,off,none⟩) NT ZC,.slice (some a) m c]).run P w =
   .ok (.slice (some ⟨g,off,none⟩) (NT+m) ZC) (w.setRow g (Fx.toList.take (off+NT*i.size)++news++Fx.toList.drop (off+NT*i.size+news.length)).toArray):=by
 have hf:=run_firstCells_some (P:=P) w i.size m a m c news hl IL;have Jf:=run_storeCells_at P g (off+NT*i.size) E news 0 Fx w hg (by simpa using Y4) h1;simp only[Gd]at Jf;simp[Builtin.append_,run_underlying ht,sizeOf,typeInfo,hi,Builtin.lenOf,JL,hf,Addr.add_lit,Jf]
omit hI in
theorem kR{b off n m sz cap:Nat}{Fx:Array Value}{E:TypeId}{olds news:List Value}(hb:w.heap[b]?=some (.cells Fx E (0,0)))(Xy:Fx.size=off+cap*sz)(hn:n≤cap)(hm:n+m≤cap)(hnl:news.length=m*sz)(hol:olds.length=n*sz)
  (GA:∀j u,olds[j]?=some u→w.cell? ⟨b,off+j,none⟩=some u) :
  (Fx.toList.take (off+n*sz)++news++Fx.toList.drop (off+n*sz+news.length)).length=off+cap*sz ∧
  ((Fx.toList.take (off+n*sz)++news++Fx.toList.drop (off+n*sz+news.length)).drop off).take ((n+m)*sz)=olds++news ∧
  ∀o,o<off+n*sz→(Fx.toList.take (off+n*sz)++news++Fx.toList.drop (off+n*sz+news.length)).toArray[o]?=Fx[o]?:=by
 have hcl:Fx.toList.length=off+cap*sz:=by rw[BY];exact Xy
 have PD:(n+m)*sz≤cap*sz:=Bc _ hm;have fJ:n*sz≤cap*sz:=Bc _ hn;rw[EN]at PD;have Kx:(Fx.toList.take (off+n*sz)).drop off=olds:=by
  apply CU;intro j
  by_cases hj:j<n*sz
  ·rw[Dp,BE (by omega)];have hx:olds[j]?=some olds[j]:=At (by omega)
   have:=GA j _ hx
   rw[FA hb]at this;rw[A1,this,hx]
  ·rw[A2 (by rw[Dk,AD];omega),A2 (by omega)]
 have nL:(Fx.toList.take (off+n*sz)).length=off+n*sz:=by rw[AD];omega
 refine⟨?_,?_,fun o ho=>?_⟩
 ·rw[Ad,Ad,nL,Dk,hcl,hnl];omega
 ·rw[BI,List.drop_append_of_le_length (by rw[nL];omega),Kx,←BI,Hk (by rw[Ad,hol,hnl,EN])]
 ·rw[FZ,BI,AX (by rw[nL];exact ho),BE ho,A1]
omit hI in
theorem ig{b n m sz cap:Nat}{Fx:Array Value}{E:TypeId}{olds news:List Value}(hb:w.heap[b]?=some (.cells Fx E (0,0)))(Xy:Fx.size=cap*sz)(hn:n≤cap)(hm:n+m≤cap)(hnl:news.length=m*sz)(hol:olds.length=n*sz)
  (GA:∀j u,olds[j]?=some u→w.cell? ⟨b,j,none⟩=some u) :
  (Fx.toList.take (n*sz)++news++Fx.toList.drop (n*sz+news.length)).length=cap*sz ∧
  (Fx.toList.take (n*sz)++news++Fx.toList.drop (n*sz+news.length)).take ((n+m)*sz)=olds++news ∧
  ∀o,o<n*sz→(Fx.toList.take (n*sz)++news++Fx.toList.drop (n*sz+news.length)).toArray[o]?=Fx[o]?:=by
 have hcl:Fx.toList.length=cap*sz:=by rw[BY];exact Xy
 have PD:(n+m)*sz≤cap*sz:=Bc _ hm;have fJ:n*sz≤cap*sz:=Bc _ hn;rw[EN]at PD;have Kx:Fx.toList.take (n*sz)=olds:=by
  apply CU;intro j
  by_cases hj:j<n*sz
  ·rw[BE hj];have hx:olds[j]?=some olds[j]:=At (by omega)
   have:=GA j _ hx
   rw[FA hb]at this;rw[A1,this,hx]
  ·rw[A2 (by rw[AD];omega),A2 (by omega)]
 have nL:(Fx.toList.take (n*sz)).length=n*sz:=by rw[AD];omega
 refine⟨?_,?_,fun o ho=>?_⟩
 ·rw[Ad,Ad,nL,Dk,hcl,hnl];omega
 ·rw[Kx,Hk (by rw[Ad,hol,hnl,EN])]
 ·rw[FZ,BI,AX (by rw[nL];exact ho),BE ho,A1]
theorem Uv{r n sz:Nat}{es:List (List AV)}{x:Value}(he:h r=.arr sz es)(hx:BD g w (AP h) (.msl r n) x)(hn:n=es.length) :
  x=g.ρ r∧∃news,N6 w x es.length sz news∧Ct g w Fg es.flatten news:=by
 have ho:=hI.objs r;rw[he]at ho;obtain⟨t1,l1,al,a1⟩:=ho;cases hx with
 |msl _ _ _ a cap hu ht XF ha JM =>
  have e:=JM (hn.trans l1.symm);refine⟨e,?_⟩;rw[e];rcases a1 with ⟨rfl,e2,e3⟩ | ⟨b,KU,E,vs,e1,e2,e3,e4,e5,e6,e7⟩
  ·exact⟨[],⟨by simp,by simp,none,0,e2,.inl rfl⟩,by simp,by simp,fun i av x h1 h2=>by simp at h2⟩
  ·have Xy:vs.toList.length=KU*sz:=by rw[BY];exact e5
   have Hg:es.length*sz≤vs.toList.length:=by rw[Xy];exact Bc _ e3
   refine⟨vs.toList.take (es.length*sz),⟨by rw[AD,Nat.min_eq_left Hg],e6.2.1,_,_,e1,.inr ⟨_,rfl,fun j u hj=>?_⟩⟩,e6⟩;rw[Addr.add_lit,Be,FA e4];have Dz:=(Ap.1 hj).1;rw[AD]at Dz;rw[BE (by omega),A1]at hj;exact hj
theorem bK{sz:Nat}{x:AV}{vx:Value}{K:List (List AV)→Prop}(hx:BD g w (AP h) x vx)(hk:K3 h x K) :
  ∃es,K es∧((∀c∈es,c.length=sz)→∃news,N6 w vx es.length sz news∧Ct g w Fg es.flatten news):=by
 unfold K3 at hk;split at hk
 ·exact⟨_,hk,fun hl=>N6.of_rep hx.slice_none hl⟩
 ·obtain rfl:=hx.v_eq;exact⟨[],hk,fun _=>⟨[],⟨by simp,by simp,none,0,rfl,.inl rfl⟩,by simp,by simp,fun i av x h1 h2=>by simp at h2⟩⟩
 ·rename_i r n;split at hk
  ·rename_i Gp es e;obtain⟨hn,hk⟩:=hk;refine⟨es,hk,fun hl=>?_⟩;obtain⟨_,news,n1,n2⟩:=Uv hI e hx hn;refine⟨news,?_,n2⟩
   have:news.length=es.length*sz:=by rw[n2.1,CY hl]
   exact⟨this,n1.2.1,n1.2.2⟩
  ·exact hk.elim
 ·exact hk.elim
theorem cH{cx:Cx}{d:Option Nat}{sz:Nat}{K:HK}(hk:EA cx d h sz [] K) :
  ∃g' av h',K av h'∧DA w0 g0 h0 h' g' w∧Le h g w h' g' w∧BD g' w (AP h') av (.slice none 0 0):=by
 have base:∀(d:Nat) (o' : HO),h d=.free→o'≠.free→(∀g' : Gh,g'.ρ d=.slice none 0 0→g'.ln d=0→g'.tk d=true→g'.own d=none→D8 g' w (AP (AR h d o')) d o') →
   DA w0 g0 h0 (AR h d o') (g.upd d (.slice none 0 0) 0 true none g.S) w∧Le h g w (AR h d o') (g.upd d (.slice none 0 0) 0 true none g.S) w:=by
  intro d o' hd Dr Je;refine hI.upd d o' _ _ _ _ _ w none ⟨rfl,rfl,rfl,Al _⟩ (fun _ _ _=>rfl) (fun b e=>by cases e) (fun _ _ h=>h) (fun _ _ h=>.inl h) (fun b o e=>by cases e) (fun b _ e=>by cases e) Dr (fun hu=>absurd hd hu) (fun _ _=>?_);obtain⟨u1,u2,u3,u4⟩:=Bw g d (.slice none 0 0) 0 true none g.S;exact Je _ u1 u2 u3 u4
 unfold EA at hk;split at hk
 ·exact hk.elim
 ·rename_i d;generalize Ks cx d=d1 at hk;split at hk
  ·rename_i hd;split at hk
   ·obtain⟨k1,k2⟩:=base d1 (.arr sz []) hd (by simp) (fun g' u1 u2 u3 u4=>⟨u3,u2,by simp,.inl ⟨rfl,u1,u4⟩⟩);exact⟨_,_,_,hk,k1,k2,.msl _ d1 0 none 0 (by unfold AP;rw[A8];simp) (by simp[Gh.upd]) (AL _) (.inl rfl) (fun _=>by simp[Gh.upd])⟩
   ·obtain⟨k1,k2⟩:=base d1 (.tok sz 0) hd (by simp) (fun g' u1 u2 u3 u4=>⟨u3,u2,none,0,u1,.inl ⟨rfl,u4⟩⟩);exact⟨_,_,_,hk,k1,k2,.tok _ d1 sz [] _ (.snil _ _ _) (by simp) (by unfold AP;rw[A8];simp) (by simp[Gh.upd]) (AL _) (fun _=>by simp[Gh.upd])⟩
  ·exact hk.elim
theorem YH{cx:Cx}(hT:Ck P cx.T){d:Option Nat}{t ty:Nat}{s x:AV}{vs vx:Value}{K:HK}(hs:BD g w (AP h) s vs)(hx:BD g w (AP h) x vx)(hk:H8 cx d h t s x K) :
  N1 P w0 g0 h0 h g w (Builtin.append_ #[t,t] ty #[vs,vx]) K:=by
 unfold H8 at hk;split at hk
 ·rename_i e ht;split at hk
  ·exact hk.elim
  ·rename_i hz;have hz:=AI hz;split at hk
   ·exact hk.elim
   ·rename_i k EC;have h5:=bK hI (sz:=(cx.T e).size) hx hk
    clear hk
    obtain⟨es2,hk,h6⟩:=h5;split at hk
    ·obtain⟨⟨q1,q2,q3⟩,hk⟩:=hk;obtain rfl:=hs.v_eq;obtain⟨news,n1,n2⟩:=h6 (FO q1);obtain⟨m1,m2,a,c,rfl,m4⟩:=n1
     by_cases hm:es2.length=0
     ·obtain rfl:=AN hm;obtain⟨g',av,h',k1,k2,k3,k4⟩:=cH hI hk;exact⟨_,w,g',av,h',IF hT w ht EC none a 0 0 c (Al _),k1,k2,k3,k4⟩
     ·obtain⟨nc,rest,r1,r2,r3⟩:=HI hT w (ty:=ty) ht EC hz (olds:=[]) (a:=none) (n:=0) (cap:=0) ⟨by simp,by simp,none,0,rfl,.inl rfl⟩ rfl (fun _=>rfl) ⟨m1,m2,a,c,rfl,m4⟩ rfl (by omega) (by omega) (by rw[Be];exact q2) (by omega);obtain⟨g',av,h',k1,k2,k3,k4⟩:=JR hI hk (vs:=([]++news++rest).toArray) (cap:=nc) e (FO q1) (by omega) (by simpa using r3) (by
       rw[EM,show(news++rest).toArray.toList=news++rest from rfl,Hk m1];exact n2) w.drew ⟨rfl,rfl,rfl,rfl⟩
      rw[Be]at r1;exact⟨_,_,g',av,h',r1,k1,k2,k3,k4⟩
    ·rename_i Gp es;split at hk
     ·rename_i QC;obtain QC:=AI QC;obtain⟨⟨q1,q2,q3,q4⟩,hk⟩:=hk;obtain⟨news,n1,n2⟩:=h6 (FO q1);obtain⟨m1,m2,a2,c2,rfl,m4⟩:=n1;cases hs with
      |full _ _ _ _ hr WI JM =>
       obtain⟨a,rfl⟩:=JM;have GM:∀c∈es++es2,c.length=(cx.T e).size:=fun c hc=>(AU.1 hc).elim (fun h=>(WI c h).trans QC) (FO q1 c);obtain⟨olds,o1,o2⟩:=N6.of_rep hr (sz:=(cx.T e).size) (fun c hc=>(WI c hc).trans QC);have WJ:=o2.app n2;rw[←Cv]at WJ;have ha:a=none→es.length=0:=by
        rintro rfl
        obtain⟨p1,p2,a',c',p3,p4⟩:=o1;cases p3;rcases p4 with h | ⟨b',h,_⟩
        ·exact h
        ·cases h
       obtain⟨nc,rest,r1,r2,r3⟩:=HI hT w (ty:=ty) ht EC hz o1 rfl ha ⟨m1,m2,a2,c2,rfl,m4⟩ rfl q2 (by omega) q3 q4;obtain⟨g',av,h',k1,k2,k3,k4⟩:=JR hI hk (vs:=(olds++news++rest).toArray) (cap:=nc) e GM (by rw[Ad];exact r2) (by rw[Fq];exact r3) (by
        rw[show(olds++news++rest).toArray.toList=olds++news++rest from rfl,Hk (by rw[Ad,Ad,o1.1,m1,EN])];exact WJ) w.drew ⟨rfl,rfl,rfl,rfl⟩
       rw[Ad]at k4;exact⟨_,_,g',av,h',r1,k1,k2,k3,k4⟩
     ·exact hk.elim
    ·rename_i r Gp es;have ho:=hI.objs r;split at hk
     ·rename_i sz n e0;rw[e0]at ho;split at hk
      ·rename_i QC vz;obtain rfl:=AI vz;obtain QC:=AI QC;obtain⟨⟨q1,q2,q3,q4⟩,hk⟩:=hk;rw[QC]at q1;obtain⟨news,n1,n2⟩:=h6 (FO q1);obtain⟨m1,m2,a2,c2,rfl,m4⟩:=n1;obtain⟨t1,l1,a,cap,a1,a3⟩:=ho;have hl:(h r).live:=by rw[e0];trivial
       have GM:∀c∈es++es2,es.length=n→True:=fun _ _ _=>trivial;cases hs with
       |tok _ _ _ _ _ hr WI hu ht' hn JM =>
        have hv:=JM (q2.trans l1.symm);rw[a1]at hv;subst hv;subst q2;have GM:∀c∈es++es2,c.length=Gp:=fun c hc=>(AU.1 hc).elim (WI c) (fun h=>(FO q1 c h).trans QC.symm);obtain⟨olds,o1,o2⟩:=N6.of_rep hr WI;have WJ:=o2.app n2;rw[←Cv]at WJ;have af:es.length≤cap:=by rcases a3 with ⟨e1,_⟩ | ⟨e1,_⟩<;>omega
        by_cases hm:es2.length=0
        ·obtain rfl:=AN hm;have Je:=hI.objs r;rw[e0]at Je
         obtain⟨k1,k2⟩:=hI.upd r (.tok Gp (es.length+([]:List (List AV)).length)) (g.ρ r) (g.ln r) (g.tk r) (g.own r) g.S w none ⟨rfl,rfl,rfl,Al _⟩ (fun _ _ _=>rfl) (fun b e=>by cases e) (fun _ _ h=>h) (fun _ _ h=>.inl h) (fun b o e=>by cases e)
          (fun b _ e=>⟨(hI.loc r b hl e).1,.inl ⟨hl,e⟩⟩) (by simp) (fun _=>⟨rfl,Al _,fun _=>rfl,fun _=>rfl⟩) (fun hg HT=>by
           obtain⟨u1,u2,u3,u4⟩:=Bw g r (g.ρ r) (g.ln r) (g.tk r) (g.own r) g.S;rw[AE,Gd];exact Je.same HT (fun i hi=>DJ (by simp) i hi) hg u1 u2 u3 u4 (fun b _ _=>⟨rfl,fun _ h=>h⟩))
         refine⟨_,w,_,_,_,IF hT w ht EC a a2 es.length cap c2 af,hk,k1,k2,?_⟩;rw[BV];exact(BD.tok (AP h) r Gp es _ hr WI hu ht' hn JM).le k2
        ·by_cases JL:es.length+es2.length≤cap
         ·rcases a3 with ⟨e1,_⟩ | ⟨e1,b,E,Fx,off,rfl,e3,e4,e5,e6⟩
          ·omega
          ·rcases m4 with h | ⟨ba,rfl,IL⟩
           ·omega
           ·obtain⟨i,z,i1,i2,i3,i4,i5⟩:=Hm hT EC;have PD:(es.length+es2.length)*Gp≤cap*Gp:=Bc _ JL;have lI:news.length=es2.length*Gp:=by rw[QC];exact m1
            have Y5:i.size=Gp:=i3.trans QC.symm;have CB:=TA (P:=P) t ty e i (hT.slice ht) i1 b off es.length cap Fx e4 ba es2.length c2 news (by rw[Y5];exact lI) IL m2 JL (by rw[Y5,lI,e5];rw[EN]at PD;omega);rw[Y5]at CB;have GA:∀j u,olds[j]?=some u→w.cell? ⟨b,off+j,none⟩=some u:=by
             obtain⟨p1,p2,a',c',p3,p4⟩:=o1;cases p3;intro j u hj;rcases p4 with h | ⟨b',h,h'⟩
             ·rw[h,IC]at p1;rw[AN p1]at hj;simp at hj
             ·cases h
              have:=h' j u hj
              rwa [Addr.add_lit]at this
            obtain⟨p1,p2,p3⟩:=kR e4 e5 e1 JL lI o1.1 GA;generalize hnewd:Fx.toList.take (off+es.length*Gp)++news++Fx.toList.drop (off+es.length*Gp+news.length)=new at CB p1 p2 p3;have ES:=setRow_heap w b Fx new.toArray E (0,0) e4;have bX:=(hI.loc r b hl e3).1
            obtain⟨k1,k2⟩:=hI.upd r (.tok Gp (es.length+es2.length)) (.slice (some ⟨b,off,none⟩) (es.length+es2.length) cap) (es.length+es2.length) (g.tk r) (g.own r) (g.more b (off+(es.length+es2.length)*Gp)) (w.setRow b new.toArray) (some b)
             ⟨rfl,rfl,rfl,by rw[size_setRow];exact Al _⟩ (fun k _ Dr=>setRow_other w b k _ (fun e=>Dr (by rw[e]))) (fun b' e=>by cases e;exact⟨hl,e3⟩) (fun _ _ h=>.inl h)
             (fun b' o hs=>hs.elim .inl (fun hs=>.inr ⟨by rw[size_setRow,hs.1];exact bX,.inr ⟨hl,by rw[hs.1];exact e3⟩⟩))
             (fun b' o e hs=>by
              cases e
              refine⟨?_,fun es ck he=>by rw[e4]at he;cases he⟩;rw[FA ES,FA e4];exact p3 o (e6 o hs)) (fun b' _ e=>by
              rw[e3]at e;cases e;exact⟨by rw[size_setRow];exact bX,.inl ⟨hl,e3⟩⟩) (by simp) (fun _=>⟨rfl,by omega,fun e=>(by rw[t1]at e;cases e),fun e=>by omega⟩) (fun hg HT=>by
              obtain⟨u1,u2,u3,u4⟩:=Bw g r (.slice (some ⟨b,off,none⟩) (es.length+es2.length) cap) (es.length+es2.length) (g.tk r) (g.own r) (g.more b (off+(es.length+es2.length)*Gp));exact⟨u3.trans t1,u2,_,cap,u1,  .inr ⟨JL,b,E,_,off,rfl,u4.trans e3,ES,by rw[Fq];exact p1,fun o ho=>by
               rcases ho with ho | ⟨_,ho⟩
               ·have h1:=e6 o ho;have h2:es.length*Gp≤(es.length+es2.length)*Gp:=Bc _ (by omega);omega
               ·exact ho⟩⟩)
            have Eg:=BD.slice_off (g:=g.upd r (.slice (some ⟨b,off,none⟩) (es.length+es2.length) cap) (es.length+es2.length) (g.tk r) (g.own r) (g.more b (off+(es.length+es2.length)*Gp))) (U:=AP (AR h r (.tok Gp (es.length+es2.length)))) (cap:=cap) (es:=es++es2) ES GM (by rw[Ad];exact JL) (by
             rw[Ad,show new.toArray.toList=new from rfl,p2];exact WJ.mono k2.keeps (fun _ h=>h) (fun _ h=>h.elim)) (fun o ho=>.inr ⟨rfl,by rw[Ad]at ho;exact Nat.add_lt_add_left ho off⟩)
            rw[Ad]at Eg;exact⟨_,_,_,_,_,CB,hk,k1,k2,.tok _ r Gp _ _ Eg GM (by unfold AP;rw[A8];simp) (by simp[Gh.upd,t1]) (by simp[Gh.upd]) (fun _=>by simp[Gh.upd])⟩
         ·have fH:cap<es.length+es2.length:=by omega
          have ha:a=none→cap=0:=by
           rintro rfl
           rcases a3 with ⟨e1,_⟩ | ⟨_,b,_,_,_,e2,_⟩
           ·obtain⟨p1,p2,a',c',p3,p4⟩:=o1;cases p3;rcases p4 with h | ⟨b',h,_⟩
            ·omega
            ·cases h
           ·cases e2
          obtain⟨nc,rest,r1,r2,r3⟩:=HI hT w (ty:=ty) ht EC hz (by rw[←QC];exact o1) rfl ha ⟨m1,m2,a2,c2,rfl,m4⟩ rfl (by omega) fH q3 q4;have ES:=Hw w.drew (.cells (olds++news++rest).toArray e (0,0)) (b:=w.heap.size) rfl
          obtain⟨k1,k2⟩:=hI.upd r (.tok Gp (es.length+es2.length)) (.slice (some ⟨w.heap.size,0,none⟩) (es.length+es2.length) nc) (es.length+es2.length) (g.tk r) (some w.heap.size) (g.more w.heap.size ((es.length+es2.length)*Gp))
           (w.drew.alloc (.cells (olds++news++rest).toArray e (0,0))) none
           ⟨rfl,rfl,rfl,by rw[World.size_alloc];exact Nat.le_succ _⟩ (fun k J6 _=>by rw[heap_alloc_old _ _ (by exact J6)];rfl) (fun b' e=>by cases e) (fun _ _ h=>.inl h)
           (fun b' o hs=>hs.elim .inl (fun hs=>.inr ⟨by rw[World.size_alloc,hs.1];exact LB _,.inl (by rw[hs.1];exact Al _)⟩))
           (fun b' o e=>by cases e) (fun b' _ e=>by cases e;exact⟨by rw[World.size_alloc];exact LB _,.inr (Al _)⟩) (by simp) (fun _=>⟨rfl,by omega,fun e=>(by rw[t1]at e;cases e),fun e=>by omega⟩) (fun hg HT=>by
            obtain⟨u1,u2,u3,u4⟩:=Bw g r (.slice (some ⟨w.heap.size,0,none⟩) (es.length+es2.length) nc) (es.length+es2.length) (g.tk r) (some w.heap.size) (g.more w.heap.size ((es.length+es2.length)*Gp));exact⟨u3.trans t1,u2,_,nc,u1,.inr ⟨r2,w.heap.size,e,_,0,rfl,u4,ES,by rw[Fq,QC,Be];exact r3,fun o ho=>by
             rcases ho with ho | ⟨_,ho⟩
             ·have:=hI.slt _ _ ho;omega
             ·omega⟩⟩)
          have Eg:=BD.slice_row (g:=g.upd r (.slice (some ⟨w.heap.size,0,none⟩) (es.length+es2.length) nc) (es.length+es2.length) (g.tk r) (some w.heap.size) (g.more w.heap.size ((es.length+es2.length)*Gp))) (U:=AP (AR h r (.tok Gp (es.length+es2.length)))) (cap:=nc) (es:=es++es2) ES GM (by rw[Ad];exact r2) (by
           rw[Ad,show(olds++news++rest).toArray.toList=olds++news++rest from rfl,Hk (by rw[Ad,o1.1,m1,QC,EN])];exact WJ.mono k2.keeps (fun _ h=>h) (fun _ h=>h.elim)) (fun o ho=>.inr ⟨rfl,by rw[Ad]at ho;exact ho⟩)
          rw[Ad]at Eg;exact⟨_,_,_,_,_,r1,hk,k1,k2,.tok _ r Gp _ _ Eg GM (by unfold AP;rw[A8];simp) (by simp[Gh.upd,t1]) (by simp[Gh.upd]) (fun _=>by simp[Gh.upd])⟩
      ·exact hk.elim
     ·exact hk.elim
    ·rename_i r n;have ho:=hI.objs r;split at hk
     ·rename_i sz es e0;split at hk
      ·rename_i QC;obtain QC:=AI QC;obtain⟨⟨q1,q2,q3,q4⟩,hk⟩:=hk;rw[QC]at q1;obtain⟨news,n1,n2⟩:=h6 (FO q1);obtain⟨m1,m2,a2,c2,rfl,m4⟩:=n1;obtain⟨hv,olds,o1,o2⟩:=Uv hI e0 hs q2.symm;have Je:=ho;rw[e0]at ho;obtain⟨t1,l1,al,a3⟩:=ho;have hl:(h r).live:=by rw[e0];trivial
       subst hv;have GM:∀c∈es++es2,c.length=sz:=fun c hc=>(AU.1 hc).elim (al c) (fun h=>(FO q1 c h).trans QC.symm);have WJ:=o2.app n2;rw[←Cv]at WJ;obtain⟨a,cap,hρ,af,ha⟩:∃a cap,g.ρ r=.slice a es.length cap∧es.length≤cap∧(a=none→cap=0):=by
        rcases a3 with ⟨rfl,e2,e3⟩ | ⟨b,cap,E,Fx,e1,e2,e3,e4,e5,e6,e7⟩
        ·exact⟨none,0,e2,Al _,fun _=>rfl⟩
        ·exact⟨_,cap,e1,e3,fun e=>by cases e⟩
       by_cases hm:es2.length=0
       ·obtain rfl:=AN hm;rw[e0]at Je
        obtain⟨k1,k2⟩:=hI.upd r (.arr sz (es++[])) (g.ρ r) (g.ln r) (g.tk r) (g.own r) g.S w none ⟨rfl,rfl,rfl,Al _⟩ (fun _ _ _=>rfl) (fun b e=>by cases e) (fun _ _ h=>h) (fun _ _ h=>.inl h) (fun b o e=>by cases e)
         (fun b _ e=>⟨(hI.loc r b hl e).1,.inl ⟨hl,e⟩⟩) (by simp) (fun _=>⟨rfl,Al _,fun _=>rfl,fun _=>rfl⟩) (fun hg HT=>by
          obtain⟨u1,u2,u3,u4⟩:=Bw g r (g.ρ r) (g.ln r) (g.tk r) (g.own r) g.S;rw[BV];exact Je.same HT (fun i hi=>DJ (by simp) i hi) hg u1 u2 u3 u4 (fun b _ _=>⟨rfl,fun _ h=>h⟩))
        refine⟨g.ρ r,w,_,_,_,?_,hk,k1,k2,?_⟩
        ·rw[hρ];exact IF hT w ht EC a a2 es.length cap c2 af
        ·have:=hs.le k2
         rw[←q2]at this;exact this
       ·by_cases JL:es.length+es2.length≤cap
        ·rcases a3 with ⟨rfl,e2,e3⟩ | ⟨b,KU,E,Fx,e1,e2,e3,e4,e5,e6,e7⟩
         ·rw[e2]at hρ;cases hρ;omega
         ·rw[e1]at hρ;simp only[Value.slice.injEq,true_and]at hρ;obtain⟨rfl,rfl⟩:=hρ;rcases m4 with h | ⟨ba,rfl,IL⟩
          ·omega
          ·obtain⟨i,z,i1,i2,i3,i4,i5⟩:=Hm hT EC;have PD:(es.length+es2.length)*sz≤KU*sz:=Bc _ JL;have lI:news.length=es2.length*sz:=by rw[QC];exact m1
           have Y5:i.size=sz:=i3.trans QC.symm;have CB:=PU (P:=P) t ty e i (hT.slice ht) i1 b es.length KU Fx e4 ba es2.length c2 news (by rw[Y5];exact lI) IL m2 JL (by rw[Y5,lI,←EN,e5];exact PD);rw[Y5]at CB;have GA:∀j u,olds[j]?=some u→w.cell? ⟨b,j,none⟩=some u:=by
            obtain⟨p1,p2,a',c',p3,p4⟩:=o1;rw[e1]at p3;cases p3;intro j u hj;rcases p4 with h | ⟨b',h,h'⟩
            ·rw[h,IC]at p1;rw[AN p1]at hj;simp at hj
            ·cases h
             have:=h' j u hj
             rwa [Addr.add_lit,Be]at this
           obtain⟨p1,p2,p3⟩:=ig e4 e5 e3 JL lI o1.1 GA;generalize hnewd:Fx.toList.take (es.length*sz)++news++Fx.toList.drop (es.length*sz+news.length)=new at CB p1 p2 p3;have ES:=setRow_heap w b Fx new.toArray E (0,0) e4;have bX:=(hI.loc r b hl e2).1
           obtain⟨k1,k2⟩:=hI.upd r (.arr sz (es++es2)) (.slice (some ⟨b,0,none⟩) (es.length+es2.length) KU) (es.length+es2.length) (g.tk r) (g.own r) g.S (w.setRow b new.toArray) (some b)
            ⟨rfl,rfl,rfl,by rw[size_setRow];exact Al _⟩ (fun k _ Dr=>setRow_other w b k _ (fun e=>Dr (by rw[e]))) (fun b' e=>by cases e;exact⟨hl,e2⟩) (fun _ _ h=>h) (fun _ _ h=>.inl h)
            (fun b' o e hs=>by cases e;exact absurd hs (e7 o)) (fun b' _ e=>by
             rw[e2]at e;cases e;exact⟨by rw[size_setRow];exact bX,.inl ⟨hl,e2⟩⟩) (by simp) (fun _=>⟨rfl,by omega,fun e=>(by rw[t1]at e;cases e),fun e=>by omega⟩) (fun hg HT=>by
             obtain⟨u1,u2,u3,u4⟩:=Bw g r (.slice (some ⟨b,0,none⟩) (es.length+es2.length) KU) (es.length+es2.length) (g.tk r) (g.own r) g.S;refine⟨u3.trans t1,by rw[u2,Ad],GM,.inr ⟨b,KU,E,_,by rw[u1,Ad],u4.trans e2,by rw[Ad];exact JL,ES,by rw[Fq];exact p1,?_,e7⟩⟩;rw[Ad,show new.toArray.toList=new from rfl,p2];exact WJ.mono HT (fun _ h=>h) (fun _ h=>h.elim))
           rw[e1];exact⟨_,_,_,_,_,CB,hk,k1,k2,.msl _ r _ _ _ (by unfold AP;rw[A8];simp) (by simp[Gh.upd,t1]) (by simp[Gh.upd]) (.inr ⟨_,rfl⟩) (fun _=>by simp[Gh.upd])⟩
        ·have fH:cap<es.length+es2.length:=by omega
         obtain⟨nc,rest,r1,r2,r3⟩:=HI hT w (ty:=ty) ht EC hz (by rw[←QC];exact o1) hρ ha ⟨m1,m2,a2,c2,rfl,m4⟩ rfl (by omega) fH q3 q4;have ES:=Hw w.drew (.cells (olds++news++rest).toArray e (0,0)) (b:=w.heap.size) rfl
         obtain⟨k1,k2⟩:=hI.upd r (.arr sz (es++es2)) (.slice (some ⟨w.heap.size,0,none⟩) (es.length+es2.length) nc) (es.length+es2.length) (g.tk r) (some w.heap.size) g.S
          (w.drew.alloc (.cells (olds++news++rest).toArray e (0,0))) none
          ⟨rfl,rfl,rfl,by rw[World.size_alloc];exact Nat.le_succ _⟩ (fun k J6 _=>by rw[heap_alloc_old _ _ (by exact J6)];rfl) (fun b' e=>by cases e) (fun _ _ h=>h) (fun _ _ h=>.inl h)
          (fun b' o e=>by cases e) (fun b' _ e=>by cases e;exact⟨by rw[World.size_alloc];exact LB _,.inr (Al _)⟩) (by simp) (fun _=>⟨rfl,by omega,fun e=>(by rw[t1]at e;cases e),fun e=>by omega⟩) (fun hg HT=>by
           obtain⟨u1,u2,u3,u4⟩:=Bw g r (.slice (some ⟨w.heap.size,0,none⟩) (es.length+es2.length) nc) (es.length+es2.length) (g.tk r) (some w.heap.size) g.S;refine⟨u3.trans t1,by rw[u2,Ad],GM,.inr ⟨w.heap.size,nc,e,_,by rw[u1,Ad],u4,by rw[Ad];exact r2,ES,by rw[Fq,QC];exact r3,?_,fun o ho=>by have:=hI.slt _ _ ho;omega⟩⟩;rw[Ad,show(olds++news++rest).toArray.toList=olds++news++rest from rfl,Hk (by rw[Ad,o1.1,m1,QC,EN])];exact WJ.mono HT (fun _ h=>h) (fun _ h=>h.elim))
         exact⟨_,_,_,_,_,r1,hk,k1,k2,.msl _ r _ _ _ (by unfold AP;rw[A8];simp) (by simp[Gh.upd,t1]) (by simp[Gh.upd]) (.inr ⟨_,rfl⟩) (fun _=>by simp[Gh.upd])⟩
      ·exact hk.elim
     ·exact hk.elim
    ·exact hk.elim
 ·exact hk.elim
end
section
variable {P:Program}{w0:World}{g0:Gh}{h0 h:Nat→HO}{g:Gh}{w:World}(hI:DA w0 g0 h0 h g w)
include hI
theorem NO{d sz n:Nat}{es:List (List AV)}{a:Option Addr}(hd:h d=.free)(hl:∀c∈es,c.length=sz)(hn:es.length=n)(hr:BD g w Fg (.slice .none es) (.slice a n n)) :
  ∃g',DA w0 g0 h0 (AR h d (.tok sz n)) g' w∧Le h g w (AR h d (.tok sz n)) g' w∧BD g' w (AP (AR h d (.tok sz n))) (.slice (.id d sz) es) (.slice a n n):=by
 obtain⟨k1,k2⟩:=hI.upd d (.tok sz n) (.slice a n n) n true none g.S w none ⟨rfl,rfl,rfl,Al _⟩ (fun _ _ _=>rfl) (fun b e=>by cases e) (fun _ _ h=>h) (fun _ _ h=>.inl h) (fun b o e=>by cases e) (fun b _ e=>by cases e) (by simp)
  (fun hu=>absurd hd hu) (fun _ _=>by
   obtain⟨u1,u2,u3,u4⟩:=Bw g d (.slice a n n) n true none g.S;exact⟨u3,u2,a,n,u1,.inl ⟨rfl,u4⟩⟩)
 exact⟨_,k1,k2,.tok _ d sz es _ (((hr.up (AP h)).le k2)) hl (by unfold AP;rw[A8];simp) (by simp[Gh.upd]) (by simp[Gh.upd,hn]) (fun _=>by simp[Gh.upd])⟩
theorem YI{cx:Cx}{d:Option Nat}{x:AV}{vx:Value}{K:HK}(hx:BD g w (AP h) x vx)(hk:Ob cx d h x K):∃g' av h',K av h'∧DA w0 g0 h0 h' g' w∧Le h g w h' g' w∧BD g' w (AP h') av vx:=by
 have plain:K x h→∃g' av h',K av h'∧DA w0 g0 h0 h' g' w∧Le h g w h' g' w∧BD g' w (AP h') av vx:=fun hk=>⟨g,x,h,hk,hI,.refl _ _ _,hx⟩;unfold Ob at hk;split at hk
 ·exact plain hk
 ·rename_i d;split at hk
  ·rename_i sz _;split at hk
   ·refine⟨g,yJ x,h,hk,hI,.refl _ _ _,?_⟩;cases x with
    |slice tk es=>exact(BD.slice_none hx).up _
    |_=>exact hx
   ·split at hk
    ·split at hk
     ·rename_i hd;obtain rfl:=hx.v_eq;obtain⟨g',k1,k2,k3⟩:=NO hI (sz:=sz) (es:=[]) (a:=none) hd (by simp) rfl (.snil _ _ _);exact⟨g',_,_,hk,k1,k2,k3⟩
     ·exact hk.elim
    ·exact plain hk
  ·split at hk
   ·rename_i sz _;split at hk
    ·split at hk
     ·rename_i hd;obtain rfl:=hx.v_eq
      obtain⟨k1,k2⟩:=hI.upd d (.arr sz []) (.slice none 0 0) 0 true none g.S w none ⟨rfl,rfl,rfl,Al _⟩ (fun _ _ _=>rfl) (fun b e=>by cases e) (fun _ _ h=>h) (fun _ _ h=>.inl h) (fun b o e=>by cases e) (fun b _ e=>by cases e) (by simp)
       (fun hu=>absurd hd hu) (fun _ _=>by
        obtain⟨u1,u2,u3,u4⟩:=Bw g d (.slice none 0 0) 0 true none g.S;exact⟨u3,u2,by simp,.inl ⟨rfl,u1,u4⟩⟩)
      exact⟨_,_,_,hk,k1,k2,.msl _ d 0 none 0 (by unfold AP;rw[A8];simp) (by simp[Gh.upd]) (AL _) (.inl rfl) (fun _=>by simp[Gh.upd])⟩
     ·exact hk.elim
    ·exact plain hk
   ·exact plain hk
theorem XT{T:Gr}{mku:List Nat}{d:Option Nat}{ty:Nat}{K:HK}(hk:KA T mku d h ty K):N1 P w0 g0 h0 h g w (Instr.makeMap ty none) K:=by
 unfold KA at hk;split at hk
 ·exact hk.elim
 ·rename_i d;split at hk
  ·rename_i hd;split at hk
   ·split at hk
    ·rename_i sh _;split at hk
     ·obtain⟨k1,k2⟩:=hI.newOwn hd (.mapU sh []) (.map #[] 0) (.map (some w.heap.size)) 0 false w ⟨rfl,rfl,rfl,rfl⟩ (by simp) (fun hg HT=>by
       obtain⟨u1,u2,u3,u4⟩:=Bw g d (.map (some w.heap.size)) 0 false (some w.heap.size) g.S;exact⟨u3,w.heap.size,#[],0,u4,u1,Hw w _ rfl,⟨rfl,by simp,by simp,by simp,by simp,by simp⟩,by simp,fun o ho=>by have:=hI.slt _ _ ho;omega⟩)
      refine⟨_,_,_,_,_,?_,hk,k1,k2,.mref _ d w.heap.size (by unfold AP;rw[A8];simp) ?_ ?_⟩
      ·simp[Instr.makeMap]
      ·simp[Gh.upd]
      ·simp[Gh.upd]
     ·obtain⟨k1,k2⟩:=hI.newOwn hd (.map sh []) (.map #[] 0) (.map (some w.heap.size)) 0 false w ⟨rfl,rfl,rfl,rfl⟩ (by simp) (fun hg HT=>by
       obtain⟨u1,u2,u3,u4⟩:=Bw g d (.map (some w.heap.size)) 0 false (some w.heap.size) g.S;exact⟨u3,w.heap.size,#[],0,u4,u1,Hw w _ rfl,⟨rfl,by simp,by simp,by simp,by simp,by simp⟩,by simp,fun o ho=>by have:=hI.slt _ _ ho;omega⟩)
      refine⟨_,_,_,_,_,?_,hk,k1,k2,.mref _ d w.heap.size (by unfold AP;rw[A8];simp) ?_ ?_⟩
      ·simp[Instr.makeMap]
      ·simp[Gh.upd]
      ·simp[Gh.upd]
    ·exact hk.elim
   ·exact hk.elim
  ·exact hk.elim
omit hI in
theorem BD.sub{es:List (List AV)}{sz l m:Nat}{x:Value}{a:Option Addr}{n cap:Nat}(hr:BD g w Fg (.slice .none es) x)(hx:x=.slice a n cap)(hl:∀c∈es,c.length=sz)(h1:l≤m)(h2:m≤es.length)(c' : Nat)(hc:m-l≤c')(a' : Option Addr)
  (ha:a'=a.map (·.add (l*sz))∨(m=l∧a'=a)):BD g w Fg (.slice .none ((es.take m).drop l)) (.slice a' (m-l) c'):=by
 subst hx;have Cn:((es.take m).drop l).length=m-l:=by rw[Dk,AD];omega
 by_cases h0:m-l=0
 ·have:(es.take m).drop l=[]:=AN (by omega)
  rw[this,h0];exact .snil _ _ _
 ·cases hr with
  |snil=>simp at h2;omega
  |slice _ _ b off Gp cap val oW OH Du Eg =>
   have hz:Gp=sz:=by
    have:(0:Nat)<es.length:=by omega
    have h3:=OH 0 es[0] (At this);rw[←h3];exact hl _ (AC this)
   subst hz;have zC : a'=some ⟨b,off+l*Gp,none⟩:=by
    rcases ha with h | ⟨h,_⟩
    ·rw[h];simp[Addr.add_lit]
    ·omega
   subst zC;rw[←Cn];have Fc:∀(i:Nat) (cs:List AV),((es.take m).drop l)[i]?=some cs→es[l+i]?=some cs:=fun i cs h=>by
    rw[Dp]at h
    by_cases hi:l+i<m
    ·rwa [BE hi]at h
    ·rw[A2 (by rw[AD];omega)]at h;cases h
   refine .slice _ _ b (off+l*Gp) Gp c' (fun i j=>val (l+i) j) (by rw[Cn];exact hc) (fun i cs h=>OH _ _ (Fc i cs h)) (fun i cs j av h1 h2=>?_) (fun i cs j av h1 h2=>Eg _ _ _ _ (Fc i cs h1) h2)
   have:=Du _ _ _ _ (Fc i cs h1) h2
   rwa [show off+(l+i)*Gp+j=off+l*Gp+i*Gp+j by rw[EN];omega]at this
omit hI in
theorem KF{t:Nat→AV}{ρ:Operand→Value}(ht:∀x:Operand,BD g w (AP h) (ev t x) (ρ x)){o:Option Operand}{i:Option Int}(hk:B3 t o=some i):o.map ρ=i.map fun n=>.int .i64 n:=by
 cases o with
 |none=>cases hk;rfl
 |some x =>
  unfold B3 at hk;dsimp only at hk;split at hk
  ·rename_i n e;cases hk
   have:=ht x
   rw[e]at this;simp[this.v_eq]
  ·cases hk
omit hI in
theorem TB(b:Bool)(len cap:Nat)(lo hi mx:Option Int)(jT:mx=none∨hi≠none)(h0:0≤lo.getD 0)(h1:lo.getD 0≤hi.getD len)(h2:hi.getD len≤mx.getD cap)(h3:mx.getD cap≤cap) :
  (Instr.sliceBounds b len cap (lo.map fun n=>.int .i64 n) (hi.map fun n=>.int .i64 n) (mx.map fun n=>.int .i64 n)).run P w=.ok ((lo.getD 0).toNat,(hi.getD len).toNat,(mx.getD cap).toNat) w:=by
 have e1:∀n:Int,0≤n→(n.toNat:Int)=n:=fun n hn=>Int.toNat_of_nonneg hn;cases mx with
 |none =>
  cases hi with
  |none =>
   cases lo with
   |none=>simp[Instr.sliceBounds]
   |some l =>
    simp only[Ci,D1]at h0 h1 h2;simp[Instr.sliceBounds,run_sliceBound,h0,h1]
  |some hh =>
   simp only[Ci,D1]at h1 h2;have qx:0≤hh:=by omega
   cases lo with
   |none=>simp[Instr.sliceBounds,run_sliceBound,qx,h2]
   |some l =>
    simp only[Ci]at h0 h1;simp[Instr.sliceBounds,run_sliceBound,h0,h1,h2,qx,e1]
 |some m =>
  cases hi with
  |none=>simp at jT
  |some hh =>
   simp only[Ci]at h1 h2 h3;have qx:0≤hh:=by omega
   have sK:0≤m:=by omega
   cases lo with
   |none=>simp[Instr.sliceBounds,run_sliceBound,h2,h3,qx,sK,e1]
   |some l =>
    simp only[Ci]at h0 h1;simp[Instr.sliceBounds,run_sliceBound,h0,h1,h2,h3,qx,sK,e1]
omit hI in
theorem EJ{T:Gr}(hT:Ck P T){ty e k:Nat}(ht:(T ty).d=.slice e)(hk:(T e).size=k+1)(a:Option Addr)(len cap:Nat)(lo hi mx:Option Int)(jT:mx=none∨hi≠none)(h0:0≤lo.getD 0)(h1:lo.getD 0≤hi.getD len)(h2:hi.getD len≤mx.getD cap)(h3:mx.getD cap≤cap) :
  (Instr.sliceAt ty (.slice a len cap) (lo.map fun n=>.int .i64 n) (hi.map fun n=>.int .i64 n) (mx.map fun n=>.int .i64 n)).run P w =
   .ok (.slice (if(mx.getD cap).toNat=(lo.getD 0).toNat then a else a.map (·.add ((lo.getD 0).toNat*(T e).size))) ((hi.getD len).toNat-(lo.getD 0).toNat) ((mx.getD cap).toNat-(lo.getD 0).toNat)) w:=by
 have hu:=hT.slice ht;have hb:=TB (P:=P) (w:=w) true len cap lo hi mx jT h0 h1 h2 h3;simp only[Instr.sliceAt,Sem.run_bind,run_underlying hu,Result.andThen_ok,Instr.slice,hb,hT.size1 w hk,Sem.run_pure];rw[hk]
theorem DA.moveO(r r2:Nat)(Dr:r2≠r)(hf:h r2=.free)(hl:(h r).live){ob:Option Nat}(ho:∀c,ob=some c→g.own r=some c)(o' : HO)(x:Value)(n:Nat)(t:Bool)(hn:o'≠.free)
  (Je:EE g w (g.upd r2 x n t ob g.S) w→D8 (g.upd r2 x n t ob g.S) w (AP (AR (AR h r .dead) r2 o')) r2 o') :
  DA w0 g0 h0 (AR (AR h r .dead) r2 o') (g.upd r2 x n t ob g.S) w∧Le h g w (AR (AR h r .dead) r2 o') (g.upd r2 x n t ob g.S) w:=by
 have dG:JY g (g.upd r2 x n t ob g.S) (AP h):=by
  intro i hi;have e:i≠r2:=fun e=>hi (by rw[e];exact hf);refine⟨by simp[Gh.upd,e],by simp[Gh.upd,e],fun _=>by simp[Gh.upd,e],fun _=>by simp[Gh.upd,e]⟩
 have hK:EE g w (g.upd r2 x n t ob g.S) w:=fun b o hb=>⟨hb,rfl,fun _ _ h=>h⟩;have Kf:∀i,AP h i→AP (AR (AR h r .dead) r2 o') i:=fun i hi=>DJ hn i (DJ (by simp) i hi);have key:∀i,i≠r2→(AR (AR h r .dead) r2 o' i).live→i≠r∧(h i).live:=fun i h2 hl=>by
  rw[BT _ _ _ _ h2]at hl
  by_cases e:i=r
  ·subst e;rw[A8]at hl;exact hl.elim
  ·rw[BT _ _ _ _ e]at hl;exact⟨e,hl⟩
 have own:∀i,i≠r2→(g.upd r2 x n t ob g.S).own i=g.own i:=fun i e=>by simp[Gh.upd,e]
 have Tp:(g.upd r2 x n t ob g.S).own r2=ob:=by simp[Gh.upd]
 refine⟨⟨hI.os,hI.tape,hI.output,hI.size,hI.frame,hI.slt,fun i=>?_,fun i j c hi hj ei ej=>?_,fun i c hi ei=>?_,hI.sg,hI.glob.keep hK⟩,dG,Kf,hK⟩
 ·by_cases e:i=r2
  ·subst e;rw[A8];exact Je hK
  ·rw[BT _ _ _ _ e]
   by_cases e1:i=r
   ·subst e1;rw[A8];trivial
   ·rw[BT _ _ _ _ e1];exact(hI.objs i).same hK Kf dG (by simp[Gh.upd,e]) (by simp[Gh.upd,e]) (by simp[Gh.upd,e]) (by simp[Gh.upd,e]) (fun b hl hb=>⟨rfl,fun k hk=>hk⟩)
 ·by_cases e1:i=r2<;>by_cases e2:j=r2
  ·exact e1.trans e2.symm
  ·subst e1;rw[Tp]at ei;rw[own j e2]at ej;obtain⟨a1,a2⟩:=key j e2 hj;exact absurd (hI.inj j r _ a2 hl ej (ho _ ei)) a1
  ·subst e2;rw[Tp]at ej;rw[own i e1]at ei;obtain⟨a1,a2⟩:=key i e1 hi;exact absurd (hI.inj i r _ a2 hl ei (ho _ ej)) a1
  ·rw[own i e1]at ei;rw[own j e2]at ej;exact hI.inj i j c (key i e1 hi).2 (key j e2 hj).2 ei ej
 ·by_cases e1:i=r2
  ·subst e1;rw[Tp]at ei;exact hI.loc r _ hl (ho _ ei)
  ·rw[own i e1]at ei;exact hI.loc i c (key i e1 hi).2 ei
theorem Yl{cx:Cx}(hT:Ck P cx.T){d:Option Nat}{ty:Nat}{x:AV}{vx:Value}{t:Nat→AV}{ρ:Operand→Value}(ht:∀x:Operand,BD g w (AP h) (ev t x) (ρ x)){lo hi mx:Option Operand}{K:HK}(hx:BD g w (AP h) x vx)
  (hk:Ty cx d h ty x (B3 t lo) hi mx K):N1 P w0 g0 h0 h g w (Instr.sliceAt ty vx (lo.map ρ) (hi.map ρ) (mx.map ρ)) K:=by
 unfold Ty at hk;split at hk
 ·rename_i d Hy e1;rw[KF ht e1];split at hk
  ·rename_i e hs;split at hk
   ·exact hk.elim
   ·rename_i k EC;split at hk
    ·rename_i r sz es;split at hk
     ·rename_i Gp n e0;split at hk
      ·rename_i hd;split at hk
       ·rename_i q1 q2;obtain rfl:=AI q1;have q2:=AI q2;obtain⟨⟨rfl,h1,h2⟩,hk⟩:=hk;have hl:(h r).live:=by rw[e0];trivial
        have Dr:Ks cx d≠r:=fun e=>by rw[e,e0]at hd;cases hd
        have ho:=hI.objs r;rw[e0]at ho;obtain⟨t1,l1,a,cap,a1,a3⟩:=ho;have hr:=hx.slice_none;cases hx with
        |tok _ _ _ _ _ o9 WI hu ht' hn JM =>
         have hv:=JM l1.symm;rw[a1]at hv;subst hv;have af:es.length≤cap:=by rcases a3 with ⟨e1,_⟩ | ⟨e1,_⟩<;>omega
         have CB:=EJ (P:=P) (w:=w) hT hs EC a es.length cap (some Hy) none none (.inl rfl) h1 h2 (by simp only[D1];omega) (by simp);simp only[Ci,D1,Ch]at CB;have Cn:(es.drop Hy.toNat).length=es.length-Hy.toNat:=Dk;have fP:=BD.sub (c':=cap-Hy.toNat) hr rfl WI (l:=Hy.toNat) (m:=es.length) (by omega) (Al _) (by omega) (if cap=Hy.toNat then a else a.map (·.add (Hy.toNat*(cx.T e).size))) (by
          split
          ·exact .inr ⟨by omega,rfl⟩
          ·rw[q2];exact .inl rfl)
         rw[DZ]at fP
         have fin:∀ob:Option Nat,(∀c,ob=some c→g.own r=some c)→(es.length-Hy.toNat=cap-Hy.toNat∧ob=none∨es.length-Hy.toNat≤cap-Hy.toNat∧∃b E vs off,(if cap=Hy.toNat then a else a.map (·.add (Hy.toNat*(cx.T e).size)))=some ⟨b,off,none⟩∧ob=some b∧w.heap[b]?=some (.cells vs E (0,0))∧vs.size=off+(cap-Hy.toNat)*Gp∧∀o,g.S b o→o<off+(es.length-Hy.toNat)*Gp) →
           N1 P w0 g0 h0 h g w (Instr.sliceAt ty (.slice a es.length cap) ((some Hy).map fun n=>.int .i64 n) ((none:Option Operand).map ρ) ((none:Option Operand).map ρ)) K:=fun ob ho qL=>by
          obtain⟨k1,k2⟩:=hI.moveO r (Ks cx d) Dr hd hl ho (.tok Gp (es.drop Hy.toNat).length) (.slice (if cap=Hy.toNat then a else a.map (·.add (Hy.toNat*(cx.T e).size))) (es.length-Hy.toNat) (cap-Hy.toNat)) (es.length-Hy.toNat) true (by simp) (fun HT=>by
           obtain⟨u1,u2,u3,u4⟩:=Bw g (Ks cx d) (.slice (if cap=Hy.toNat then a else a.map (·.add (Hy.toNat*(cx.T e).size))) (es.length-Hy.toNat) (cap-Hy.toNat)) (es.length-Hy.toNat) true ob g.S;refine⟨u3,u2.trans Cn.symm,_,_,by rw[Cn];exact u1,?_⟩;rw[Cn,u4];exact qL)
          exact⟨_,w,_,_,_,CB,hk,k1,k2,.tok _ _ _ _ _ (((fP.mono k2.keeps (fun _ h=>h) (fun _ h=>h.elim))).up _) (fun c hc=>WI c (Ih hc)) (by unfold AP;rw[A8];simp) (by simp[Gh.upd]) (by simp[Gh.upd]) (fun _=>by simp[Gh.upd])⟩
         rcases a3 with ⟨e1,e2⟩ | ⟨e1,b,E,vs,off,rfl,e3,e4,e5,e6⟩
         ·exact fin none (fun c h=>by cases h) (.inl ⟨by omega,rfl⟩)
         ·by_cases hc:cap=Hy.toNat
          ·exact fin none (fun c h=>by cases h) (.inl ⟨by omega,rfl⟩)
          ·refine fin (some b) (fun c h=>by cases h;exact e3) (.inr ⟨by omega,b,E,vs,off+Hy.toNat*Gp,?_,rfl,e4,?_,fun o ho=>?_⟩)
           ·rw[Ah hc];simp[Addr.add_lit,q2]
           ·rw[e5,Nat.sub_mul]
            have:=Bc Gp (show Hy.toNat≤cap by omega)
            omega
           ·have:=e6 o ho
            rw[Nat.sub_mul]
            have:=Bc Gp (show Hy.toNat≤es.length by omega)
            omega
       ·exact hk.elim
      ·exact hk.elim
     ·exact hk.elim
    ·exact hk.elim
  ·exact hk.elim
 ·exact hk.elim
omit hI in
theorem Nx{sz:Nat}:∀{es:List (List AV)},(∀cs∈es,cs.length=sz)→∀k,(es.take k).flatten=es.flatten.take (k*sz)
 | [],_,k=>by simp
 |c::es,hl,0=>by simp
 |c::es,hl,k+1=>by
  have h1:=hl c (Ab ..);have h2:c.length≤k*sz+sz:=by omega
  rw[IQ,Bm,Bm,Nx (fun x hx=>hl x (Ag _ hx)) k,List.take_append,h1,D0,
   AG h2,show k*sz+sz-sz=k*sz by omega]
omit hI in
theorem Ct.takeE{U:Nat→Prop}{sz k:Nat}{es:List (List AV)}{vs:List Value}(hl:∀cs∈es,cs.length=sz)(hk:k≤es.length)(h:Ct g w U es.flatten (vs.take (es.length*sz))):Ct g w U (es.take k).flatten (vs.take (k*sz)):=by
 have e:vs.take (k*sz)=(vs.take (es.length*sz)).take (k*sz):=by
  rw[List.take_take,Nat.min_eq_left (Bc _ hk)]
 rw[Nx hl,e];refine⟨by rw[AD (l:=vs.take (es.length*sz)),h.1,AD],fun x hx=>h.2.1 x (Eo hx),fun i av x q1 q2=>?_⟩;have hi:i<k*sz:=by
  rcases EF i (k*sz)with q | q
  ·exact q
  ·rw[Jv,Ah (by omega)]at q1;cases q1
 rw[Jv,Ao hi]at q1 q2;exact h.2.2 i av x q1 q2
theorem aL{cx:Cx}(hT:Ck P cx.T){d:Option Nat}{ty:Nat}{x:AV}{vx:Value}{t:Nat→AV}{ρ:Operand→Value}(ht:∀x:Operand,BD g w (AP h) (ev t x) (ρ x)){hi:Option Operand}{K:HK}(hx:BD g w (AP h) x vx)
  (hk:gY cx d h ty x (B3 t hi) K):N1 P w0 g0 h0 h g w (Instr.sliceAt ty vx none (hi.map ρ) none) K:=by
 unfold gY at hk;split at hk
 ·rename_i d LJ e1;rw[KF ht e1];split at hk
  ·rename_i e hs;split at hk
   ·exact hk.elim
   ·rename_i k EC;split at hk
    ·rename_i r n;split at hk
     ·rename_i sz es e0;split at hk
      ·rename_i hd;split at hk
       ·rename_i q1 q3;have q1:=AI q1;obtain⟨⟨rfl,h1,h2⟩,hk⟩:=hk;have hl:(h r).live:=by rw[e0];trivial
        have Dr:Ks cx d≠r:=fun e=>by rw[e,e0]at hd;cases hd
        have ho:=hI.objs r;rw[e0]at ho;obtain⟨t1,l1,al,a2⟩:=ho;have Cn:(es.take LJ.toNat).length=LJ.toNat:=by rw[AD];omega
        cases hx with
        |msl _ _ _ a cap hu ht' XF ha JM =>
         have hv:=JM l1.symm;have OF:es.length≤cap:=by
          rcases a2 with ⟨b1,_,_⟩ | ⟨b,KU,E,vs,b1,_,b3,_⟩
          ·subst b1;exact AL _
          ·rw[b1]at hv;cases hv;exact b3
         have CB:=EJ (P:=P) (w:=w) hT hs EC a es.length cap none (some LJ) none (.inl rfl) (by simp) (by simp only[D1,Ci];exact h1) (by simp only[Ci,D1];omega) (by simp);have Lv:(if cap-(0:Nat)=0 then a else a.map (·.add (0*(cx.T e).size)))=a:=by
          rw[IC];split
          ·rfl
          ·rcases ha with e3 | ⟨b,rfl⟩
           ·cases a with
            |none=>rfl
            |some a=>simp[Addr.add]
           ·rfl
         simp only[Ci,D1,Ch,Int.toNat_zero,Nat.sub_zero]at CB Lv;have key:∃a',(Instr.sliceAt ty (.slice a es.length cap) ((none:Option Int).map fun n=>.int .i64 n) ((some LJ).map fun n=>.int .i64 n) ((none:Option Int).map fun n=>.int .i64 n)).run P w=.ok (.slice a' LJ.toNat cap) w∧(a'=a):=⟨_,CB,by first | exact Lv | (split<;>first | rfl | exact Lv | (simp_all))⟩
         obtain⟨a',CB,rfl⟩:=key;have JC:BD (g.upd (Ks cx d) (.slice a' LJ.toNat cap) LJ.toNat true (g.own r) g.S) w (AP (AR (AR h r .dead) (Ks cx d) (.arr sz (es.take LJ.toNat)))) (.msl (Ks cx d) LJ.toNat) (.slice a' LJ.toNat cap) :=
          .msl _ _ _ _ _ (by unfold AP;rw[A8];simp) (by simp[Gh.upd]) (by simp[Gh.upd]) (ha.elim (fun e=>.inl (by omega)) .inr) (fun _=>by simp[Gh.upd])
         obtain⟨k1,k2⟩:=hI.moveO r (Ks cx d) Dr hd hl (ob:=g.own r) (fun c h=>h) (.arr sz (es.take LJ.toNat)) (.slice a' LJ.toNat cap) LJ.toNat true (by simp) (fun HT=>by
          obtain⟨u1,u2,u3,u4⟩:=Bw g (Ks cx d) (.slice a' LJ.toNat cap) LJ.toNat true (g.own r) g.S;refine⟨u3,u2.trans Cn.symm,fun c hc=>al c (Eo hc),?_⟩;rcases a2 with ⟨b1,b2,b3⟩ | ⟨b,KU,E,vs,b1,b2,b3,b4,b5,b6,b7⟩
          ·subst b1;rw[b2]at hv;cases hv;have h0:LJ.toNat=0:=by simp only[AE]at h2;omega
           exact .inl ⟨List.take_nil,by rw[u1,h0],u4.trans b3⟩
          ·rw[b1]at hv;cases hv;refine .inr ⟨b,cap,E,vs,by rw[Cn];exact u1,u4.trans b2,by rw[Cn];omega,b4,b5,?_,b7⟩;rw[Cn];exact(Ct.takeE al (by omega) b6).mono HT (fun _ h=>h) (fun _ h=>h.elim))
         exact⟨_,w,_,_,_,CB,hk,k1,k2,JC⟩
       ·exact hk.elim
      ·exact hk.elim
     ·exact hk.elim
    ·exact hk.elim
  ·exact hk.elim
 ·exact hk.elim
theorem Vh{cx:Cx}(hT:Ck P cx.T){d:Option Nat}{ty:Nat}{x:AV}{vx:Value}{t:Nat→AV}{ρ:Operand→Value}(ht:∀x:Operand,BD g w (AP h) (ev t x) (ρ x)){lo hi mx:Option Operand}{K:HK}(hx:BD g w (AP h) x vx)
  (hk:Gm cx d h ty x (B3 t lo) (B3 t hi) (B3 t mx) K):N1 P w0 g0 h0 h g w (Instr.sliceAt ty vx (lo.map ρ) (hi.map ρ) (mx.map ρ)) K:=by
 unfold Gm at hk;split at hk
 ·rename_i Hy LJ lW e1 e2 e3;rw[KF ht e1,KF ht e2,KF ht e3];split at hk
  ·rename_i hs;split at hk
   ·rename_i s;obtain⟨⟨h1,h2,h3⟩,hk⟩:=hk;obtain rfl:=hx.v_eq;have hb:=TB (P:=P) (w:=w) false s.size s.size Hy LJ none (.inl rfl) h1 h2 (by simpa using h3) (by simp);refine(BG.val (x:=.string (s.extract (Hy.getD 0).toNat (LJ.getD s.size).toNat)) ?_ hk).does hI;simp only[Instr.sliceAt,Sem.run_bind,run_underlying (hT.string hs),Result.andThen_ok,Instr.slice];simp only[Option.map_none,Option.isSome_none,CJ,FX]at hb⊢;simp only[Sem.run_bind,hb,Result.andThen_ok,Sem.run_pure]
   ·exact hk.elim
  ·rename_i e hs;split at hk
   ·exact hk.elim
   ·rename_i k EC;split at hk
    ·rename_i tk es;have hr:=hx.slice_none;obtain⟨a,cap,hv,OF⟩:∃a cap,vx=.slice a es.length cap∧es.length≤cap:=by
      cases hr with
      |snil _ a cap=>exact⟨a,cap,rfl,AL _⟩
      |slice _ _ b off sz cap val hc=>exact⟨_,cap,rfl,hc⟩
     subst hv;split at hk
     ·obtain⟨⟨h1,h2,h3⟩,hl,hk⟩:=hk;have CB:=EJ (P:=P) (w:=w) hT hs EC a es.length cap Hy LJ none (.inl rfl) h1 h2 (by simp only[D1];omega) (by simp);refine BG.does hI ⟨_,_,CB,hk,(BD.sub (c':=cap-(Hy.getD 0).toNat) hr rfl hl (l:=(Hy.getD 0).toNat) (m:=(LJ.getD es.length).toNat) (by omega) (by omega) (by simp;omega) _ ?_).up _⟩;split
      ·rename_i e;simp only[D1,Ch]at e;exact .inr ⟨by omega,rfl⟩
      ·exact .inl rfl
     ·rename_i m;split at hk
      ·rename_i d hh;split at hk
       ·obtain⟨⟨h1,h2,rfl,h3⟩,hl,hk⟩:=hk;have CB:=EJ (P:=P) (w:=w) hT hs EC a es.length cap Hy (some m) (some m) (.inr (by simp)) h1 h2 (by simp) (by simp only[Ci];omega);simp only[Ci]at CB;have Cn:((es.take m.toNat).drop (Hy.getD 0).toNat).length=m.toNat-(Hy.getD 0).toNat:=by rw[Dk,AD];omega
        refine BG.does hI ⟨_,_,CB,hk,.full _ _ _ _ ((BD.sub (c':=m.toNat-(Hy.getD 0).toNat) hr rfl hl (l:=(Hy.getD 0).toNat) (m:=m.toNat) (by omega) (by omega) (by omega) _ ?_).up _) (fun c hc=>hl c (Eo (Ih hc))) ⟨_,by rw[Cn]⟩⟩;split
        ·rename_i e;exact .inr ⟨e,rfl⟩
        ·exact .inl rfl
       split at hk
       ·rename_i hd;obtain⟨⟨h1,h2,rfl,h3⟩,hl,hk⟩:=hk;have CB:=EJ (P:=P) (w:=w) hT hs EC a es.length cap Hy (some m) (some m) (.inr (by simp)) h1 h2 (by simp) (by simp only[Ci];omega);simp only[Ci]at CB
        obtain⟨g',k1,k2,k3⟩:=NO hI (sz:=(cx.T e).size) (n:=m.toNat-(Hy.getD 0).toNat) hd (es:=(es.take m.toNat).drop (Hy.getD 0).toNat) (fun c hc=>hl c (Eo (Ih hc))) (by rw[Dk,AD];omega)
         (BD.sub (c':=m.toNat-(Hy.getD 0).toNat) hr rfl hl (l:=(Hy.getD 0).toNat) (m:=m.toNat) (by omega) (by omega) (by omega) (if m.toNat=(Hy.getD 0).toNat then a else a.map (·.add ((Hy.getD 0).toNat*(cx.T e).size))) (by
          split
          ·rename_i e;exact .inr ⟨e,rfl⟩
          ·exact .inl rfl))
        exact⟨_,w,g',_,_,CB,hk,k1,k2,k3⟩
       ·exact hk.elim
      ·exact hk.elim
    ·obtain⟨⟨h1,h2,h3⟩,h4,hk⟩:=hk;obtain rfl:=hx.v_eq;have CB:=EJ (P:=P) (w:=w) hT hs EC none 0 0 Hy LJ lW h4 (by omega) (by simp only[Iy]at *;omega) (by simp only[Iy]at *;omega) (by simp only[Iy]at *;omega);refine BG.does hI (BG.val (x:=.slice none 0 0) ?_ hk);rw[CB];simp only[h1,Iy,h2,h3];simp
    ·rename_i r n;split at hk
     ·rename_i sz es e0;split at hk
      ·rename_i QC;obtain rfl:=AI QC;obtain⟨⟨h1,h2,h3,h4,h5⟩,hk⟩:=hk;have ho:=hI.objs r;rw[e0]at ho;obtain⟨t1,l1,al,a3⟩:=ho;have hl:(h r).live:=by rw[e0];trivial
       have qJ:lW=none∨LJ≠none:=h5.imp id (fun q=>q.2);cases hx with
       |msl _ _ _ a cap hu ht' hn ha JM =>
        have hv:=JM (h1.trans l1.symm);subst h1;have jT:∀c:Nat,es.length≤c→LJ.getD es.length≤lW.getD c∧lW.getD c≤c:=fun c hc=>by
         rcases h5 with h5 | ⟨h5,Dr⟩
         ·rw[h5];simp only[D1];omega
         ·obtain⟨m,hm⟩:=Option.ne_none_iff_exists'.1 Dr;rw[h5,hm];rw[hm]at h3 h4;simp only[Ci]at h3 h4⊢;omega
        rcases a3 with ⟨rfl,q2,q3⟩ | ⟨b,KU,E,vs,q1,q2,q3,q4,q5,q6,q7⟩
        ·rw[q2]at hv;cases hv;have CB:=EJ (P:=P) (w:=w) hT hs EC none 0 0 Hy LJ lW qJ h2 h3 (jT 0 (by simp)).1 (jT 0 (by simp)).2
         obtain⟨k1,k2⟩:=hI.upd r .dead (g.ρ r) (g.ln r) (g.tk r) (g.own r) g.S w none ⟨rfl,rfl,rfl,Al _⟩ (fun _ _ _=>rfl) (fun b e=>by cases e) (fun _ _ h=>h) (fun _ _ h=>.inl h) (fun b o e=>by cases e) (fun b hh _=>by cases hh) (by simp)
          (fun _=>⟨rfl,Al _,fun _=>rfl,fun _=>rfl⟩) (fun _ _=>trivial)
         refine⟨_,w,_,_,_,CB,hk,k1,k2,?_⟩;have z1:((Hy.getD 0).toNat)=0:=by simp only[AE,Iy]at h3 h4;omega
         have z2:((LJ.getD (([]:List (List AV)).length:Int)).toNat)=0:=by simp only[AE,Iy]at h3 h4⊢;omega
         simp only[List.take_nil,List.drop_nil];have z3:((LJ.getD ((0:Nat):Int)).toNat)=0:=z2;rw[z1,z3];exact .snil _ _ _
        ·rw[q1]at hv;cases hv;have CB:=EJ (P:=P) (w:=w) hT hs EC (some ⟨b,0,none⟩) es.length cap Hy LJ lW qJ h2 h3 (jT _ q3).1 (jT _ q3).2;have bX:=(hI.loc r b hl q2).1
         obtain⟨k1,k2⟩:=hI.upd r .dead (g.ρ r) (g.ln r) (g.tk r) (g.own r) (g.more b (es.length*(cx.T e).size)) w none ⟨rfl,rfl,rfl,Al _⟩ (fun _ _ _=>rfl) (fun b e=>by cases e) (fun _ _ h=>.inl h)
          (fun b' o hs=>hs.elim .inl (fun hs=>.inr ⟨by rw[hs.1];exact bX,.inr ⟨hl,by rw[hs.1];exact q2⟩⟩)) (fun b o e=>by cases e) (fun b hh _=>by cases hh) (by simp)
          (fun _=>⟨rfl,Al _,fun _=>rfl,fun _=>rfl⟩) (fun _ _=>trivial)
         have Eg:=BD.slice_row (g:=g.upd r (g.ρ r) (g.ln r) (g.tk r) (g.own r) (g.more b (es.length*(cx.T e).size))) (U:=Fg) q4 al q3 (q6.mono k2.keeps (fun _ h=>h) (fun _ h=>h.elim)) (fun o ho=>.inr ⟨rfl,ho⟩);have z6:=jT _ q3;refine⟨_,w,_,_,_,CB,hk,k1,k2,(BD.sub (c':=(lW.getD cap).toNat-(Hy.getD 0).toNat) Eg rfl al (l:=(Hy.getD 0).toNat) (m:=(LJ.getD es.length).toNat) (by omega) (by omega) (by omega) _ ?_).up _⟩;split
         ·rename_i e;exact .inr ⟨by omega,rfl⟩
         ·exact .inl rfl
      ·exact hk.elim
     ·exact hk.elim
    ·exact hk.elim
  ·exact hk.elim
 ·exact hk.elim
theorem Uh{cx:Cx}(hT:Ck P cx.T){d:Option Nat}{ty:Nat}{n c:AV}{vn vc:Value}{K:HK}(hn:BD g w (AP h) n vn)(hc:BD g w (AP h) c vc)(hk:Jj cx d h ty n c K) :
  N1 P w0 g0 h0 h g w (Instr.makeSlice ty vn vc) K:=by
 unfold Jj at hk;split at hk
 ·rename_i e n c hs;obtain rfl:=hn.v_eq;obtain rfl:=hc.v_eq;split at hk
  ·rename_i Rd;split at hk
   ·rename_i MU;have MU:=AI MU;split at hk
    ·exact hk.elim
    ·rename_i k EC;obtain⟨⟨h1,h2,h3,h4⟩,hk⟩:=hk;obtain⟨i,z,i1,i2,i3,i4,i5⟩:=Hm hT EC;have nN:(cx.T e).zc≠[]:=fun e0=>by rw[e0]at MU;rw[EC]at MU;cases MU
     have wn:IntKind.i64.wrap n=n:=MQ ⟨by omega,by omega⟩;have wc:IntKind.i64.wrap c=c:=MQ ⟨by omega,by omega⟩;have GM:∀l:List AV,(∀a∈l,one a=true)→GS l=true:=by
      intro l
      induction l with
      |nil=>intro _;rfl
      |cons a l ih=>intro h;simp[GS,h a (List.mem_cons_self ..),ih (fun b hb=>h b (List.mem_cons_of_mem _ hb))]
     have nI:((Array.range (c.toNat*(cx.T e).size)).map fun k=>z.cells[k % z.cells.size]!).toList=(List.replicate c.toNat (cx.T e).zc).flatten:=by
      rw[HG c.toNat _ nN,MU,i5];have e6:z.cells.size=(cx.T e).size:=by rw[←MU,i5];simp
      simp[e6,Array.getElem!_eq_getD]
     have hzs:(cx.T e).zc.length=(cx.T e).size:=MU;have sJ:∀c'∈List.replicate c.toNat (cx.T e).zc,c'.length=(cx.T e).size:=fun c' hc=>by rw[B9 hc];exact MU
     have uW : ∀c'∈List.replicate n.toNat ((cx.T e).zc.map AV.v),c'.length=(cx.T e).size:=fun c' hc=>by rw[B9 hc,A4];exact MU
     have uX:∀c'∈List.replicate n.toNat (cx.T e).zc,c'.length=(cx.T e).size:=fun c' hc=>by rw[B9 hc];exact MU
     obtain⟨g',av,h',q1,q2,q3,q4⟩:=JR hI hk (vs:=(Array.range (c.toNat*(cx.T e).size)).map fun k=>z.cells[k % z.cells.size]!) (cap:=c.toNat) e uW (by rw[DG];omega) (by simp) (by
      rw[nI,DG];have e1:(List.replicate n.toNat ((cx.T e).zc.map AV.v)).flatten=(List.replicate n.toNat (cx.T e).zc).flatten.map AV.v:=by
       rw[RI,List.map_replicate]
      have e2:(List.replicate c.toNat (cx.T e).zc).flatten.take (n.toNat*(cx.T e).size)=(List.replicate n.toNat (cx.T e).zc).flatten:=by
       obtain⟨m,hm⟩:∃m,c.toNat=n.toNat+m:=⟨c.toNat-n.toNat,by omega⟩;rw[hm,←List.replicate_append_replicate,Cv,Hk (by rw[CY uX,DG])]
      rw[e1,e2];refine Ct.vals (GM _ (fun a ha=>?_));obtain⟨x,hx,rfl⟩:=Aj.1 ha;obtain⟨l,hl,hx⟩:=DY.1 hx;rw[B9 hl]at hx;exact Mq Rd _ (Aj.2 ⟨x,hx,rfl⟩)) w ⟨rfl,rfl,rfl,rfl⟩
     rw[DG]at q4;refine⟨_,_,g',av,h',?_,q1,q2,q3,q4⟩;have uC:¬((cx.T e).bytes*c>2 ^ 48):=by rw[Int.mul_comm];omega
     have fD:((decide (c<0)||decide (((cx.T e).bytes:Int)*c>2 ^ 48))||decide (n<0)||decide (n>c))=false:=by
      simp only[Bool.or_eq_false_iff,JH];exact⟨⟨⟨by omega,uC⟩,by omega⟩,by omega⟩
     simp only[Instr.makeSlice,Sem.run_bind,run_underlying (hT.slice hs),Result.andThen_ok,asInt,asIntOf,Sem.run_pure,typeInfo,run_program,i1,i4,wn,wc,fD,CJ,FX,run_askRoom,hT.size1 w EC]
     by_cases hz:c.toNat*(k+1)=0
     ·have jN:c.toNat=0:=by
       rcases Nat.mul_eq_zero.1 hz with h | h
       ·exact h
       ·cases h
      rw[jN];simp only[IC,QE];simp only[show Array.range 0=#[]from rfl,Array.map_empty];simp[newRow]
     ·simp only[Ah hz,Sem.run_bind,zeroValue,typeInfo,run_program,i1,i2,Result.andThen_ok,Sem.run_pure];rw[EC];simp[newRow]
   ·exact hk.elim
  ·exact hk.elim
 ·exact hk.elim
end
end Go.Eng
