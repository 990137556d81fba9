/- Lemmas for the claims of this seat, without a condition: part 9 (EngR, EngS). -/
import Derived.Test.YtddfphmpfnmknaaGreatDoorA08
namespace Go.Eng
theorem Cs.app{g:Gh}{w:World}{U:Nat→Prop}{TF bs:List AV}{xs ys:List Value}(h:Cs g w U TF xs)(k:Cs g w U bs ys):Cs g w U (TF++bs) (xs++ys):=by
 refine⟨by simp[h.1,k.1],fun x hx=>(AW.1 hx).elim (h.2.1 x) (k.2.1 x),fun i av x h1 h2=>?_⟩
 by_cases hi:i<TF.length
 ·rw[AX hi]at h1;rw[AX (by rw[h.1];exact hi)]at h2;exact h.2.2 i av x h1 h2
 ·rw[AZ (by omega)]at h1;rw[AZ (by rw[h.1];omega),h.1]at h2;exact k.2.2 _ av x h1 h2
section
variable {P:Program}{w0:World}{g0:Gh}{h0 h:Nat→HO}{g:Gh}{w:World}(hI:DA w0 g0 h0 h g w)
include hI
omit hI in
theorem Pz(t ty e:TypeId)(i:TypeInfo)(ht:P.underlying t=some (.slice e))(hi:P.info? e=some i){E:TypeId}
  (g NC Y1:Nat) (Fs:Array Value) (hg:w.heap[g]?=some (.cells Fs E (0,0)))
  (a:Addr) (m c:Nat) (news:List Value) (hl:news.length=m*i.size) (IH:∀j u,news[j]?=some u→w.cell? (a.add j)=some u) (h1:∀u∈news,u.oneCell'=true)
  (JB:NC+m≤Y1) (Yw:NC*i.size+news.length≤Fs.size) :
  (Builtin.append_ #[t,t] ty #[.slice (some ⟨g,0,none⟩) NC Y1,.slice (some a) m c]).run P w =
   .ok (.slice (some ⟨g,0,none⟩) (NC+m) Y1) (w.setRow g (Fs.toList.take (NC*i.size)++news++Fs.toList.drop (NC*i.size+news.length)).toArray):=by
 have hf:=run_firstCells_some (P:=P) w i.size m a m c news hl IH;have Ja:=run_storeCells_at P g (NC*i.size) E news 0 Fs w hg (by simpa using Yw) h1;simp only[G8]at Ja;simp[Builtin.append_,run_underlying ht,sizeOf,typeInfo,hi,Builtin.lenOf,JB,hf,Addr.add_lit,Ja]
omit hI in
theorem Tb(t ty e:TypeId)(i:TypeInfo)(ht:P.underlying t=some (.slice e))(hi:P.info? e=some i){E:TypeId}
  (g off NC Y1:Nat) (Fs:Array Value) (hg:w.heap[g]?=some (.cells Fs E (0,0)))
  (a:Addr) (m c:Nat) (news:List Value) (hl:news.length=m*i.size) (IH:∀j u,news[j]?=some u→w.cell? (a.add j)=some u) (h1:∀u∈news,u.oneCell'=true)
  (JB:NC+m≤Y1) (Yw:off+NC*i.size+news.length≤Fs.size) :
  (Builtin.append_ #[t,t] ty #[.slice (some ⟨g,off,none⟩) NC Y1,.slice (some a) m c]).run P w =
   .ok (.slice (some ⟨g,off,none⟩) (NC+m) Y1) (w.setRow g (Fs.toList.take (off+NC*i.size)++news++Fs.toList.drop (off+NC*i.size+news.length)).toArray):=by
 have hf:=run_firstCells_some (P:=P) w i.size m a m c news hl IH;have Ja:=run_storeCells_at P g (off+NC*i.size) E news 0 Fs w hg (by simpa using Yw) h1;simp only[G8]at Ja;simp[Builtin.append_,run_underlying ht,sizeOf,typeInfo,hi,Builtin.lenOf,JB,hf,Addr.add_lit,Ja]
omit hI in
theorem j8{b off n m sz cap:Nat}{Fs:Array Value}{E:TypeId}{olds news:List Value}(hb:w.heap[b]?=some (.cells Fs E (0,0)))(W0:Fs.size=off+cap*sz)(hn:n≤cap)(hm:n+m≤cap)(hnl:news.length=m*sz)(hol:olds.length=n*sz)
  (Gr:∀j u,olds[j]?=some u→w.cell? ⟨b,off+j,none⟩=some u) :
  (Fs.toList.take (off+n*sz)++news++Fs.toList.drop (off+n*sz+news.length)).length=off+cap*sz ∧
  ((Fs.toList.take (off+n*sz)++news++Fs.toList.drop (off+n*sz+news.length)).drop off).take ((n+m)*sz)=olds++news ∧
  ∀o,o<off+n*sz→(Fs.toList.take (off+n*sz)++news++Fs.toList.drop (off+n*sz+news.length)).toArray[o]?=Fs[o]?:=by
 have hcl:Fs.toList.length=off+cap*sz:=by rw[BW];exact W0
 have Sn:(n+m)*sz≤cap*sz:=Bc _ hm;have eI:n*sz≤cap*sz:=Bc _ hn;rw[E3]at Sn;have Km:(Fs.toList.take (off+n*sz)).drop off=olds:=by
  apply CU;intro j
  by_cases hj:j<n*sz
  ·rw[Dr,BB (by omega)];have hx:olds[j]?=some olds[j]:=As (by omega)
   have:=Gr j _ hx
   rw[Fv hb]at this;rw[A1,this,hx]
  ·rw[A2 (by rw[Dm,AE];omega),A2 (by omega)]
 have mP:(Fs.toList.take (off+n*sz)).length=off+n*sz:=by rw[AE];omega
 refine⟨?_,?_,fun o ho=>?_⟩
 ·rw[Ad,Ad,mP,Dm,hcl,hnl];omega
 ·rw[BF,List.drop_append_of_le_length (by rw[mP];omega),Km,←BF,Hf (by rw[Ad,hol,hnl,E3])]
 ·rw[FQ,BF,AX (by rw[mP];exact ho),BB ho,A1]
omit hI in
theorem gx{b n m sz cap:Nat}{Fs:Array Value}{E:TypeId}{olds news:List Value}(hb:w.heap[b]?=some (.cells Fs E (0,0)))(W0:Fs.size=cap*sz)(hn:n≤cap)(hm:n+m≤cap)(hnl:news.length=m*sz)(hol:olds.length=n*sz)
  (Gr:∀j u,olds[j]?=some u→w.cell? ⟨b,j,none⟩=some u) :
  (Fs.toList.take (n*sz)++news++Fs.toList.drop (n*sz+news.length)).length=cap*sz ∧
  (Fs.toList.take (n*sz)++news++Fs.toList.drop (n*sz+news.length)).take ((n+m)*sz)=olds++news ∧
  ∀o,o<n*sz→(Fs.toList.take (n*sz)++news++Fs.toList.drop (n*sz+news.length)).toArray[o]?=Fs[o]?:=by
 have hcl:Fs.toList.length=cap*sz:=by rw[BW];exact W0
 have Sn:(n+m)*sz≤cap*sz:=Bc _ hm;have eI:n*sz≤cap*sz:=Bc _ hn;rw[E3]at Sn;have Km:Fs.toList.take (n*sz)=olds:=by
  apply CU;intro j
  by_cases hj:j<n*sz
  ·rw[BB hj];have hx:olds[j]?=some olds[j]:=As (by omega)
   have:=Gr j _ hx
   rw[Fv hb]at this;rw[A1,this,hx]
  ·rw[A2 (by rw[AE];omega),A2 (by omega)]
 have mP:(Fs.toList.take (n*sz)).length=n*sz:=by rw[AE];omega
 refine⟨?_,?_,fun o ho=>?_⟩
 ·rw[Ad,Ad,mP,Dm,hcl,hnl];omega
 ·rw[Km,Hf (by rw[Ad,hol,hnl,E3])]
 ·rw[FQ,BF,AX (by rw[mP];exact ho),BB ho,A1]
theorem T8{r n sz:Nat}{es:List (List AV)}{x:Value}(he:h r=.arr sz es)(hx:BC g w (AP h) (.msl r n) x)(hn:n=es.length) :
  x=g.ρ r∧∃news,NM w x es.length sz news∧Cs g w E9 es.flatten news:=by
 have ho:=hI.objs r;rw[he]at ho;obtain⟨t1,l1,al,a1⟩:=ho;cases hx with
 |msl _ _ _ a cap hu ht W5 ha Ln =>
  have e:=Ln (hn.trans l1.symm);refine⟨e,?_⟩;rw[e];rcases a1 with ⟨rfl,e2,e3⟩ | ⟨b,KJ,E,vs,e1,e2,e3,e4,e5,e6,e7⟩
  ·exact⟨[],⟨by simp,by simp,none,0,e2,.inl rfl⟩,by simp,by simp,fun i av x h1 h2=>by simp at h2⟩
  ·have W0:vs.toList.length=KJ*sz:=by rw[BW];exact e5
   have Hb:es.length*sz≤vs.toList.length:=by rw[W0];exact Bc _ e3
   refine⟨vs.toList.take (es.length*sz),⟨by rw[AE,Nat.min_eq_left Hb],e6.2.1,_,_,e1,.inr ⟨_,rfl,fun j u hj=>?_⟩⟩,e6⟩;rw[Addr.add_lit,Be,Fv e4];have Dz:=(Ap.1 hj).1;rw[AE]at Dz;rw[BB (by omega),A1]at hj;exact hj
theorem aO{sz:Nat}{x:AV}{vx:Value}{K:List (List AV)→Prop}(hx:BC g w (AP h) x vx)(hk:KP h x K) :
  ∃es,K es∧((∀c∈es,c.length=sz)→∃news,NM w vx es.length sz news∧Cs g w E9 es.flatten news):=by
 unfold KP at hk;split at hk
 ·exact⟨_,hk,fun hl=>NM.of_rep hx.slice_none hl⟩
 ·obtain rfl:=hx.v_eq;exact⟨[],hk,fun _=>⟨[],⟨by simp,by simp,none,0,rfl,.inl rfl⟩,by simp,by simp,fun i av x h1 h2=>by simp at h2⟩⟩
 ·rename_i r n;split at hk
  ·rename_i Gd es e;obtain⟨hn,hk⟩:=hk;refine⟨es,hk,fun hl=>?_⟩;obtain⟨_,news,n1,n2⟩:=T8 hI e hx hn;refine⟨news,?_,n2⟩
   have:news.length=es.length*sz:=by rw[n2.1,CZ hl]
   exact⟨this,n1.2.1,n1.2.2⟩
  ·exact hk.elim
 ·exact hk.elim
theorem bJ{cx:Cx}{d:Option Nat}{sz:Nat}{K:HK}(hk:Es cx d h sz [] K) :
  ∃g' av h',K av h'∧DA w0 g0 h0 h' g' w∧Le h g w h' g' w∧BC g' w (AP h') av (.slice none 0 0):=by
 have base:∀(d:Nat) (o' : HO),h d=.free→o'≠.free→(∀g' : Gh,g'.ρ d=.slice none 0 0→g'.ln d=0→g'.tk d=true→g'.own d=none→D3 g' w (AP (AS h d o')) d o') →
   DA w0 g0 h0 (AS h d o') (g.upd d (.slice none 0 0) 0 true none g.S) w∧Le h g w (AS h d o') (g.upd d (.slice none 0 0) 0 true none g.S) w:=by
  intro d o' hd Dt I9;refine hI.upd d o' _ _ _ _ _ w none ⟨rfl,rfl,rfl,Al _⟩ (fun _ _ _=>rfl) (fun b e=>by cases e) (fun _ _ h=>h) (fun _ _ h=>.inl h) (fun b o e=>by cases e) (fun b _ e=>by cases e) Dt (fun hu=>absurd hd hu) (fun _ _=>?_);obtain⟨u1,u2,u3,u4⟩:=Bw g d (.slice none 0 0) 0 true none g.S;exact I9 _ u1 u2 u3 u4
 unfold Es at hk;split at hk
 ·exact hk.elim
 ·rename_i d;generalize Kj cx d=d1 at hk;split at hk
  ·rename_i hd;split at hk
   ·obtain⟨k1,k2⟩:=base d1 (.arr sz []) hd (by simp) (fun g' u1 u2 u3 u4=>⟨u3,u2,by simp,.inl ⟨rfl,u1,u4⟩⟩);exact⟨_,_,_,hk,k1,k2,.msl _ d1 0 none 0 (by unfold AP;rw[A9];simp) (by simp[Gh.upd]) (AL _) (.inl rfl) (fun _=>by simp[Gh.upd])⟩
   ·obtain⟨k1,k2⟩:=base d1 (.tok sz 0) hd (by simp) (fun g' u1 u2 u3 u4=>⟨u3,u2,none,0,u1,.inl ⟨rfl,u4⟩⟩);exact⟨_,_,_,hk,k1,k2,.tok _ d1 sz [] _ (.snil _ _ _) (by simp) (by unfold AP;rw[A9];simp) (by simp[Gh.upd]) (AL _) (fun _=>by simp[Gh.upd])⟩
  ·exact hk.elim
theorem X6{cx:Cx}(hT:Ck P cx.T){d:Option Nat}{t ty:Nat}{s x:AV}{vs vx:Value}{K:HK}(hs:BC g w (AP h) s vs)(hx:BC g w (AP h) x vx)(hk:H5 cx d h t s x K) :
  NI P w0 g0 h0 h g w (Builtin.append_ #[t,t] ty #[vs,vx]) K:=by
 unfold H5 at hk;split at hk
 ·rename_i e ht;split at hk
  ·exact hk.elim
  ·rename_i hz;have hz:=AH hz;split at hk
   ·exact hk.elim
   ·rename_i k Eu;have h5:=aO hI (sz:=(cx.T e).size) hx hk
    clear hk
    obtain⟨es2,hk,h6⟩:=h5;split at hk
    ·obtain⟨⟨q1,q2,q3⟩,hk⟩:=hk;obtain rfl:=hs.v_eq;obtain⟨news,n1,n2⟩:=h6 (FG q1);obtain⟨m1,m2,a,c,rfl,m4⟩:=n1
     by_cases hm:es2.length=0
     ·obtain rfl:=AN hm;obtain⟨g',av,h',k1,k2,k3,k4⟩:=bJ hI hk;exact⟨_,w,g',av,h',Iz hT w ht Eu none a 0 0 c (Al _),k1,k2,k3,k4⟩
     ·obtain⟨nc,rest,r1,r2,r3⟩:=HB hT w (ty:=ty) ht Eu hz (olds:=[]) (a:=none) (n:=0) (cap:=0) ⟨by simp,by simp,none,0,rfl,.inl rfl⟩ rfl (fun _=>rfl) ⟨m1,m2,a,c,rfl,m4⟩ rfl (by omega) (by omega) (by rw[Be];exact q2) (by omega);obtain⟨g',av,h',k1,k2,k3,k4⟩:=JF hI hk (vs:=([]++news++rest).toArray) (cap:=nc) e (FG q1) (by omega) (by simpa using r3) (by
       rw[Fp,show(news++rest).toArray.toList=news++rest from rfl,Hf m1];exact n2) w.drew ⟨rfl,rfl,rfl,rfl⟩
      rw[Be]at r1;exact⟨_,_,g',av,h',r1,k1,k2,k3,k4⟩
    ·rename_i Gd es;split at hk
     ·rename_i Qf;obtain Qf:=AH Qf;obtain⟨⟨q1,q2,q3,q4⟩,hk⟩:=hk;obtain⟨news,n1,n2⟩:=h6 (FG q1);obtain⟨m1,m2,a2,c2,rfl,m4⟩:=n1;cases hs with
      |full _ _ _ _ hr We Ln =>
       obtain⟨a,rfl⟩:=Ln;have GF:∀c∈es++es2,c.length=(cx.T e).size:=fun c hc=>(AW.1 hc).elim (fun h=>(We c h).trans Qf) (FG q1 c);obtain⟨olds,o1,o2⟩:=NM.of_rep hr (sz:=(cx.T e).size) (fun c hc=>(We c hc).trans Qf);have Wf:=o2.app n2;rw[←Cv]at Wf;have ha:a=none→es.length=0:=by
        rintro rfl
        obtain⟨p1,p2,a',c',p3,p4⟩:=o1;cases p3;rcases p4 with h | ⟨b',h,_⟩
        ·exact h
        ·cases h
       obtain⟨nc,rest,r1,r2,r3⟩:=HB hT w (ty:=ty) ht Eu hz o1 rfl ha ⟨m1,m2,a2,c2,rfl,m4⟩ rfl q2 (by omega) q3 q4;obtain⟨g',av,h',k1,k2,k3,k4⟩:=JF hI hk (vs:=(olds++news++rest).toArray) (cap:=nc) e GF (by rw[Ad];exact r2) (by rw[Fj];exact r3) (by
        rw[show(olds++news++rest).toArray.toList=olds++news++rest from rfl,Hf (by rw[Ad,Ad,o1.1,m1,E3])];exact Wf) w.drew ⟨rfl,rfl,rfl,rfl⟩
       rw[Ad]at k4;exact⟨_,_,g',av,h',r1,k1,k2,k3,k4⟩
     ·exact hk.elim
    ·rename_i r Gd es;have ho:=hI.objs r;split at hk
     ·rename_i sz n e0;rw[e0]at ho;split at hk
      ·rename_i Qf uD;obtain rfl:=AH uD;obtain Qf:=AH Qf;obtain⟨⟨q1,q2,q3,q4⟩,hk⟩:=hk;rw[Qf]at q1;obtain⟨news,n1,n2⟩:=h6 (FG q1);obtain⟨m1,m2,a2,c2,rfl,m4⟩:=n1;obtain⟨t1,l1,a,cap,a1,a3⟩:=ho;have hl:(h r).live:=by rw[e0];trivial
       have GF:∀c∈es++es2,es.length=n→True:=fun _ _ _=>trivial;cases hs with
       |tok _ _ _ _ _ hr We hu ht' hn Ln =>
        have hv:=Ln (q2.trans l1.symm);rw[a1]at hv;subst hv;subst q2;have GF:∀c∈es++es2,c.length=Gd:=fun c hc=>(AW.1 hc).elim (We c) (fun h=>(FG q1 c h).trans Qf.symm);obtain⟨olds,o1,o2⟩:=NM.of_rep hr We;have Wf:=o2.app n2;rw[←Cv]at Wf;have Zs:es.length≤cap:=by rcases a3 with ⟨e1,_⟩ | ⟨e1,_⟩<;>omega
        by_cases hm:es2.length=0
        ·obtain rfl:=AN hm;have I9:=hI.objs r;rw[e0]at I9
         obtain⟨k1,k2⟩:=hI.upd r (.tok Gd (es.length+([]:List (List AV)).length)) (g.ρ r) (g.ln r) (g.tk r) (g.own r) g.S w none ⟨rfl,rfl,rfl,Al _⟩ (fun _ _ _=>rfl) (fun b e=>by cases e) (fun _ _ h=>h) (fun _ _ h=>.inl h) (fun b o e=>by cases e)
          (fun b _ e=>⟨(hI.loc r b hl e).1,.inl ⟨hl,e⟩⟩) (by simp) (fun _=>⟨rfl,Al _,fun _=>rfl,fun _=>rfl⟩) (fun hg HL=>by
           obtain⟨u1,u2,u3,u4⟩:=Bw g r (g.ρ r) (g.ln r) (g.tk r) (g.own r) g.S;rw[AG,G8];exact I9.same HL (fun i hi=>DI (by simp) i hi) hg u1 u2 u3 u4 (fun b _ _=>⟨rfl,fun _ h=>h⟩))
         refine⟨_,w,_,_,_,Iz hT w ht Eu a a2 es.length cap c2 Zs,hk,k1,k2,?_⟩;rw[BT];exact(BC.tok (AP h) r Gd es _ hr We hu ht' hn Ln).le k2
        ·by_cases JB:es.length+es2.length≤cap
         ·rcases a3 with ⟨e1,_⟩ | ⟨e1,b,E,Fs,off,rfl,e3,e4,e5,e6⟩
          ·omega
          ·rcases m4 with h | ⟨ba,rfl,IH⟩
           ·omega
           ·obtain⟨i,z,i1,i2,i3,i4,i5⟩:=Hh hT Eu;have Sn:(es.length+es2.length)*Gd≤cap*Gd:=Bc _ JB;have kL:news.length=es2.length*Gd:=by rw[Qf];exact m1
            have Yx:i.size=Gd:=i3.trans Qf.symm;have CA:=Tb (P:=P) t ty e i (hT.slice ht) i1 b off es.length cap Fs e4 ba es2.length c2 news (by rw[Yx];exact kL) IH m2 JB (by rw[Yx,kL,e5];rw[E3]at Sn;omega);rw[Yx]at CA;have Gr:∀j u,olds[j]?=some u→w.cell? ⟨b,off+j,none⟩=some u:=by
             obtain⟨p1,p2,a',c',p3,p4⟩:=o1;cases p3;intro j u hj;rcases p4 with h | ⟨b',h,h'⟩
             ·rw[h,Kb]at p1;rw[AN p1]at hj;simp at hj
             ·cases h
              have:=h' j u hj
              rwa [Addr.add_lit]at this
            obtain⟨p1,p2,p3⟩:=j8 e4 e5 e1 JB kL o1.1 Gr;generalize hnewd:Fs.toList.take (off+es.length*Gd)++news++Fs.toList.drop (off+es.length*Gd+news.length)=new at CA p1 p2 p3;have EK:=setRow_heap w b Fs new.toArray E (0,0) e4;have bc:=(hI.loc r b hl e3).1
            obtain⟨k1,k2⟩:=hI.upd r (.tok Gd (es.length+es2.length)) (.slice (some ⟨b,off,none⟩) (es.length+es2.length) cap) (es.length+es2.length) (g.tk r) (g.own r) (g.more b (off+(es.length+es2.length)*Gd)) (w.setRow b new.toArray) (some b)
             ⟨rfl,rfl,rfl,by rw[size_setRow];exact Al _⟩ (fun k _ Dt=>setRow_other w b k _ (fun e=>Dt (by rw[e]))) (fun b' e=>by cases e;exact⟨hl,e3⟩) (fun _ _ h=>.inl h)
             (fun b' o hs=>hs.elim .inl (fun hs=>.inr ⟨by rw[size_setRow,hs.1];exact bc,.inr ⟨hl,by rw[hs.1];exact e3⟩⟩))
             (fun b' o e hs=>by
              cases e
              refine⟨?_,fun es ck he=>by rw[e4]at he;cases he⟩;rw[Fv EK,Fv e4];exact p3 o (e6 o hs)) (fun b' _ e=>by
              rw[e3]at e;cases e;exact⟨by rw[size_setRow];exact bc,.inl ⟨hl,e3⟩⟩) (by simp) (fun _=>⟨rfl,by omega,fun e=>(by rw[t1]at e;cases e),fun e=>by omega⟩) (fun hg HL=>by
              obtain⟨u1,u2,u3,u4⟩:=Bw g r (.slice (some ⟨b,off,none⟩) (es.length+es2.length) cap) (es.length+es2.length) (g.tk r) (g.own r) (g.more b (off+(es.length+es2.length)*Gd));exact⟨u3.trans t1,u2,_,cap,u1,  .inr ⟨JB,b,E,_,off,rfl,u4.trans e3,EK,by rw[Fj];exact p1,fun o ho=>by
               rcases ho with ho | ⟨_,ho⟩
               ·have h1:=e6 o ho;have h2:es.length*Gd≤(es.length+es2.length)*Gd:=Bc _ (by omega);omega
               ·exact ho⟩⟩)
            have Eb:=BC.slice_off (g:=g.upd r (.slice (some ⟨b,off,none⟩) (es.length+es2.length) cap) (es.length+es2.length) (g.tk r) (g.own r) (g.more b (off+(es.length+es2.length)*Gd))) (U:=AP (AS h r (.tok Gd (es.length+es2.length)))) (cap:=cap) (es:=es++es2) EK GF (by rw[Ad];exact JB) (by
             rw[Ad,show new.toArray.toList=new from rfl,p2];exact Wf.mono k2.keeps (fun _ h=>h) (fun _ h=>h.elim)) (fun o ho=>.inr ⟨rfl,by rw[Ad]at ho;exact Nat.add_lt_add_left ho off⟩)
            rw[Ad]at Eb;exact⟨_,_,_,_,_,CA,hk,k1,k2,.tok _ r Gd _ _ Eb GF (by unfold AP;rw[A9];simp) (by simp[Gh.upd,t1]) (by simp[Gh.upd]) (fun _=>by simp[Gh.upd])⟩
         ·have eG:cap<es.length+es2.length:=by omega
          have ha:a=none→cap=0:=by
           rintro rfl
           rcases a3 with ⟨e1,_⟩ | ⟨_,b,_,_,_,e2,_⟩
           ·obtain⟨p1,p2,a',c',p3,p4⟩:=o1;cases p3;rcases p4 with h | ⟨b',h,_⟩
            ·omega
            ·cases h
           ·cases e2
          obtain⟨nc,rest,r1,r2,r3⟩:=HB hT w (ty:=ty) ht Eu hz (by rw[←Qf];exact o1) rfl ha ⟨m1,m2,a2,c2,rfl,m4⟩ rfl (by omega) eG q3 q4;have EK:=Hr w.drew (.cells (olds++news++rest).toArray e (0,0)) (b:=w.heap.size) rfl
          obtain⟨k1,k2⟩:=hI.upd r (.tok Gd (es.length+es2.length)) (.slice (some ⟨w.heap.size,0,none⟩) (es.length+es2.length) nc) (es.length+es2.length) (g.tk r) (some w.heap.size) (g.more w.heap.size ((es.length+es2.length)*Gd))
           (w.drew.alloc (.cells (olds++news++rest).toArray e (0,0))) none
           ⟨rfl,rfl,rfl,by rw[World.size_alloc];exact Nat.le_succ _⟩ (fun k JS _=>by rw[heap_alloc_old _ _ (by exact JS)];rfl) (fun b' e=>by cases e) (fun _ _ h=>.inl h)
           (fun b' o hs=>hs.elim .inl (fun hs=>.inr ⟨by rw[World.size_alloc,hs.1];exact Lk _,.inl (by rw[hs.1];exact Al _)⟩))
           (fun b' o e=>by cases e) (fun b' _ e=>by cases e;exact⟨by rw[World.size_alloc];exact Lk _,.inr (Al _)⟩) (by simp) (fun _=>⟨rfl,by omega,fun e=>(by rw[t1]at e;cases e),fun e=>by omega⟩) (fun hg HL=>by
            obtain⟨u1,u2,u3,u4⟩:=Bw g r (.slice (some ⟨w.heap.size,0,none⟩) (es.length+es2.length) nc) (es.length+es2.length) (g.tk r) (some w.heap.size) (g.more w.heap.size ((es.length+es2.length)*Gd));exact⟨u3.trans t1,u2,_,nc,u1,.inr ⟨r2,w.heap.size,e,_,0,rfl,u4,EK,by rw[Fj,Qf,Be];exact r3,fun o ho=>by
             rcases ho with ho | ⟨_,ho⟩
             ·have:=hI.slt _ _ ho;omega
             ·omega⟩⟩)
          have Eb:=BC.slice_row (g:=g.upd r (.slice (some ⟨w.heap.size,0,none⟩) (es.length+es2.length) nc) (es.length+es2.length) (g.tk r) (some w.heap.size) (g.more w.heap.size ((es.length+es2.length)*Gd))) (U:=AP (AS h r (.tok Gd (es.length+es2.length)))) (cap:=nc) (es:=es++es2) EK GF (by rw[Ad];exact r2) (by
           rw[Ad,show(olds++news++rest).toArray.toList=olds++news++rest from rfl,Hf (by rw[Ad,o1.1,m1,Qf,E3])];exact Wf.mono k2.keeps (fun _ h=>h) (fun _ h=>h.elim)) (fun o ho=>.inr ⟨rfl,by rw[Ad]at ho;exact ho⟩)
          rw[Ad]at Eb;exact⟨_,_,_,_,_,r1,hk,k1,k2,.tok _ r Gd _ _ Eb GF (by unfold AP;rw[A9];simp) (by simp[Gh.upd,t1]) (by simp[Gh.upd]) (fun _=>by simp[Gh.upd])⟩
      ·exact hk.elim
     ·exact hk.elim
    ·rename_i r n;have ho:=hI.objs r;split at hk
     ·rename_i sz es e0;split at hk
      ·rename_i Qf;obtain Qf:=AH Qf;obtain⟨⟨q1,q2,q3,q4⟩,hk⟩:=hk;rw[Qf]at q1;obtain⟨news,n1,n2⟩:=h6 (FG q1);obtain⟨m1,m2,a2,c2,rfl,m4⟩:=n1;obtain⟨hv,olds,o1,o2⟩:=T8 hI e0 hs q2.symm;have I9:=ho;rw[e0]at ho;obtain⟨t1,l1,al,a3⟩:=ho;have hl:(h r).live:=by rw[e0];trivial
       subst hv;have GF:∀c∈es++es2,c.length=sz:=fun c hc=>(AW.1 hc).elim (al c) (fun h=>(FG q1 c h).trans Qf.symm);have Wf:=o2.app n2;rw[←Cv]at Wf;obtain⟨a,cap,hρ,Zs,ha⟩:∃a cap,g.ρ r=.slice a es.length cap∧es.length≤cap∧(a=none→cap=0):=by
        rcases a3 with ⟨rfl,e2,e3⟩ | ⟨b,cap,E,Fs,e1,e2,e3,e4,e5,e6,e7⟩
        ·exact⟨none,0,e2,Al _,fun _=>rfl⟩
        ·exact⟨_,cap,e1,e3,fun e=>by cases e⟩
       by_cases hm:es2.length=0
       ·obtain rfl:=AN hm;rw[e0]at I9
        obtain⟨k1,k2⟩:=hI.upd r (.arr sz (es++[])) (g.ρ r) (g.ln r) (g.tk r) (g.own r) g.S w none ⟨rfl,rfl,rfl,Al _⟩ (fun _ _ _=>rfl) (fun b e=>by cases e) (fun _ _ h=>h) (fun _ _ h=>.inl h) (fun b o e=>by cases e)
         (fun b _ e=>⟨(hI.loc r b hl e).1,.inl ⟨hl,e⟩⟩) (by simp) (fun _=>⟨rfl,Al _,fun _=>rfl,fun _=>rfl⟩) (fun hg HL=>by
          obtain⟨u1,u2,u3,u4⟩:=Bw g r (g.ρ r) (g.ln r) (g.tk r) (g.own r) g.S;rw[BT];exact I9.same HL (fun i hi=>DI (by simp) i hi) hg u1 u2 u3 u4 (fun b _ _=>⟨rfl,fun _ h=>h⟩))
        refine⟨g.ρ r,w,_,_,_,?_,hk,k1,k2,?_⟩
        ·rw[hρ];exact Iz hT w ht Eu a a2 es.length cap c2 Zs
        ·have:=hs.le k2
         rw[←q2]at this;exact this
       ·by_cases JB:es.length+es2.length≤cap
        ·rcases a3 with ⟨rfl,e2,e3⟩ | ⟨b,KJ,E,Fs,e1,e2,e3,e4,e5,e6,e7⟩
         ·rw[e2]at hρ;cases hρ;omega
         ·rw[e1]at hρ;simp only[Value.slice.injEq,true_and]at hρ;obtain⟨rfl,rfl⟩:=hρ;rcases m4 with h | ⟨ba,rfl,IH⟩
          ·omega
          ·obtain⟨i,z,i1,i2,i3,i4,i5⟩:=Hh hT Eu;have Sn:(es.length+es2.length)*sz≤KJ*sz:=Bc _ JB;have kL:news.length=es2.length*sz:=by rw[Qf];exact m1
           have Yx:i.size=sz:=i3.trans Qf.symm;have CA:=Pz (P:=P) t ty e i (hT.slice ht) i1 b es.length KJ Fs e4 ba es2.length c2 news (by rw[Yx];exact kL) IH m2 JB (by rw[Yx,kL,←E3,e5];exact Sn);rw[Yx]at CA;have Gr:∀j u,olds[j]?=some u→w.cell? ⟨b,j,none⟩=some u:=by
            obtain⟨p1,p2,a',c',p3,p4⟩:=o1;rw[e1]at p3;cases p3;intro j u hj;rcases p4 with h | ⟨b',h,h'⟩
            ·rw[h,Kb]at p1;rw[AN p1]at hj;simp at hj
            ·cases h
             have:=h' j u hj
             rwa [Addr.add_lit,Be]at this
           obtain⟨p1,p2,p3⟩:=gx e4 e5 e3 JB kL o1.1 Gr;generalize hnewd:Fs.toList.take (es.length*sz)++news++Fs.toList.drop (es.length*sz+news.length)=new at CA p1 p2 p3;have EK:=setRow_heap w b Fs new.toArray E (0,0) e4;have bc:=(hI.loc r b hl e2).1
           obtain⟨k1,k2⟩:=hI.upd r (.arr sz (es++es2)) (.slice (some ⟨b,0,none⟩) (es.length+es2.length) KJ) (es.length+es2.length) (g.tk r) (g.own r) g.S (w.setRow b new.toArray) (some b)
            ⟨rfl,rfl,rfl,by rw[size_setRow];exact Al _⟩ (fun k _ Dt=>setRow_other w b k _ (fun e=>Dt (by rw[e]))) (fun b' e=>by cases e;exact⟨hl,e2⟩) (fun _ _ h=>h) (fun _ _ h=>.inl h)
            (fun b' o e hs=>by cases e;exact absurd hs (e7 o)) (fun b' _ e=>by
             rw[e2]at e;cases e;exact⟨by rw[size_setRow];exact bc,.inl ⟨hl,e2⟩⟩) (by simp) (fun _=>⟨rfl,by omega,fun e=>(by rw[t1]at e;cases e),fun e=>by omega⟩) (fun hg HL=>by
             obtain⟨u1,u2,u3,u4⟩:=Bw g r (.slice (some ⟨b,0,none⟩) (es.length+es2.length) KJ) (es.length+es2.length) (g.tk r) (g.own r) g.S;refine⟨u3.trans t1,by rw[u2,Ad],GF,.inr ⟨b,KJ,E,_,by rw[u1,Ad],u4.trans e2,by rw[Ad];exact JB,EK,by rw[Fj];exact p1,?_,e7⟩⟩;rw[Ad,show new.toArray.toList=new from rfl,p2];exact Wf.mono HL (fun _ h=>h) (fun _ h=>h.elim))
           rw[e1];exact⟨_,_,_,_,_,CA,hk,k1,k2,.msl _ r _ _ _ (by unfold AP;rw[A9];simp) (by simp[Gh.upd,t1]) (by simp[Gh.upd]) (.inr ⟨_,rfl⟩) (fun _=>by simp[Gh.upd])⟩
        ·have eG:cap<es.length+es2.length:=by omega
         obtain⟨nc,rest,r1,r2,r3⟩:=HB hT w (ty:=ty) ht Eu hz (by rw[←Qf];exact o1) hρ ha ⟨m1,m2,a2,c2,rfl,m4⟩ rfl (by omega) eG q3 q4;have EK:=Hr w.drew (.cells (olds++news++rest).toArray e (0,0)) (b:=w.heap.size) rfl
         obtain⟨k1,k2⟩:=hI.upd r (.arr sz (es++es2)) (.slice (some ⟨w.heap.size,0,none⟩) (es.length+es2.length) nc) (es.length+es2.length) (g.tk r) (some w.heap.size) g.S
          (w.drew.alloc (.cells (olds++news++rest).toArray e (0,0))) none
          ⟨rfl,rfl,rfl,by rw[World.size_alloc];exact Nat.le_succ _⟩ (fun k JS _=>by rw[heap_alloc_old _ _ (by exact JS)];rfl) (fun b' e=>by cases e) (fun _ _ h=>h) (fun _ _ h=>.inl h)
          (fun b' o e=>by cases e) (fun b' _ e=>by cases e;exact⟨by rw[World.size_alloc];exact Lk _,.inr (Al _)⟩) (by simp) (fun _=>⟨rfl,by omega,fun e=>(by rw[t1]at e;cases e),fun e=>by omega⟩) (fun hg HL=>by
           obtain⟨u1,u2,u3,u4⟩:=Bw g r (.slice (some ⟨w.heap.size,0,none⟩) (es.length+es2.length) nc) (es.length+es2.length) (g.tk r) (some w.heap.size) g.S;refine⟨u3.trans t1,by rw[u2,Ad],GF,.inr ⟨w.heap.size,nc,e,_,by rw[u1,Ad],u4,by rw[Ad];exact r2,EK,by rw[Fj,Qf];exact r3,?_,fun o ho=>by have:=hI.slt _ _ ho;omega⟩⟩;rw[Ad,show(olds++news++rest).toArray.toList=olds++news++rest from rfl,Hf (by rw[Ad,o1.1,m1,Qf,E3])];exact Wf.mono HL (fun _ h=>h) (fun _ h=>h.elim))
         exact⟨_,_,_,_,_,r1,hk,k1,k2,.msl _ r _ _ _ (by unfold AP;rw[A9];simp) (by simp[Gh.upd,t1]) (by simp[Gh.upd]) (.inr ⟨_,rfl⟩) (fun _=>by simp[Gh.upd])⟩
      ·exact hk.elim
     ·exact hk.elim
    ·exact hk.elim
 ·exact hk.elim
end
section
variable {P:Program}{w0:World}{g0:Gh}{h0 h:Nat→HO}{g:Gh}{w:World}(hI:DA w0 g0 h0 h g w)
include hI
theorem Nu{d sz n:Nat}{es:List (List AV)}{a:Option Addr}(hd:h d=.free)(hl:∀c∈es,c.length=sz)(hn:es.length=n)(hr:BC g w E9 (.slice .none es) (.slice a n n)) :
  ∃g',DA w0 g0 h0 (AS h d (.tok sz n)) g' w∧Le h g w (AS h d (.tok sz n)) g' w∧BC g' w (AP (AS h d (.tok sz n))) (.slice (.id d sz) es) (.slice a n n):=by
 obtain⟨k1,k2⟩:=hI.upd d (.tok sz n) (.slice a n n) n true none g.S w none ⟨rfl,rfl,rfl,Al _⟩ (fun _ _ _=>rfl) (fun b e=>by cases e) (fun _ _ h=>h) (fun _ _ h=>.inl h) (fun b o e=>by cases e) (fun b _ e=>by cases e) (by simp)
  (fun hu=>absurd hd hu) (fun _ _=>by
   obtain⟨u1,u2,u3,u4⟩:=Bw g d (.slice a n n) n true none g.S;exact⟨u3,u2,a,n,u1,.inl ⟨rfl,u4⟩⟩)
 exact⟨_,k1,k2,.tok _ d sz es _ (((hr.up (AP h)).le k2)) hl (by unfold AP;rw[A9];simp) (by simp[Gh.upd]) (by simp[Gh.upd,hn]) (fun _=>by simp[Gh.upd])⟩
theorem X8{cx:Cx}{d:Option Nat}{x:AV}{vx:Value}{K:HK}(hx:BC g w (AP h) x vx)(hk:NR cx d h x K):∃g' av h',K av h'∧DA w0 g0 h0 h' g' w∧Le h g w h' g' w∧BC g' w (AP h') av vx:=by
 have plain:K x h→∃g' av h',K av h'∧DA w0 g0 h0 h' g' w∧Le h g w h' g' w∧BC g' w (AP h') av vx:=fun hk=>⟨g,x,h,hk,hI,.refl _ _ _,hx⟩;unfold NR at hk;split at hk
 ·exact plain hk
 ·rename_i d;split at hk
  ·rename_i sz _;split at hk
   ·refine⟨g,xV x,h,hk,hI,.refl _ _ _,?_⟩;cases x with
    |slice tk es=>exact(BC.slice_none hx).up _
    |_=>exact hx
   ·split at hk
    ·split at hk
     ·rename_i hd;obtain rfl:=hx.v_eq;obtain⟨g',k1,k2,k3⟩:=Nu hI (sz:=sz) (es:=[]) (a:=none) hd (by simp) rfl (.snil _ _ _);exact⟨g',_,_,hk,k1,k2,k3⟩
     ·exact hk.elim
    ·exact plain hk
  ·split at hk
   ·rename_i sz _;split at hk
    ·split at hk
     ·rename_i hd;obtain rfl:=hx.v_eq
      obtain⟨k1,k2⟩:=hI.upd d (.arr sz []) (.slice none 0 0) 0 true none g.S w none ⟨rfl,rfl,rfl,Al _⟩ (fun _ _ _=>rfl) (fun b e=>by cases e) (fun _ _ h=>h) (fun _ _ h=>.inl h) (fun b o e=>by cases e) (fun b _ e=>by cases e) (by simp)
       (fun hu=>absurd hd hu) (fun _ _=>by
        obtain⟨u1,u2,u3,u4⟩:=Bw g d (.slice none 0 0) 0 true none g.S;exact⟨u3,u2,by simp,.inl ⟨rfl,u1,u4⟩⟩)
      exact⟨_,_,_,hk,k1,k2,.msl _ d 0 none 0 (by unfold AP;rw[A9];simp) (by simp[Gh.upd]) (AL _) (.inl rfl) (fun _=>by simp[Gh.upd])⟩
     ·exact hk.elim
    ·exact plain hk
   ·exact plain hk
theorem Xk{T:Gg}{mku:List Nat}{d:Option Nat}{ty:Nat}{K:HK}(hk:Kp T mku d h ty K):NI P w0 g0 h0 h g w (Instr.makeMap ty none) K:=by
 unfold Kp at hk;split at hk
 ·exact hk.elim
 ·rename_i d;split at hk
  ·rename_i hd;split at hk
   ·split at hk
    ·rename_i sh _;split at hk
     ·obtain⟨k1,k2⟩:=hI.newOwn hd (.mapU sh []) (.map #[] 0) (.map (some w.heap.size)) 0 false w ⟨rfl,rfl,rfl,rfl⟩ (by simp) (fun hg HL=>by
       obtain⟨u1,u2,u3,u4⟩:=Bw g d (.map (some w.heap.size)) 0 false (some w.heap.size) g.S;exact⟨u3,w.heap.size,#[],0,u4,u1,Hr w _ rfl,⟨rfl,by simp,by simp,by simp,by simp,by simp⟩,by simp,fun o ho=>by have:=hI.slt _ _ ho;omega⟩)
      refine⟨_,_,_,_,_,?_,hk,k1,k2,.mref _ d w.heap.size (by unfold AP;rw[A9];simp) ?_ ?_⟩
      ·simp[Instr.makeMap]
      ·simp[Gh.upd]
      ·simp[Gh.upd]
     ·obtain⟨k1,k2⟩:=hI.newOwn hd (.map sh []) (.map #[] 0) (.map (some w.heap.size)) 0 false w ⟨rfl,rfl,rfl,rfl⟩ (by simp) (fun hg HL=>by
       obtain⟨u1,u2,u3,u4⟩:=Bw g d (.map (some w.heap.size)) 0 false (some w.heap.size) g.S;exact⟨u3,w.heap.size,#[],0,u4,u1,Hr w _ rfl,⟨rfl,by simp,by simp,by simp,by simp,by simp⟩,by simp,fun o ho=>by have:=hI.slt _ _ ho;omega⟩)
      refine⟨_,_,_,_,_,?_,hk,k1,k2,.mref _ d w.heap.size (by unfold AP;rw[A9];simp) ?_ ?_⟩
      ·simp[Instr.makeMap]
      ·simp[Gh.upd]
      ·simp[Gh.upd]
    ·exact hk.elim
   ·exact hk.elim
  ·exact hk.elim
omit hI in
theorem BC.sub{es:List (List AV)}{sz l m:Nat}{x:Value}{a:Option Addr}{n cap:Nat}(hr:BC g w E9 (.slice .none es) x)(hx:x=.slice a n cap)(hl:∀c∈es,c.length=sz)(h1:l≤m)(h2:m≤es.length)(c' : Nat)(hc:m-l≤c')(a' : Option Addr)
  (ha:a'=a.map (·.add (l*sz))∨(m=l∧a'=a)):BC g w E9 (.slice .none ((es.take m).drop l)) (.slice a' (m-l) c'):=by
 subst hx;have Cu:((es.take m).drop l).length=m-l:=by rw[Dm,AE];omega
 by_cases h0:m-l=0
 ·have:(es.take m).drop l=[]:=AN (by omega)
  rw[this,h0];exact .snil _ _ _
 ·cases hr with
  |snil=>simp at h2;omega
  |slice _ _ b off Gd cap val nV Ph Dv Eb =>
   have hz:Gd=sz:=by
    have:(0:Nat)<es.length:=by omega
    have h3:=Ph 0 es[0] (As this);rw[←h3];exact hl _ (Ax this)
   subst hz;have yP : a'=some ⟨b,off+l*Gd,none⟩:=by
    rcases ha with h | ⟨h,_⟩
    ·rw[h];simp[Addr.add_lit]
    ·omega
   subst yP;rw[←Cu];have E6:∀(i:Nat) (cs:List AV),((es.take m).drop l)[i]?=some cs→es[l+i]?=some cs:=fun i cs h=>by
    rw[Dr]at h
    by_cases hi:l+i<m
    ·rwa [BB hi]at h
    ·rw[A2 (by rw[AE];omega)]at h;cases h
   refine .slice _ _ b (off+l*Gd) Gd c' (fun i j=>val (l+i) j) (by rw[Cu];exact hc) (fun i cs h=>Ph _ _ (E6 i cs h)) (fun i cs j av h1 h2=>?_) (fun i cs j av h1 h2=>Eb _ _ _ _ (E6 i cs h1) h2)
   have:=Dv _ _ _ _ (E6 i cs h1) h2
   rwa [show off+(l+i)*Gd+j=off+l*Gd+i*Gd+j by rw[E3];omega]at this
omit hI in
theorem Ku{t:Nat→AV}{ρ:Operand→Value}(ht:∀x:Operand,BC g w (AP h) (ev t x) (ρ x)){o:Option Operand}{i:Option Int}(hk:BY t o=some i):o.map ρ=i.map fun n=>.int .i64 n:=by
 cases o with
 |none=>cases hk;rfl
 |some x =>
  unfold BY at hk;dsimp only at hk;split at hk
  ·rename_i n e;cases hk
   have:=ht x
   rw[e]at this;simp[this.v_eq]
  ·cases hk
omit hI in
theorem Tc(b:Bool)(len cap:Nat)(lo hi mx:Option Int)(jk:mx=none∨hi≠none)(h0:0≤lo.getD 0)(h1:lo.getD 0≤hi.getD len)(h2:hi.getD len≤mx.getD cap)(h3:mx.getD cap≤cap) :
  (Instr.sliceBounds b len cap (lo.map fun n=>.int .i64 n) (hi.map fun n=>.int .i64 n) (mx.map fun n=>.int .i64 n)).run P w=.ok ((lo.getD 0).toNat,(hi.getD len).toNat,(mx.getD cap).toNat) w:=by
 have e1:∀n:Int,0≤n→(n.toNat:Int)=n:=fun n hn=>Int.toNat_of_nonneg hn;cases mx with
 |none =>
  cases hi with
  |none =>
   cases lo with
   |none=>simp[Instr.sliceBounds]
   |some l =>
    simp only[Ch,DW]at h0 h1 h2;simp[Instr.sliceBounds,run_sliceBound,h0,h1]
  |some hh =>
   simp only[Ch,DW]at h1 h2;have pL:0≤hh:=by omega
   cases lo with
   |none=>simp[Instr.sliceBounds,run_sliceBound,pL,h2]
   |some l =>
    simp only[Ch]at h0 h1;simp[Instr.sliceBounds,run_sliceBound,h0,h1,h2,pL,e1]
 |some m =>
  cases hi with
  |none=>simp at jk
  |some hh =>
   simp only[Ch]at h1 h2 h3;have pL:0≤hh:=by omega
   have rN:0≤m:=by omega
   cases lo with
   |none=>simp[Instr.sliceBounds,run_sliceBound,h2,h3,pL,rN,e1]
   |some l =>
    simp only[Ch]at h0 h1;simp[Instr.sliceBounds,run_sliceBound,h0,h1,h2,h3,pL,rN,e1]
omit hI in
theorem ED{T:Gg}(hT:Ck P T){ty e k:Nat}(ht:(T ty).d=.slice e)(hk:(T e).size=k+1)(a:Option Addr)(len cap:Nat)(lo hi mx:Option Int)(jk:mx=none∨hi≠none)(h0:0≤lo.getD 0)(h1:lo.getD 0≤hi.getD len)(h2:hi.getD len≤mx.getD cap)(h3:mx.getD cap≤cap) :
  (Instr.sliceAt ty (.slice a len cap) (lo.map fun n=>.int .i64 n) (hi.map fun n=>.int .i64 n) (mx.map fun n=>.int .i64 n)).run P w =
   .ok (.slice (if(mx.getD cap).toNat=(lo.getD 0).toNat then a else a.map (·.add ((lo.getD 0).toNat*(T e).size))) ((hi.getD len).toNat-(lo.getD 0).toNat) ((mx.getD cap).toNat-(lo.getD 0).toNat)) w:=by
 have hu:=hT.slice ht;have hb:=Tc (P:=P) (w:=w) true len cap lo hi mx jk h0 h1 h2 h3;simp only[Instr.sliceAt,Sem.run_bind,run_underlying hu,Result.andThen_ok,Instr.slice,hb,hT.size1 w hk,Sem.run_pure];rw[hk]
theorem DA.moveO(r r2:Nat)(Dt:r2≠r)(hf:h r2=.free)(hl:(h r).live){ob:Option Nat}(ho:∀c,ob=some c→g.own r=some c)(o' : HO)(x:Value)(n:Nat)(t:Bool)(hn:o'≠.free)
  (I9:Ez g w (g.upd r2 x n t ob g.S) w→D3 (g.upd r2 x n t ob g.S) w (AP (AS (AS h r .dead) r2 o')) r2 o') :
  DA w0 g0 h0 (AS (AS h r .dead) r2 o') (g.upd r2 x n t ob g.S) w∧Le h g w (AS (AS h r .dead) r2 o') (g.upd r2 x n t ob g.S) w:=by
 have cP:JM g (g.upd r2 x n t ob g.S) (AP h):=by
  intro i hi;have e:i≠r2:=fun e=>hi (by rw[e];exact hf);refine⟨by simp[Gh.upd,e],by simp[Gh.upd,e],fun _=>by simp[Gh.upd,e],fun _=>by simp[Gh.upd,e]⟩
 have hK:Ez g w (g.upd r2 x n t ob g.S) w:=fun b o hb=>⟨hb,rfl,fun _ _ h=>h⟩;have J4:∀i,AP h i→AP (AS (AS h r .dead) r2 o') i:=fun i hi=>DI hn i (DI (by simp) i hi);have key:∀i,i≠r2→(AS (AS h r .dead) r2 o' i).live→i≠r∧(h i).live:=fun i h2 hl=>by
  rw[BR _ _ _ _ h2]at hl
  by_cases e:i=r
  ·subst e;rw[A9]at hl;exact hl.elim
  ·rw[BR _ _ _ _ e]at hl;exact⟨e,hl⟩
 have own:∀i,i≠r2→(g.upd r2 x n t ob g.S).own i=g.own i:=fun i e=>by simp[Gh.upd,e]
 have SV:(g.upd r2 x n t ob g.S).own r2=ob:=by simp[Gh.upd]
 refine⟨⟨hI.os,hI.tape,hI.output,hI.size,hI.frame,hI.slt,fun i=>?_,fun i j c hi hj ei ej=>?_,fun i c hi ei=>?_,hI.sg,hI.glob.keep hK⟩,cP,J4,hK⟩
 ·by_cases e:i=r2
  ·subst e;rw[A9];exact I9 hK
  ·rw[BR _ _ _ _ e]
   by_cases e1:i=r
   ·subst e1;rw[A9];trivial
   ·rw[BR _ _ _ _ e1];exact(hI.objs i).same hK J4 cP (by simp[Gh.upd,e]) (by simp[Gh.upd,e]) (by simp[Gh.upd,e]) (by simp[Gh.upd,e]) (fun b hl hb=>⟨rfl,fun k hk=>hk⟩)
 ·by_cases e1:i=r2<;>by_cases e2:j=r2
  ·exact e1.trans e2.symm
  ·subst e1;rw[SV]at ei;rw[own j e2]at ej;obtain⟨a1,a2⟩:=key j e2 hj;exact absurd (hI.inj j r _ a2 hl ej (ho _ ei)) a1
  ·subst e2;rw[SV]at ej;rw[own i e1]at ei;obtain⟨a1,a2⟩:=key i e1 hi;exact absurd (hI.inj i r _ a2 hl ei (ho _ ej)) a1
  ·rw[own i e1]at ei;rw[own j e2]at ej;exact hI.inj i j c (key i e1 hi).2 (key j e2 hj).2 ei ej
 ·by_cases e1:i=r2
  ·subst e1;rw[SV]at ei;exact hI.loc r _ hl (ho _ ei)
  ·rw[own i e1]at ei;exact hI.loc i c (key i e1 hi).2 ei
theorem XL{cx:Cx}(hT:Ck P cx.T){d:Option Nat}{ty:Nat}{x:AV}{vx:Value}{t:Nat→AV}{ρ:Operand→Value}(ht:∀x:Operand,BC g w (AP h) (ev t x) (ρ x)){lo hi mx:Option Operand}{K:HK}(hx:BC g w (AP h) x vx)
  (hk:S8 cx d h ty x (BY t lo) hi mx K):NI P w0 g0 h0 h g w (Instr.sliceAt ty vx (lo.map ρ) (hi.map ρ) (mx.map ρ)) K:=by
 unfold S8 at hk;split at hk
 ·rename_i d Hs e1;rw[Ku ht e1];split at hk
  ·rename_i e hs;split at hk
   ·exact hk.elim
   ·rename_i k Eu;split at hk
    ·rename_i r sz es;split at hk
     ·rename_i Gd n e0;split at hk
      ·rename_i hd;split at hk
       ·rename_i q1 q2;obtain rfl:=AH q1;have q2:=AH q2;obtain⟨⟨rfl,h1,h2⟩,hk⟩:=hk;have hl:(h r).live:=by rw[e0];trivial
        have Dt:Kj cx d≠r:=fun e=>by rw[e,e0]at hd;cases hd
        have ho:=hI.objs r;rw[e0]at ho;obtain⟨t1,l1,a,cap,a1,a3⟩:=ho;have hr:=hx.slice_none;cases hx with
        |tok _ _ _ _ _ oc We hu ht' hn Ln =>
         have hv:=Ln l1.symm;rw[a1]at hv;subst hv;have Zs:es.length≤cap:=by rcases a3 with ⟨e1,_⟩ | ⟨e1,_⟩<;>omega
         have CA:=ED (P:=P) (w:=w) hT hs Eu a es.length cap (some Hs) none none (.inl rfl) h1 h2 (by simp only[DW];omega) (by simp);simp only[Ch,DW,Cg]at CA;have Cu:(es.drop Hs.toNat).length=es.length-Hs.toNat:=Dm;have eU:=BC.sub (c':=cap-Hs.toNat) hr rfl We (l:=Hs.toNat) (m:=es.length) (by omega) (Al _) (by omega) (if cap=Hs.toNat then a else a.map (·.add (Hs.toNat*(cx.T e).size))) (by
          split
          ·exact .inr ⟨by omega,rfl⟩
          ·rw[q2];exact .inl rfl)
         rw[DU]at eU
         have fin:∀ob:Option Nat,(∀c,ob=some c→g.own r=some c)→(es.length-Hs.toNat=cap-Hs.toNat∧ob=none∨es.length-Hs.toNat≤cap-Hs.toNat∧∃b E vs off,(if cap=Hs.toNat then a else a.map (·.add (Hs.toNat*(cx.T e).size)))=some ⟨b,off,none⟩∧ob=some b∧w.heap[b]?=some (.cells vs E (0,0))∧vs.size=off+(cap-Hs.toNat)*Gd∧∀o,g.S b o→o<off+(es.length-Hs.toNat)*Gd) →
           NI P w0 g0 h0 h g w (Instr.sliceAt ty (.slice a es.length cap) ((some Hs).map fun n=>.int .i64 n) ((none:Option Operand).map ρ) ((none:Option Operand).map ρ)) K:=fun ob ho pY=>by
          obtain⟨k1,k2⟩:=hI.moveO r (Kj cx d) Dt hd hl ho (.tok Gd (es.drop Hs.toNat).length) (.slice (if cap=Hs.toNat then a else a.map (·.add (Hs.toNat*(cx.T e).size))) (es.length-Hs.toNat) (cap-Hs.toNat)) (es.length-Hs.toNat) true (by simp) (fun HL=>by
           obtain⟨u1,u2,u3,u4⟩:=Bw g (Kj cx d) (.slice (if cap=Hs.toNat then a else a.map (·.add (Hs.toNat*(cx.T e).size))) (es.length-Hs.toNat) (cap-Hs.toNat)) (es.length-Hs.toNat) true ob g.S;refine⟨u3,u2.trans Cu.symm,_,_,by rw[Cu];exact u1,?_⟩;rw[Cu,u4];exact pY)
          exact⟨_,w,_,_,_,CA,hk,k1,k2,.tok _ _ _ _ _ (((eU.mono k2.keeps (fun _ h=>h) (fun _ h=>h.elim))).up _) (fun c hc=>We c (If hc)) (by unfold AP;rw[A9];simp) (by simp[Gh.upd]) (by simp[Gh.upd]) (fun _=>by simp[Gh.upd])⟩
         rcases a3 with ⟨e1,e2⟩ | ⟨e1,b,E,vs,off,rfl,e3,e4,e5,e6⟩
         ·exact fin none (fun c h=>by cases h) (.inl ⟨by omega,rfl⟩)
         ·by_cases hc:cap=Hs.toNat
          ·exact fin none (fun c h=>by cases h) (.inl ⟨by omega,rfl⟩)
          ·refine fin (some b) (fun c h=>by cases h;exact e3) (.inr ⟨by omega,b,E,vs,off+Hs.toNat*Gd,?_,rfl,e4,?_,fun o ho=>?_⟩)
           ·rw[Ai hc];simp[Addr.add_lit,q2]
           ·rw[e5,Nat.sub_mul]
            have:=Bc Gd (show Hs.toNat≤cap by omega)
            omega
           ·have:=e6 o ho
            rw[Nat.sub_mul]
            have:=Bc Gd (show Hs.toNat≤es.length by omega)
            omega
       ·exact hk.elim
      ·exact hk.elim
     ·exact hk.elim
    ·exact hk.elim
  ·exact hk.elim
 ·exact hk.elim
omit hI in
theorem Nc{sz:Nat}:∀{es:List (List AV)},(∀cs∈es,cs.length=sz)→∀k,(es.take k).flatten=es.flatten.take (k*sz)
 | [],_,k=>by simp
 |c::es,hl,0=>by simp
 |c::es,hl,k+1=>by
  have h1:=hl c (Ab ..);have h2:c.length≤k*sz+sz:=by omega
  rw[IL,Bv,Bv,Nc (fun x hx=>hl x (Ah _ hx)) k,List.take_append,h1,DV,
   AD h2,show k*sz+sz-sz=k*sz by omega]
omit hI in
theorem Cs.takeE{U:Nat→Prop}{sz k:Nat}{es:List (List AV)}{vs:List Value}(hl:∀cs∈es,cs.length=sz)(hk:k≤es.length)(h:Cs g w U es.flatten (vs.take (es.length*sz))):Cs g w U (es.take k).flatten (vs.take (k*sz)):=by
 have e:vs.take (k*sz)=(vs.take (es.length*sz)).take (k*sz):=by
  rw[List.take_take,Nat.min_eq_left (Bc _ hk)]
 rw[Nc hl,e];refine⟨by rw[AE (l:=vs.take (es.length*sz)),h.1,AE],fun x hx=>h.2.1 x (Ek hx),fun i av x q1 q2=>?_⟩;have hi:i<k*sz:=by
  rcases EA i (k*sz)with q | q
  ·exact q
  ·rw[Jp,Ai (by omega)]at q1;cases q1
 rw[Jp,Aq hi]at q1 q2;exact h.2.2 i av x q1 q2
theorem ZQ{cx:Cx}(hT:Ck P cx.T){d:Option Nat}{ty:Nat}{x:AV}{vx:Value}{t:Nat→AV}{ρ:Operand→Value}(ht:∀x:Operand,BC g w (AP h) (ev t x) (ρ x)){hi:Option Operand}{K:HK}(hx:BC g w (AP h) x vx)
  (hk:gl cx d h ty x (BY t hi) K):NI P w0 g0 h0 h g w (Instr.sliceAt ty vx none (hi.map ρ) none) K:=by
 unfold gl at hk;split at hk
 ·rename_i d Lt e1;rw[Ku ht e1];split at hk
  ·rename_i e hs;split at hk
   ·exact hk.elim
   ·rename_i k Eu;split at hk
    ·rename_i r n;split at hk
     ·rename_i sz es e0;split at hk
      ·rename_i hd;split at hk
       ·rename_i q1 q3;have q1:=AH q1;obtain⟨⟨rfl,h1,h2⟩,hk⟩:=hk;have hl:(h r).live:=by rw[e0];trivial
        have Dt:Kj cx d≠r:=fun e=>by rw[e,e0]at hd;cases hd
        have ho:=hI.objs r;rw[e0]at ho;obtain⟨t1,l1,al,a2⟩:=ho;have Cu:(es.take Lt.toNat).length=Lt.toNat:=by rw[AE];omega
        cases hx with
        |msl _ _ _ a cap hu ht' W5 ha Ln =>
         have hv:=Ln l1.symm;have Oi:es.length≤cap:=by
          rcases a2 with ⟨b1,_,_⟩ | ⟨b,KJ,E,vs,b1,_,b3,_⟩
          ·subst b1;exact AL _
          ·rw[b1]at hv;cases hv;exact b3
         have CA:=ED (P:=P) (w:=w) hT hs Eu a es.length cap none (some Lt) none (.inl rfl) (by simp) (by simp only[DW,Ch];exact h1) (by simp only[Ch,DW];omega) (by simp);have Lc:(if cap-(0:Nat)=0 then a else a.map (·.add (0*(cx.T e).size)))=a:=by
          rw[Kb];split
          ·rfl
          ·rcases ha with e3 | ⟨b,rfl⟩
           ·cases a with
            |none=>rfl
            |some a=>simp[Addr.add]
           ·rfl
         simp only[Ch,DW,Cg,Int.toNat_zero,Nat.sub_zero]at CA Lc;have key:∃a',(Instr.sliceAt ty (.slice a es.length cap) ((none:Option Int).map fun n=>.int .i64 n) ((some Lt).map fun n=>.int .i64 n) ((none:Option Int).map fun n=>.int .i64 n)).run P w=.ok (.slice a' Lt.toNat cap) w∧(a'=a):=⟨_,CA,by first | exact Lc | (split<;>first | rfl | exact Lc | (simp_all))⟩
         obtain⟨a',CA,rfl⟩:=key;have JT:BC (g.upd (Kj cx d) (.slice a' Lt.toNat cap) Lt.toNat true (g.own r) g.S) w (AP (AS (AS h r .dead) (Kj cx d) (.arr sz (es.take Lt.toNat)))) (.msl (Kj cx d) Lt.toNat) (.slice a' Lt.toNat cap) :=
          .msl _ _ _ _ _ (by unfold AP;rw[A9];simp) (by simp[Gh.upd]) (by simp[Gh.upd]) (ha.elim (fun e=>.inl (by omega)) .inr) (fun _=>by simp[Gh.upd])
         obtain⟨k1,k2⟩:=hI.moveO r (Kj cx d) Dt hd hl (ob:=g.own r) (fun c h=>h) (.arr sz (es.take Lt.toNat)) (.slice a' Lt.toNat cap) Lt.toNat true (by simp) (fun HL=>by
          obtain⟨u1,u2,u3,u4⟩:=Bw g (Kj cx d) (.slice a' Lt.toNat cap) Lt.toNat true (g.own r) g.S;refine⟨u3,u2.trans Cu.symm,fun c hc=>al c (Ek hc),?_⟩;rcases a2 with ⟨b1,b2,b3⟩ | ⟨b,KJ,E,vs,b1,b2,b3,b4,b5,b6,b7⟩
          ·subst b1;rw[b2]at hv;cases hv;have h0:Lt.toNat=0:=by simp only[AG]at h2;omega
           exact .inl ⟨List.take_nil,by rw[u1,h0],u4.trans b3⟩
          ·rw[b1]at hv;cases hv;refine .inr ⟨b,cap,E,vs,by rw[Cu];exact u1,u4.trans b2,by rw[Cu];omega,b4,b5,?_,b7⟩;rw[Cu];exact(Cs.takeE al (by omega) b6).mono HL (fun _ h=>h) (fun _ h=>h.elim))
         exact⟨_,w,_,_,_,CA,hk,k1,k2,JT⟩
       ·exact hk.elim
      ·exact hk.elim
     ·exact hk.elim
    ·exact hk.elim
  ·exact hk.elim
 ·exact hk.elim
theorem US{cx:Cx}(hT:Ck P cx.T){d:Option Nat}{ty:Nat}{x:AV}{vx:Value}{t:Nat→AV}{ρ:Operand→Value}(ht:∀x:Operand,BC g w (AP h) (ev t x) (ρ x)){lo hi mx:Option Operand}{K:HK}(hx:BC g w (AP h) x vx)
  (hk:Gc cx d h ty x (BY t lo) (BY t hi) (BY t mx) K):NI P w0 g0 h0 h g w (Instr.sliceAt ty vx (lo.map ρ) (hi.map ρ) (mx.map ρ)) K:=by
 unfold Gc at hk;split at hk
 ·rename_i Hs Lt kZ e1 e2 e3;rw[Ku ht e1,Ku ht e2,Ku ht e3];split at hk
  ·rename_i hs;split at hk
   ·rename_i s;obtain⟨⟨h1,h2,h3⟩,hk⟩:=hk;obtain rfl:=hx.v_eq;have hb:=Tc (P:=P) (w:=w) false s.size s.size Hs Lt none (.inl rfl) h1 h2 (by simpa using h3) (by simp);refine(BJ.val (x:=.string (s.extract (Hs.getD 0).toNat (Lt.getD s.size).toNat)) ?_ hk).does hI;simp only[Instr.sliceAt,Sem.run_bind,run_underlying (hT.string hs),Result.andThen_ok,Instr.slice];simp only[Option.map_none,Option.isSome_none,Dd,F9]at hb⊢;simp only[Sem.run_bind,hb,Result.andThen_ok,Sem.run_pure]
   ·exact hk.elim
  ·rename_i e hs;split at hk
   ·exact hk.elim
   ·rename_i k Eu;split at hk
    ·rename_i tk es;have hr:=hx.slice_none;obtain⟨a,cap,hv,Oi⟩:∃a cap,vx=.slice a es.length cap∧es.length≤cap:=by
      cases hr with
      |snil _ a cap=>exact⟨a,cap,rfl,AL _⟩
      |slice _ _ b off sz cap val hc=>exact⟨_,cap,rfl,hc⟩
     subst hv;split at hk
     ·obtain⟨⟨h1,h2,h3⟩,hl,hk⟩:=hk;have CA:=ED (P:=P) (w:=w) hT hs Eu a es.length cap Hs Lt none (.inl rfl) h1 h2 (by simp only[DW];omega) (by simp);refine BJ.does hI ⟨_,_,CA,hk,(BC.sub (c':=cap-(Hs.getD 0).toNat) hr rfl hl (l:=(Hs.getD 0).toNat) (m:=(Lt.getD es.length).toNat) (by omega) (by omega) (by simp;omega) _ ?_).up _⟩;split
      ·rename_i e;simp only[DW,Cg]at e;exact .inr ⟨by omega,rfl⟩
      ·exact .inl rfl
     ·rename_i m;split at hk
      ·rename_i d hh;split at hk
       ·obtain⟨⟨h1,h2,rfl,h3⟩,hl,hk⟩:=hk;have CA:=ED (P:=P) (w:=w) hT hs Eu a es.length cap Hs (some m) (some m) (.inr (by simp)) h1 h2 (by simp) (by simp only[Ch];omega);simp only[Ch]at CA;have Cu:((es.take m.toNat).drop (Hs.getD 0).toNat).length=m.toNat-(Hs.getD 0).toNat:=by rw[Dm,AE];omega
        refine BJ.does hI ⟨_,_,CA,hk,.full _ _ _ _ ((BC.sub (c':=m.toNat-(Hs.getD 0).toNat) hr rfl hl (l:=(Hs.getD 0).toNat) (m:=m.toNat) (by omega) (by omega) (by omega) _ ?_).up _) (fun c hc=>hl c (Ek (If hc))) ⟨_,by rw[Cu]⟩⟩;split
        ·rename_i e;exact .inr ⟨e,rfl⟩
        ·exact .inl rfl
       split at hk
       ·rename_i hd;obtain⟨⟨h1,h2,rfl,h3⟩,hl,hk⟩:=hk;have CA:=ED (P:=P) (w:=w) hT hs Eu a es.length cap Hs (some m) (some m) (.inr (by simp)) h1 h2 (by simp) (by simp only[Ch];omega);simp only[Ch]at CA
        obtain⟨g',k1,k2,k3⟩:=Nu hI (sz:=(cx.T e).size) (n:=m.toNat-(Hs.getD 0).toNat) hd (es:=(es.take m.toNat).drop (Hs.getD 0).toNat) (fun c hc=>hl c (Ek (If hc))) (by rw[Dm,AE];omega)
         (BC.sub (c':=m.toNat-(Hs.getD 0).toNat) hr rfl hl (l:=(Hs.getD 0).toNat) (m:=m.toNat) (by omega) (by omega) (by omega) (if m.toNat=(Hs.getD 0).toNat then a else a.map (·.add ((Hs.getD 0).toNat*(cx.T e).size))) (by
          split
          ·rename_i e;exact .inr ⟨e,rfl⟩
          ·exact .inl rfl))
        exact⟨_,w,g',_,_,CA,hk,k1,k2,k3⟩
       ·exact hk.elim
      ·exact hk.elim
    ·obtain⟨⟨h1,h2,h3⟩,h4,hk⟩:=hk;obtain rfl:=hx.v_eq;have CA:=ED (P:=P) (w:=w) hT hs Eu none 0 0 Hs Lt kZ h4 (by omega) (by simp only[Iu]at *;omega) (by simp only[Iu]at *;omega) (by simp only[Iu]at *;omega);refine BJ.does hI (BJ.val (x:=.slice none 0 0) ?_ hk);rw[CA];simp only[h1,Iu,h2,h3];simp
    ·rename_i r n;split at hk
     ·rename_i sz es e0;split at hk
      ·rename_i Qf;obtain rfl:=AH Qf;obtain⟨⟨h1,h2,h3,h4,h5⟩,hk⟩:=hk;have ho:=hI.objs r;rw[e0]at ho;obtain⟨t1,l1,al,a3⟩:=ho;have hl:(h r).live:=by rw[e0];trivial
       have pW:kZ=none∨Lt≠none:=h5.imp id (fun q=>q.2);cases hx with
       |msl _ _ _ a cap hu ht' hn ha Ln =>
        have hv:=Ln (h1.trans l1.symm);subst h1;have jk:∀c:Nat,es.length≤c→Lt.getD es.length≤kZ.getD c∧kZ.getD c≤c:=fun c hc=>by
         rcases h5 with h5 | ⟨h5,Dt⟩
         ·rw[h5];simp only[DW];omega
         ·obtain⟨m,hm⟩:=Option.ne_none_iff_exists'.1 Dt;rw[h5,hm];rw[hm]at h3 h4;simp only[Ch]at h3 h4⊢;omega
        rcases a3 with ⟨rfl,q2,q3⟩ | ⟨b,KJ,E,vs,q1,q2,q3,q4,q5,q6,q7⟩
        ·rw[q2]at hv;cases hv;have CA:=ED (P:=P) (w:=w) hT hs Eu none 0 0 Hs Lt kZ pW h2 h3 (jk 0 (by simp)).1 (jk 0 (by simp)).2
         obtain⟨k1,k2⟩:=hI.upd r .dead (g.ρ r) (g.ln r) (g.tk r) (g.own r) g.S w none ⟨rfl,rfl,rfl,Al _⟩ (fun _ _ _=>rfl) (fun b e=>by cases e) (fun _ _ h=>h) (fun _ _ h=>.inl h) (fun b o e=>by cases e) (fun b hh _=>by cases hh) (by simp)
          (fun _=>⟨rfl,Al _,fun _=>rfl,fun _=>rfl⟩) (fun _ _=>trivial)
         refine⟨_,w,_,_,_,CA,hk,k1,k2,?_⟩;have z1:((Hs.getD 0).toNat)=0:=by simp only[AG,Iu]at h3 h4;omega
         have z2:((Lt.getD (([]:List (List AV)).length:Int)).toNat)=0:=by simp only[AG,Iu]at h3 h4⊢;omega
         simp only[List.take_nil,List.drop_nil];have z3:((Lt.getD ((0:Nat):Int)).toNat)=0:=z2;rw[z1,z3];exact .snil _ _ _
        ·rw[q1]at hv;cases hv;have CA:=ED (P:=P) (w:=w) hT hs Eu (some ⟨b,0,none⟩) es.length cap Hs Lt kZ pW h2 h3 (jk _ q3).1 (jk _ q3).2;have bc:=(hI.loc r b hl q2).1
         obtain⟨k1,k2⟩:=hI.upd r .dead (g.ρ r) (g.ln r) (g.tk r) (g.own r) (g.more b (es.length*(cx.T e).size)) w none ⟨rfl,rfl,rfl,Al _⟩ (fun _ _ _=>rfl) (fun b e=>by cases e) (fun _ _ h=>.inl h)
          (fun b' o hs=>hs.elim .inl (fun hs=>.inr ⟨by rw[hs.1];exact bc,.inr ⟨hl,by rw[hs.1];exact q2⟩⟩)) (fun b o e=>by cases e) (fun b hh _=>by cases hh) (by simp)
          (fun _=>⟨rfl,Al _,fun _=>rfl,fun _=>rfl⟩) (fun _ _=>trivial)
         have Eb:=BC.slice_row (g:=g.upd r (g.ρ r) (g.ln r) (g.tk r) (g.own r) (g.more b (es.length*(cx.T e).size))) (U:=E9) q4 al q3 (q6.mono k2.keeps (fun _ h=>h) (fun _ h=>h.elim)) (fun o ho=>.inr ⟨rfl,ho⟩);have zj:=jk _ q3;refine⟨_,w,_,_,_,CA,hk,k1,k2,(BC.sub (c':=(kZ.getD cap).toNat-(Hs.getD 0).toNat) Eb rfl al (l:=(Hs.getD 0).toNat) (m:=(Lt.getD es.length).toNat) (by omega) (by omega) (by omega) _ ?_).up _⟩;split
         ·rename_i e;exact .inr ⟨by omega,rfl⟩
         ·exact .inl rfl
      ·exact hk.elim
     ·exact hk.elim
    ·exact hk.elim
  ·exact hk.elim
 ·exact hk.elim
theorem TU{cx:Cx}(hT:Ck P cx.T){d:Option Nat}{ty:Nat}{n c:AV}{vn vc:Value}{K:HK}(hn:BC g w (AP h) n vn)(hc:BC g w (AP h) c vc)(hk:Jd cx d h ty n c K) :
  NI P w0 g0 h0 h g w (Instr.makeSlice ty vn vc) K:=by
 unfold Jd at hk;split at hk
 ·rename_i e n c hs;obtain rfl:=hn.v_eq;obtain rfl:=hc.v_eq;split at hk
  ·rename_i QJ;split at hk
   ·rename_i MG;have MG:=AH MG;split at hk
    ·exact hk.elim
    ·rename_i k Eu;obtain⟨⟨h1,h2,h3,h4⟩,hk⟩:=hk;obtain⟨i,z,i1,i2,i3,i4,i5⟩:=Hh hT Eu;have mR:(cx.T e).zc≠[]:=fun e0=>by rw[e0]at MG;rw[Eu]at MG;cases MG
     have wn:IntKind.i64.wrap n=n:=MC ⟨by omega,by omega⟩;have wc:IntKind.i64.wrap c=c:=MC ⟨by omega,by omega⟩;have GF:∀l:List AV,(∀a∈l,one a=true)→GL l=true:=by
      intro l
      induction l with
      |nil=>intro _;rfl
      |cons a l ih=>intro h;simp[GL,h a (List.mem_cons_self ..),ih (fun b hb=>h b (List.mem_cons_of_mem _ hb))]
     have mN:((Array.range (c.toNat*(cx.T e).size)).map fun k=>z.cells[k % z.cells.size]!).toList=(List.replicate c.toNat (cx.T e).zc).flatten:=by
      rw[Hz c.toNat _ mR,MG,i5];have e6:z.cells.size=(cx.T e).size:=by rw[←MG,i5];simp
      simp[e6,Array.getElem!_eq_getD]
     have hzs:(cx.T e).zc.length=(cx.T e).size:=MG;have rM:∀c'∈List.replicate c.toNat (cx.T e).zc,c'.length=(cx.T e).size:=fun c' hc=>by rw[B5 hc];exact MG
     have uf : ∀c'∈List.replicate n.toNat ((cx.T e).zc.map AV.v),c'.length=(cx.T e).size:=fun c' hc=>by rw[B5 hc,A7];exact MG
     have ug:∀c'∈List.replicate n.toNat (cx.T e).zc,c'.length=(cx.T e).size:=fun c' hc=>by rw[B5 hc];exact MG
     obtain⟨g',av,h',q1,q2,q3,q4⟩:=JF hI hk (vs:=(Array.range (c.toNat*(cx.T e).size)).map fun k=>z.cells[k % z.cells.size]!) (cap:=c.toNat) e uf (by rw[DE];omega) (by simp) (by
      rw[mN,DE];have e1:(List.replicate n.toNat ((cx.T e).zc.map AV.v)).flatten=(List.replicate n.toNat (cx.T e).zc).flatten.map AV.v:=by
       rw[Rm,List.map_replicate]
      have e2:(List.replicate c.toNat (cx.T e).zc).flatten.take (n.toNat*(cx.T e).size)=(List.replicate n.toNat (cx.T e).zc).flatten:=by
       obtain⟨m,hm⟩:∃m,c.toNat=n.toNat+m:=⟨c.toNat-n.toNat,by omega⟩;rw[hm,←List.replicate_append_replicate,Cv,Hf (by rw[CZ ug,DE])]
      rw[e1,e2];refine Cs.vals (GF _ (fun a ha=>?_));obtain⟨x,hx,rfl⟩:=Ak.1 ha;obtain⟨l,hl,hx⟩:=Ej.1 hx;rw[B5 hl]at hx;exact Mc QJ _ (Ak.2 ⟨x,hx,rfl⟩)) w ⟨rfl,rfl,rfl,rfl⟩
     rw[DE]at q4;refine⟨_,_,g',av,h',?_,q1,q2,q3,q4⟩;have tN:¬((cx.T e).bytes*c>2 ^ 48):=by rw[Int.mul_comm];omega
     have eh:((decide (c<0)||decide (((cx.T e).bytes:Int)*c>2 ^ 48))||decide (n<0)||decide (n>c))=false:=by
      simp only[Bool.or_eq_false_iff,Jy];exact⟨⟨⟨by omega,tN⟩,by omega⟩,by omega⟩
     simp only[Instr.makeSlice,Sem.run_bind,run_underlying (hT.slice hs),Result.andThen_ok,asInt,asIntOf,Sem.run_pure,typeInfo,run_program,i1,i4,wn,wc,eh,Dd,F9,run_askRoom,hT.size1 w Eu]
     by_cases hz:c.toNat*(k+1)=0
     ·have mu:c.toNat=0:=by
       rcases Nat.mul_eq_zero.1 hz with h | h
       ·exact h
       ·cases h
      rw[mu];simp only[Kb,Qh];simp only[show Array.range 0=#[]from rfl,Array.map_empty];simp[newRow]
     ·simp only[Ai hz,Sem.run_bind,zeroValue,typeInfo,run_program,i1,i2,Result.andThen_ok,Sem.run_pure];rw[Eu];simp[newRow]
   ·exact hk.elim
  ·exact hk.elim
 ·exact hk.elim
end
end Go.Eng
