/- Lemmas 9. -/
import Derived.Test.YtpgfieopnnkpfaaGreatDoorQA08
namespace Go.Eng
variable {x:Operand}{l:List Nat}{o:Oper}{K:St->Prop}{st:St}{d:Nat}{p:Operand}{n:Nat}{cx:Cx}{st2:St}{d':Nat}{f:Fm}{σ:JT}(ops:Array Oper)(T:GB)
section
variable {cx:Cx}{dst:Option Nat}{ty:Nat}{pos:String}{after:Array Edge}{gd:Option (Nat×Bool)}{st:St}{R:List Nat}{w:Option Nat}{K:HK}
theorem Ih{d:Option Nat}{l:List Nat}(h:Ig d l=some f):∃d',d=some d'/\f=(d' :: l,some d'):=by
 unfold Ig at h
 grind
theorem X7{e:Nat}(hk:FL cx true ⟨dst,.alloc e,ty,pos,after,gd⟩ st K)(hf:EO cx ⟨dst,.alloc e,ty,pos,after,gd⟩ st=some (R,w)):CH cx ⟨dst,.alloc e,ty,pos,after,gd⟩ st R w K:=by
 simp only[FL]at hk;have hb:Nat.beq e XJ=false:=by
  grind [EO]
 simp only[EO,hb]at hf;obtain⟨d,rfl,e0⟩:=Ih hf;cases e0;unfold Ry at hk;simp only[hb]at hk;split at hk
 .rename_i hd;split at hk
  .simp_all
  .rename_i Fi;split at hk
   .rename_i ha;refine⟨_,some (d,_),hk,fun r o' e=>(by simp_all),fun st2 G2 K' h'=>?_⟩;simp only[FL,Ry];rw[G2.h d (Ai ..),hd];simp only[ha,hb];exact h'
   simp_all
 simp_all
theorem eK{e:Nat}(hk:FL cx true ⟨dst,.box e x,ty,pos,after,gd⟩ st K)(hf:EO cx ⟨dst,.box e x,ty,pos,after,gd⟩ st=some (R,w)):CH cx ⟨dst,.box e x,ty,pos,after,gd⟩ st R w K:=by
 simp only[FL]at hk;obtain⟨d,rfl,e0⟩:=Ih hf;cases e0;unfold dJ at hk;simp only at hk;split at hk
 .rename_i hd;split at hk
  .simp_all
  .rename_i Fi;obtain⟨cs,c1,c2,c3⟩:=Nt hk;split at c1
   .rename_i hm;refine⟨_,some (d,_),c1,fun r o' e=>(by simp_all),fun st2 G2 K' h'=>?_⟩;have hx:ev st2.t x=ev st.t x:=G2.t x (by simp[Op.operands]);simp only[FL,dJ];rw[G2.h d (Ai ..),hd,hx];simp only[hm];refine c2 _ ?_;rw[c3 st.h st2.h (fun r hr=>G2.h r (At _ hr))];exact h'
   .rename_i hm;refine⟨_,some (d,_),c1,fun r o' e=>(by simp_all),fun st2 G2 K' h'=>?_⟩;have hx:ev st2.t x=ev st.t x:=G2.t x (by simp[Op.operands]);simp only[FL,dJ];rw[G2.h d (Ai ..),hd,hx];simp only[hm];exact c2 _ h'
 simp_all
theorem Py{t n:Nat}{ps:Array (Nat×Operand)}(hk:FL cx true ⟨dst,.buildSlice t n ps,ty,pos,after,gd⟩ st K)(hf:EO cx ⟨dst,.buildSlice t n ps,ty,pos,after,gd⟩ st=some (R,w)) :
  CH cx ⟨dst,.buildSlice t n ps,ty,pos,after,gd⟩ st R w K:=by
 simp only[FL]at hk;obtain⟨d,aF,e0⟩:=Ih hf;cases e0;unfold Ie at hk;split at hk
 .rename_i e he;split at hk
  .rename_i h1 h2;split at hk
   .simp_all
   .rename_i k FM;split at hk
    .rename_i hb;obtain⟨es,q1,q2⟩:=Sc hk;obtain⟨d',hd,v,x,q3,q4⟩:=H5 q1;have hd:dst.map (JW cx)=some d':=hd;have aF:dst.map (JW cx)=some d:=aF;rw[aF]at hd;cases hd;refine⟨v,some (d,x),q3,fun r o' e=>(by simp_all),fun st2 G2 K' h'=>?_⟩;have hx:∀p∈ps.toList,ev st2.t p.2=ev st.t p.2:=fun p hp=>G2.t p.2 (by
      grind [Op.operands])
     simp only[FL,Ie,he,h1,h2];split
     .omega
     .rw[hb];exact q2 st2.t st2.h (fun r hr=>G2.h r (At _ hr)) hx _ (q4 st2.h (G2.h d (Ai ..)) K' h')
    simp_all
  simp_all
 simp_all
theorem QV{t:Nat}{n c:Operand}(hk:FL cx true ⟨dst,.makeSlice t n c,ty,pos,after,gd⟩ st K)(hf:EO cx ⟨dst,.makeSlice t n c,ty,pos,after,gd⟩ st=some (R,w)) :
  CH cx ⟨dst,.makeSlice t n c,ty,pos,after,gd⟩ st R w K:=by
 simp only[FL]at hk;obtain⟨d,aF,e0⟩:=Ih hf;cases e0;have hn:∀st2,Alike ⟨dst,.makeSlice t n c,ty,pos,after,gd⟩ (d::[]) st st2->ev st2.t n=ev st.t n/\ev st2.t c=ev st.t c:=fun st2 ha=>⟨ha.t n (by simp[Op.operands]),ha.t c (by simp[Op.operands])⟩;unfold Je at hk;split at hk
 .rename_i e a b h1 h2 h3;split at hk
  .rename_i h4;split at hk
   .rename_i h5;split at hk
    .simp_all
    .rename_i k FM;obtain⟨d',hd,v,x,q3,q4⟩:=H5 hk.2;have hd:dst.map (JW cx)=some d':=hd;have aF:dst.map (JW cx)=some d:=aF;rw[aF]at hd;cases hd;refine⟨v,some (d,x),q3,fun r o' e=>(by simp_all),fun st2 G2 K' h'=>?_⟩;simp only[FL,Je,(hn st2 G2).1,(hn st2 G2).2,h1,h2,h3,h4,h5];split
     .omega
     .exact⟨hk.1,q4 st2.h (G2.h d (Ai ..)) K' h'⟩
   simp_all
  simp_all
 simp_all
theorem TX{t:Nat}{r:Option Operand}(hk:FL cx true ⟨dst,.makeMap t r,ty,pos,after,gd⟩ st K)(hf:EO cx ⟨dst,.makeMap t r,ty,pos,after,gd⟩ st=some (R,w)) :
  CH cx ⟨dst,.makeMap t r,ty,pos,after,gd⟩ st R w K:=by
 cases r with
 |some r=>exact hk.elim
 |none=>
  simp only[FL]at hk;obtain⟨d,rfl,e0⟩:=Ih hf;cases e0;unfold Kk at hk;simp only at hk;split at hk
  .rename_i hd;split at hk
   .rename_i h1;split at hk
    .rename_i h2;split at hk
     .rename_i h3;refine⟨_,some (d,_),hk,fun r o' e=>(by simp_all),fun st2 G2 K' h'=>?_⟩;simp only[FL,Kk];rw[G2.h d (Ai ..),hd];simp only[h1,h2,h3];exact h'
     .rename_i h3;refine⟨_,some (d,_),hk,fun r o' e=>(by simp_all),fun st2 G2 K' h'=>?_⟩;simp only[FL,Kk];rw[G2.h d (Ai ..),hd];simp only[h1,h2,h3];exact h'
    simp_all
   simp_all
  simp_all
theorem X8{t:Nat}(hk:FL cx true ⟨dst,.store t p x,ty,pos,after,gd⟩ st K)(hf:EO cx ⟨dst,.store t p x,ty,pos,after,gd⟩ st=some (R,w)) :
  CH cx ⟨dst,.store t p x,ty,pos,after,gd⟩ st R w K:=by
 simp only[FL]at hk;have hn:∀st2,Alike ⟨dst,.store t p x,ty,pos,after,gd⟩ R st st2->ev st2.t p=ev st.t p/\ev st2.t x=ev st.t x:=fun st2 ha=>⟨ha.t p (by simp[Op.operands]),ha.t x (by simp[Op.operands])⟩;unfold NX at hk;split at hk
 .simp_all
 .rename_i Fi;obtain⟨cs,c1,c2,c3⟩:=Nt hk;simp only[EO]at hf;split at hf
  .rename_i r off hp;split at hf
   .cases hf
   .rename_i hm;cases hf;rw[hp]at c1;simp only at c1;split at c1
    .rename_i D1 hr;obtain⟨HB,hk'⟩:=c1;rw[hm]at hk';refine⟨_,some (r,_),hk',fun r o' e=>(by simp_all),fun st2 G2 K' h'=>?_⟩;simp only[FL,NX,(hn st2 G2).1,(hn st2 G2).2];refine c2 _ ?_;rw[hp];simp only[G2.h r (Ai ..),hr,hm];exact⟨HB,h'⟩
    simp_all
  .rename_i r n sz i off hp;cases hf;rw[hp]at c1;simp only at c1;split at c1
   .rename_i Ho es hr;split at c1
    .rename_i hs;obtain⟨HB,cell,e1,e2,hk'⟩:=c1;split at hk'
     .rename_i j m;refine⟨_,some (r,_),hk',fun r o' e=>(by simp_all),fun st2 G2 K' h'=>?_⟩;simp only[FL,NX,(hn st2 G2).1,(hn st2 G2).2];refine c2 _ ?_;rw[hp];simp only[G2.h r (Ai ..),hr,hs];exact⟨HB,cell,e1,e2,h'⟩
     .rename_i SA;refine⟨_,some (r,_),hk',fun r o' e=>(by simp_all),fun st2 G2 K' h'=>?_⟩;simp only[FL,NX,(hn st2 G2).1,(hn st2 G2).2];refine c2 _ ?_;rw[hp];simp only[G2.h r (Ai ..),hr,hs];refine⟨HB,cell,e1,e2,?_⟩;rw[c3 st.h st2.h (fun r hr=>G2.h r (At _ hr))];exact h'
    simp_all
   simp_all
  simp_all
theorem QW{t:Nat}{m k:Operand}(hk:FL cx true ⟨dst,.mapUpdate t m k x,ty,pos,after,gd⟩ st K)(hf:EO cx ⟨dst,.mapUpdate t m k x,ty,pos,after,gd⟩ st=some (R,w)) :
  CH cx ⟨dst,.mapUpdate t m k x,ty,pos,after,gd⟩ st R w K:=by
 simp only[FL]at hk;have hn:∀st2,Alike ⟨dst,.mapUpdate t m k x,ty,pos,after,gd⟩ R st st2->ev st2.t m=ev st.t m/\ev st2.t k=ev st.t k/\ev st2.t x=ev st.t x:=fun st2 ha=>⟨ha.t m (by simp[Op.operands]),ha.t k (by simp[Op.operands]),ha.t x (by simp[Op.operands])⟩;simp only[EO]at hf;split at hf
 .rename_i r hm;cases hf;unfold G7 at hk;rw[hm]at hk;simp only at hk;split at hk
  .rename_i sh BN hr;unfold JY at hk;split at hk
   .rename_i kt e h1;split at hk
    .rename_i sh' h2;split at hk
     .rename_i h3;split at hk
      .rename_i kx h4;split at hk
       .rename_i h5;refine⟨_,some (r,_),hk,fun r o' e=>(by simp_all),fun st2 G2 K' h'=>?_⟩;obtain⟨n1,n2,n3⟩:=hn st2 G2;simp only[FL,G7,n1,n2,n3,hm,G2.h r (Ai ..),hr,JY,h1,h2,h3,h4,h5];rw[Kz (h:=st.h) (h2:=st2.h) (fun r hr=>G2.h r (At _ hr))];exact h'
       simp_all
      simp_all
     simp_all
    simp_all
   simp_all
  .rename_i sh BN hr;unfold JY at hk;split at hk
   .rename_i kt e h1;split at hk
    .rename_i sh' h2;split at hk
     .rename_i h3;split at hk
      .rename_i kx h4;split at hk
       .rename_i h5;refine⟨_,some (r,_),hk,fun r o' e=>(by simp_all),fun st2 G2 K' h'=>?_⟩;obtain⟨n1,n2,n3⟩:=hn st2 G2;simp only[FL,G7,n1,n2,n3,hm,G2.h r (Ai ..),hr,JY,h1,h2,h3,h4,h5];exact h'
       simp_all
      simp_all
     simp_all
    simp_all
   simp_all
  simp_all
 simp_all
theorem cS{A B:(AV->Prop)->Prop}(ha:F4 A)(hb:F4 B):F4 fun K=>A K\/B K:=by
 intro K hk;rcases hk with hk | hk
 .obtain⟨v,h1,h2⟩:=ha K hk<;>grind
 .obtain⟨v,h1,h2⟩:=hb K hk<;>grind
theorem Sq{fn:Fn}{first cap:Array Operand}(hk:FL cx true ⟨dst,.makeFunc fn first cap,ty,pos,after,gd⟩ st K)(hf:EO cx ⟨dst,.makeFunc fn first cap,ty,pos,after,gd⟩ st=some (R,w)) :
  CH cx ⟨dst,.makeFunc fn first cap,ty,pos,after,gd⟩ st R w K:=by
 simp only[FL]at hk;simp only[EO]at hf;cases hf;unfold Kj at hk;split at hk
 .rename_i f h1;refine⟨_,none,hk,fun r o' e=>(by cases e),fun st2 G2 K' h'=>?_⟩;simp only[FL,h1,Kj]
  have:cap.toList.map (fun x=>rsv st2.h (ev st2.t x))=cap.toList.map (fun x=>rsv st.h (ev st.t x)):=Cd fun x hx=>by
   rw[G2.t x (by grind [Op.operands])];exact ly fun r hr=>G2.h r (YP (Ay.2 ⟨x,hx,rfl⟩) r hr)
  rw[this];exact h'
 simp_all
end
section
variable {cx:Cx}{dst:Option Nat}{ty:Nat}{pos:String}{after:Array Edge}{gd:Option (Nat×Bool)}{st:St}{R:List Nat}{w:Option Nat}{K:HK}
theorem ay{t:Nat}(hk:FL cx true ⟨dst,.load t p,ty,pos,after,gd⟩ st K)(hf:EO cx ⟨dst,.load t p,ty,pos,after,gd⟩ st=some (R,w)):CH cx ⟨dst,.load t p,ty,pos,after,gd⟩ st R w K:=by
 simp only[FL]at hk;have hn:∀st2,Alike ⟨dst,.load t p,ty,pos,after,gd⟩ R st st2->ev st2.t p=ev st.t p:=fun st2 ha=>ha.t p (by simp[Op.operands]);simp only[EO]at hf;unfold Jd at hk;split at hf
 .grind [Kv,FL,Jd,CH.pick]
 .grind [Kv,FL,Jd,List.mem_cons_self,CH.pick,Alike.h]
 .rename_i r n sz i off hp;cases hf;rw[hp]at hk;simp only at hk;split at hk
  all_goals grind [Kv,FL,Jd,CH.pick,Alike.h]
 simp_all
theorem Wi(hk:FL cx true ⟨dst,.assign x,ty,pos,after,gd⟩ st K)(hf:EO cx ⟨dst,.assign x,ty,pos,after,gd⟩ st=some (R,w)):CH cx ⟨dst,.assign x,ty,pos,after,gd⟩ st R w K:=by
 simp only[FL]at hk;have hn:∀st2,Alike ⟨dst,.assign x,ty,pos,after,gd⟩ R st st2->ev st2.t x=ev st.t x:=fun st2 ha=>ha.t x (by simp[Op.operands]);simp only[EO]at hf;split at hf
 .cases hf
 .rename_i hx;cases hf;have same:∃y,∀(h:Nat->HO) (K:HK),Oa cx dst h (ev st.t x) K↔K y h:=by
   unfold Oa;cases dst with
   |none=>exact⟨_,fun _ _=>Iff.rfl⟩
   |some d=>
    simp only;cases GO cx.pl.tok d with
    |some sz=>
     simp only;cases Nat.beq sz 0 with
     |true=>exact⟨_,fun _ _=>Iff.rfl⟩
     |false=>
      refine⟨ev st.t x,fun h K=>?_⟩;simp_all
    |none=>
     simp only;cases GO cx.pl.arr d with
     |some sz=>
      refine⟨ev st.t x,fun h K=>?_⟩;simp_all
     |none=>exact⟨_,fun _ _=>Iff.rfl⟩
  obtain⟨y,same⟩:=same;exact .pick (CA y) ((same _ _).1 hk) fun st2 ha K' h=>by grind [FL]
theorem Qt{t:Nat}{lo hi mx:Option Operand}(hp:RC cx.pl.tok dst=none)(hk:FL cx true ⟨dst,.slice t x lo hi mx,ty,pos,after,gd⟩ st K)(hf:EO cx ⟨dst,.slice t x lo hi mx,ty,pos,after,gd⟩ st=some (R,w)) :
  CH cx ⟨dst,.slice t x lo hi mx,ty,pos,after,gd⟩ st R w K:=by
 simp only[FL,hp]at hk;have hn:∀st2,Alike ⟨dst,.slice t x lo hi mx,ty,pos,after,gd⟩ R st st2->ev st2.t x=ev st.t x/\Ct st2.t lo=Ct st.t lo/\Ct st2.t hi=Ct st.t hi/\Ct st2.t mx=Ct st.t mx:=by
  grind [Option,Ct,Op.operands,Alike.t]
 simp only[EO,hp]at hf;split at hf
 .cases hf
 .rename_i hx;cases hf;have e3:Ct st.t none=some none:=rfl
  have N1:F4 (fun K1=>H2 cx dst st.h t (ev st.t x) (Ct st.t lo) (Ct st.t hi) (some none) fun v _=>K1 v) /\
    ∀(h:Nat->HO) (K:HK),H2 cx dst h t (ev st.t x) (Ct st.t lo) (Ct st.t hi) (some none) K↔H2 cx dst st.h t (ev st.t x) (Ct st.t lo) (Ct st.t hi) (some none) (fun v _=>K v h):=by
   generalize ev st.t x=X at hx;unfold H2;constructor
   .repeat' split
    all_goals first | exact B5 | exact Du (CA _) | exact Du (Du (CA _)) | skip
    all_goals first | (rename_i e;cases e;done) | skip
    all_goals (exfalso;exact hx _ _ rfl)
   .intro h K
    repeat' split
    all_goals simp_all
    all_goals simp_all
  grind [FL,CH.pick]
 .rename_i y tk es hx;obtain⟨d,rfl,e0⟩:=Ih hf;cases e0;rw[hx]at hk;unfold H2 at hk;split at hk
  .rename_i HQ N0 pQ e1 e2 e3;split at hk
   .simp_all
   .rename_i e he;split at hk
    .simp_all
    .rename_i k FM;simp only at hk;split at hk
     .grind [Ct]
     .rename_i m;split at hk
      .rename some d=some _=>e5
       cases e5
       split at hk
       .rename_i qN;refine⟨_,none,hk.2.2,fun r o' e=>(by cases e),fun st2 G2 K' h'=>?_⟩;obtain⟨n1,n2,n3,n4⟩:=hn st2 G2;simp only[FL,hp];rw[n1,n2,n3,n4,hx,e1,e2,e3];unfold H2;simp only[he];split
        .omega
        .simp only[qN];exact⟨hk.1,hk.2.1,h'⟩
       rename_i qN;split at hk
       .rename_i hd;refine⟨_,some (d,_),hk.2.2,fun r o' e=>(by simp_all),fun st2 G2 K' h'=>?_⟩;obtain⟨n1,n2,n3,n4⟩:=hn st2 G2;simp only[FL,hp];rw[n1,n2,n3,n4,hx,e1,e2,e3];unfold H2;simp only[he];split
        .omega
        .simp only[qN];rw[G2.h d (Ai ..),hd];exact⟨hk.1,hk.2.1,h'⟩
       simp_all
      simp_all
   simp_all
  simp_all
 simp_all
theorem eN{t:Nat}{lo hi mx:Option Operand}{p:Nat}(hp:RC cx.pl.tok dst=some p)(hk:FL cx true ⟨dst,.slice t x lo hi mx,ty,pos,after,gd⟩ st K)(hf:EO cx ⟨dst,.slice t x lo hi mx,ty,pos,after,gd⟩ st=some (R,w)) :
  Q5 cx ⟨dst,.slice t x lo hi mx,ty,pos,after,gd⟩ st R w K:=by
 simp only[FL,hp]at hk;simp only[EO,hp]at hf;obtain⟨d',r,n,hd,hx,e0⟩:=aw hf;cases e0;cases dst with
 |none=>cases hd
 |some d=>
 cases hd
 unfold Tg at hk;split at hk
 .rw[hx]at hk;unfold lg at hk;split at hk
  .rename_i d0 N0 e1 e2;cases e1;split at hk
   .rename_i e he;split at hk
    .simp_all
    .rename_i k FM;simp only at hk;split at hk
     .rename_i sz es hr;split at hk
      .rename_i hd;split at hk
       .rename_i q1 q3;obtain⟨h1,hk⟩:=hk;have hr8:r<10000000/\0<JW cx d:=by simp_all
        obtain⟨hr7,hz⟩:=hr8;refine⟨_,[(r,.dead),(JW cx d,_)],hk,fun r' o' e=>?_,fun st2 ha K' h'=>?_⟩
        .rcases AN.1 e with e | e
         .cases e
          refine⟨.inr (.inl ⟨by omega,.inl ?_⟩),Ai ..⟩;omega
         .obtain e:=A9.1 e;cases e;refine⟨.inr (.inl ⟨by omega,.inr ?_⟩),At _ (Ai ..)⟩;omega
        .have o1:Ct st2.t hi=Ct st.t hi:=by
          cases hi<;>grind [Ct,Op.operands,Alike.t]
         simp only[FL,hp];unfold Tg;rw[ha.t x (by simp[Op.operands]),o1,hx,e2];unfold lg;simp only[he];split
         .omega
         .simp only[ha.h r (Ai ..),hr,ha.h (JW cx d) (At _ (Ai ..)),hd,q1,q3];exact⟨h1,h'⟩
       simp_all
      simp_all
     simp_all
   simp_all
  simp_all
 simp_all
theorem Wh{s:Operand}{G0:Array TypeId}(hk:FL cx true ⟨dst,.call ⟨.builtin .append,#[s,x],G0⟩,ty,pos,after,gd⟩ st K)(hf:EO cx ⟨dst,.call ⟨.builtin .append,#[s,x],G0⟩,ty,pos,after,gd⟩ st=some (R,w)) :
  CH cx ⟨dst,.call ⟨.builtin .append,#[s,x],G0⟩,ty,pos,after,gd⟩ st R w K:=by
 have hk:FR cx dst st.h .append G0.toList [ev st.t s,ev st.t x] K:=hk;have hf:Wg cx dst (ev st.t s) (ev st.t x)=some (R,w):=hf;have hn:∀st2,Alike ⟨dst,.call ⟨.builtin .append,#[s,x],G0⟩,ty,pos,after,gd⟩ R st st2->ev st2.t s=ev st.t s/\ev st2.t x=ev st.t x:=fun st2 ha=>
  ⟨ha.t s (by simp[Op.operands,Call.operands]),ha.t x (by simp[Op.operands,Call.operands])⟩
 have Ja:∀st2,Alike ⟨dst,.call ⟨.builtin .append,#[s,x],G0⟩,ty,pos,after,gd⟩ R st st2->∀K' : HK,FR cx dst st2.h .append G0.toList [ev st.t s,ev st.t x] K'->FL cx true ⟨dst,.call ⟨.builtin .append,#[s,x],G0⟩,ty,pos,after,gd⟩ st2 K':=by
  intro st2 ha K' h;rw[<-(hn st2 ha).1,<-(hn st2 ha).2]at h;exact h
 generalize G0.toList=l at hk Ja
 match l,hk,Ja with
 | [t,t'],hk,Ja=>
  simp only[FR]at hk Ja;split at hk
  .rename_i ht;simp only[ht]at Ja;unfold II at hk Ja;split at hk
   .rename_i e he;simp only[he]at Ja;split at hk
    .simp_all
    .rename_i hz;simp only[hz]at Ja;split at hk
     .simp_all
     .rename_i k FM;obtain⟨es2,q1,q2⟩:=ai hk;have gT:∀d,R=d::fD (ev st.t x)->∀st2,Alike ⟨dst,.call ⟨.builtin .append,#[s,x],G0⟩,ty,pos,after,gd⟩ R st st2->∀r n,ev st.t x=.msl r n->st2.h r=st.h r:=fun d hR st2 ha r n e=>ha.h r (by rw[hR,e];simp[fD]);unfold Wg at hf;split at hf
      .rename_i hs;obtain⟨d,aF,e0⟩:=Ih hf;cases e0;rw[hs]at q1 Ja;simp only at q1 Ja;obtain⟨d',hd,v,y,q3,q4⟩:=H5 q1.2;rw[aF]at hd;cases hd;refine⟨v,some (d,y),q3,fun r o' e=>(by simp_all),fun st2 G2 K' h'=>Ja st2 G2 K' ?_⟩;split
       .omega
       .exact q2 st2.h (gT d rfl st2 G2) _ ⟨q1.1,q4 st2.h (G2.h d (Ai ..)) K' h'⟩
      .rename_i Ho es hs;obtain⟨d,aF,e0⟩:=Ih hf;cases e0;rw[hs]at q1 Ja;simp only at q1 Ja;split at q1
       .rename_i h1;obtain⟨d',hd,v,y,q3,q4⟩:=H5 q1.2;rw[aF]at hd;cases hd;refine⟨v,some (d,y),q3,fun r o' e=>(by simp_all),fun st2 G2 K' h'=>Ja st2 G2 K' ?_⟩;split
        .omega
        .refine q2 st2.h (gT d rfl st2 G2) _ ?_;simp only[h1];exact⟨q1.1,q4 st2.h (G2.h d (Ai ..)) K' h'⟩
       simp_all
      .rename_i r Ho es hs;cases hf;rw[hs]at q1 Ja;simp only at q1 Ja;split at q1
       .rename_i sz n hr;split at q1
        .rename_i h1 h2;refine⟨_,some (r,_),q1.2,fun r o' e=>(by simp_all),fun st2 G2 K' h'=>Ja st2 G2 K' ?_⟩;split
         .omega
         .refine q2 st2.h (gT r rfl st2 G2) _ ?_;simp only[G2.h r (Ai ..),hr,h1,h2];exact⟨q1.1,h'⟩
        simp_all
       simp_all
      .rename_i r n hs;cases hf;rw[hs]at q1 Ja;simp only at q1 Ja;split at q1
       .rename_i sz es hr;split at q1
        .rename_i h1;refine⟨_,some (r,_),q1.2,fun r o' e=>(by simp_all),fun st2 G2 K' h'=>Ja st2 G2 K' ?_⟩;split
         .omega
         .refine q2 st2.h (gT r rfl st2 G2) _ ?_;simp only[G2.h r (Ai ..),hr,h1];exact⟨q1.1,h'⟩
        simp_all
       simp_all
      simp_all
   simp_all
  simp_all
 | [],hk,_=>exact hk.elim
 | [_],hk,_=>exact hk.elim
 |_::_::_::_,hk,_=>exact hk.elim
theorem PR(t:Nat):F4 (J0 T t):=by
 unfold J0
 repeat' split
 all_goals first | exact B5 | exact CA _
theorem Td(ty:Nat)(ok:Bool)(BN:List (Value×AV))(kx:Value):F4 (LK T ty ok BN kx):=by
 unfold LK
 repeat' split
 .refine cS (OY fun a=>Du (CA _)) (Du ?_);intro K hk;obtain⟨v,h1,h2⟩:=PR T _ _ hk<;>grind [PR]
 .exact cS (OY fun a=>Du (CA _)) (Du (PR T _))
 .exact B5
theorem Y8(ty:Nat)(sh:EE)(k:AV){F:Value->(AV->Prop)->Prop}(h:∀x,F4 (F x)):F4 fun K=>JY T ty sh k fun kx=>F kx K:=by
 unfold JY
 repeat' split
 all_goals grind [B5]
theorem Wj{t:Nat}{m k:Operand}{ok:Bool}(hk:FL cx true ⟨dst,.lookup t m k ok,ty,pos,after,gd⟩ st K)(hf:EO cx ⟨dst,.lookup t m k ok,ty,pos,after,gd⟩ st=some (R,w)) :
  CH cx ⟨dst,.lookup t m k ok,ty,pos,after,gd⟩ st R w K:=by
 simp only[FL]at hk;have hn:∀st2,Alike ⟨dst,.lookup t m k ok,ty,pos,after,gd⟩ R st st2->ev st2.t m=ev st.t m/\ev st2.t k=ev st.t k:=fun st2 ha=>⟨ha.t m (by simp[Op.operands]),ha.t k (by simp[Op.operands])⟩;simp only[EO]at hf;unfold MC at hk;split at hf
 .rename_i sh BN hm;cases hf;rw[hm]at hk;simp only at hk;exact .pick (Y8 _ _ _ _ fun _=>Td _ _ _ _ _) hk fun st2 ha K' h=>by grind [FL,MC]
 .rename_i r hm;cases hf;rw[hm]at hk;simp only at hk;split at hk
  all_goals first | exact hk.elim | (rename_i e;exact .pick (Y8 _ _ _ _ fun _=>Td _ _ _ _ _) hk fun st2 ha K' h=>by grind [FL,MC,Alike.h])
 simp_all
theorem kZ(t:Nat)(h:Nat->HO)(x:AV):F4 (Qz T t h x):=by
 unfold Qz
 repeat' split
 all_goals first | exact B5 | exact CA _
theorem rL{T:GB}{t:Nat}{h h2:Nat->HO}{x:AV}(e:∀r,x=.mref r->h2 r=h r){K:AV->Prop}:Qz T t h2 x K=Qz T t h x K:=by
 cases x<;>first | rfl | skip
 grind [Qz]
theorem eM{G0:Array TypeId}(hk:FL cx true ⟨dst,.call ⟨.builtin .len,#[x],G0⟩,ty,pos,after,gd⟩ st K)(hf:EO cx ⟨dst,.call ⟨.builtin .len,#[x],G0⟩,ty,pos,after,gd⟩ st=some (R,w)) :
  CH cx ⟨dst,.call ⟨.builtin .len,#[x],G0⟩,ty,pos,after,gd⟩ st R w K:=by
 have hk:FR cx dst st.h .len G0.toList [ev st.t x] K:=hk;have hf:GV cx dst (.builtin .len) st.t [ev st.t x]=some (R,w):=hf;have hn:∀st2,Alike ⟨dst,.call ⟨.builtin .len,#[x],G0⟩,ty,pos,after,gd⟩ R st st2->ev st2.t x=ev st.t x:=fun st2 ha=>ha.t x (by simp[Op.operands,Call.operands]);have Ja:∀st2,Alike ⟨dst,.call ⟨.builtin .len,#[x],G0⟩,ty,pos,after,gd⟩ R st st2->∀K' : HK,FR cx dst st2.h .len G0.toList [ev st.t x] K'->FL cx true ⟨dst,.call ⟨.builtin .len,#[x],G0⟩,ty,pos,after,gd⟩ st2 K':=by
  intro st2 ha K' h;rw[<-hn st2 ha]at h;exact h
 generalize G0.toList=l at hk Ja
 match l,hk,Ja with
 | [t],hk,Ja=>
  grind [GV,kZ,FR,rL,CH.pick,Alike.h]
 | [],hk,_=>exact hk.elim
 |_::_::_,hk,_=>exact hk.elim
end
theorem ox(h:Is l n=true):n∈l:=by
 induction l<;>grind [Is,Ds]
theorem XY(G:Nat->HO):∀(σ:JT) (h:Nat->HO),D3 σ=true->(fun i=>match Cp σ i with | some j=>G j | none=>h i)=HU h (σ.map fun p=>(p.1,G p.2))
 | [],h,_=>rfl
 |(i,j)::r,h,hσ=>by
  unfold D3 at hσ;simp only[Au]at hσ;have ih:=XY G r (AJ h i (G j)) hσ.2
  grind [HU,AJ,Cp,Ds]
theorem Ut(hσ:D3 σ=true){h h' : Nat->HO}:EF σ d 0 h h'=HU h (σ.map fun p=>(p.1,(h' p.2).ren (FD σ d 0) h')):=by
 rw[<-XY (fun j=>(h' j).ren (FD σ d 0) h') σ h hσ]
 grind [EF,Nat.blt,Nat.ble_eq]
section
variable {cx:Cx}{op:Op}{dst:Option Nat}{ty:Nat}{pos:String}{after:Array Edge}{gd:Option (Nat×Bool)}{st:St}{R:List Nat}{w:Option Nat}{K:HK}
theorem CH.toL(h:CH cx ⟨dst,op,ty,pos,after,gd⟩ st R w K):Q5 cx ⟨dst,op,ty,pos,after,gd⟩ st R w K:=by
 obtain⟨v,e,h1,h2,h3⟩:=h;cases e with
 |none=>exact⟨v,[],h1,fun r o' e=>(by cases e),h3⟩
 |some p=>exact⟨v,[p],h1,fun r o' e=>by
   obtain rfl:=A9.1 e;obtain⟨a,b⟩:=h2 r o' rfl;exact⟨by rw[a];exact .inl rfl,b⟩,h3⟩
theorem ax{c:Call}(hk:FL cx true ⟨dst,.call c,ty,pos,after,gd⟩ st K)(hf:EO cx ⟨dst,.call c,ty,pos,after,gd⟩ st=some (R,w)):Q5 cx ⟨dst,.call c,ty,pos,after,gd⟩ st R w K:=by
 obtain⟨ss,args,G0⟩:=c;have Lc:∀st2,Alike ⟨dst,.call ⟨ss,args,G0⟩,ty,pos,after,gd⟩ R st st2->args.toList.map (ev st2.t)=args.toList.map (ev st.t):=fun st2 ha=>
  Cd fun x hx=>ha.t x (by grind [Op.operands,Call.operands])
 cases ss with
 |invoke r m=>exact hk.elim
 |value f=>
  have hk:Gt cx true dst st (ev st.t f) (args.toList.map (ev st.t)) K:=hk;have hf:GV cx dst (.value f) st.t (args.toList.map (ev st.t))=some (R,w):=hf;unfold GV at hf;unfold Gt at hk;simp only at hf hk;have hn:=Lc;split at hf
  .rename_i cw;rw[cw]at hk;cases hf;obtain⟨Gz,h1,h2⟩:=hk;refine CH.toL ⟨Gz,none,h2,fun r o' e=>(by cases e),fun st2 ha K' h'=>?_⟩;show Gt cx true dst st2 (ev st2.t f) (args.toList.map (ev st2.t)) K';rw[Lc st2 ha,ha.t f (by simp[Op.operands,Call.operands])];unfold Gt;simp only[cw];refine⟨Gz,?_,h'⟩
   grind [Kz,Qc,Alike.h]
  .rename_i cw;rw[cw]at hk;simp only at hk;cases dst with
   |none=>simp_all
   |some d=>
    obtain⟨n,sz,es,h1,h2,h3⟩:=hk;have hf:some (BG d 0::(Yn (ev st.t f)++SE (args.toList.map (ev st.t))),some (BG d 0))=some (R,w):=hf;cases hf;refine CH.toL ⟨_,some (BG d 0,_),h3,fun r o' e=>(by simp_all),fun st2 ha K' h'=>?_⟩;show Gt cx true (some d) st2 (ev st2.t f) (args.toList.map (ev st2.t)) K';rw[Lc st2 ha,ha.t f (by simp[Op.operands,Call.operands])];unfold Gt;simp only[cw];refine⟨n,sz,es,?_,?_,h'⟩
    all_goals grind [DO,Kz,Qc,Alike.h]
  .rename_i cw;rw[cw]at hk;have hk:QS cx 0 dst st.h (ev st.t f) (args.toList.map (ev st.t)) K:=hk;split at hf
   .rename_i r n l hl;cases hf;have N1:=hk;unfold QS at N1;rw[hl]at N1;split at N1
    .rename_i d0 f0 r0 n0 l0 e1 e2 z1 z2;cases e2;split at N1
     .rename_i vs cD;split at N1
      .rename_i sz es hr;obtain⟨n',F6,h1,h2⟩:=N1;refine CH.toL ⟨_,some (r,_),h2,fun r o' e=>(by simp_all),fun st2 ha K' h'=>?_⟩;show Gt cx true _ st2 (ev st2.t f) (args.toList.map (ev st2.t)) K';rw[Lc st2 ha,ha.t f (by simp[Op.operands,Call.operands]),hl,e1];unfold Gt;simp only[cw];unfold QL;simp only;unfold QS;simp only[cD,ha.h r (Ai ..),hr];exact⟨n',F6,h1,h'⟩
      simp_all
     simp_all
    simp_all
   simp_all
  .rename_i k cw;rw[cw]at hk;cases hb:Nat.beq k 1 with
   |true=>
    have qP:Nat.beq (k+1) 2=true:=hb;have hk:W6 cx dst st (ev st.t f) (args.toList.map (ev st.t)) K:=by
     simp_all
    rw[hb]at hf;cases dst with
    |none=>exact hk.elim
    |some d=>
     obtain⟨sz,es,h1,h2,h3⟩:=hk;have hf:some (BG d 0::(Yn (ev st.t f)++SE (args.toList.map (ev st.t))),some (BG d 0))=some (R,w):=hf;cases hf;refine CH.toL ⟨_,some (BG d 0,_),h3,fun r o' e=>(by simp_all),fun st2 ha K' h'=>?_⟩;show Gt cx true (some d) st2 (ev st2.t f) (args.toList.map (ev st2.t)) K';rw[Lc st2 ha,ha.t f (by simp[Op.operands,Call.operands])];unfold Gt;simp only[cw,qP];refine⟨sz,es,?_,?_,h'⟩
     all_goals grind [DO,Kz,Qc,Alike.h]
   |false=>
    have qP:Nat.beq (k+1) 2=false:=hb;rw[hb]at hf;have N1:(match Nat.beq (k+1) 2 with | true=>W6 cx dst st (ev st.t f) (args.toList.map (ev st.t)) K | false=>match Nat.beq (k+1) 3 with | true=>TN cx dst st (ev st.t f) (args.toList.map (ev st.t)) K | false=>QL cx (k+1) dst st (ev st.t f) (args.toList.map (ev st.t)) K):=hk;rw[qP]at N1;cases hc:Nat.beq k 2 with
    |true=>
     have OC:Nat.beq (k+1) 3=true:=hc;rw[hc]at hf;simp only[OC]at N1;have hf:jf (args.toList.map (ev st.t))=some (R,w):=hf;unfold jf at hf;unfold TN at N1;split at hf
     .rename_i vs cD;cases hf;split at N1
      .rename_i l gX e1 e2 z1 z2;rw[cD]at e2;cases e2;split at N1
       .rename_i r sz es dh n e3 e4;obtain⟨⟨rfl,rfl⟩,v,F6,n',h1,h2⟩:=N1;refine⟨_,[(1001,_),(1000,_)],h2,fun r' o' e=>?_,fun st2 ha K' h'=>?_⟩
        .rcases AN.1 e with e | e
         .cases e
          exact⟨.inr (.inl ⟨by decide,.inr aa2⟩),by simp⟩
         .obtain e:=A9.1 e;cases e;exact⟨.inr (.inl ⟨by decide,.inl aa2⟩),by simp⟩
        show Gt cx true _ st2 (ev st2.t f) (args.toList.map (ev st2.t)) K';rw[Lc st2 ha,ha.t f (by simp[Op.operands,Call.operands]),e1];unfold Gt;simp only[cw,qP,OC];unfold TN;simp only[cD,ha.h 1000 aa1,ha.h 1001 aa1,e3,e4];exact⟨⟨trivial,trivial⟩,v,F6,n',h1,h'⟩
       simp_all
      simp_all
     simp_all
    |false=>
    have OC:Nat.beq (k+1) 3=false:=hc;rw[hc]at hf;have T0:QL cx (k+1) dst st (ev st.t f) (args.toList.map (ev st.t)) K:=by
     simp_all
    have qT:jd k dst (args.toList.map (ev st.t))=some (R,w):=hf;unfold jd at qT;unfold QL at T0;cases he:Nat.beq k 3 with
    |true=>
     have lZ:Nat.beq (k+1) 4=true:=he;rw[he]at qT;rw[lZ]at T0;have qT:some (nt,some VO)=some (R,w):=qT;have T0:Ya cx dst st (ev st.t f) (args.toList.map (ev st.t)) K:=T0;cases qT;unfold Ya at T0;split at T0
     .rename_i d f' caps e2 _ _ _;obtain⟨σ,H0,Hn,args',Gz,g1,g2,g3,g4⟩:=T0;simp only[Au]at g2;refine⟨_,σ.map fun p=>(p.1,(Ar Hn Af p.2).ren (FD σ d 0) (Ar Hn Af)),(Ut (h:=st.h) (h':=Ar Hn Af) (d:=d) g2.1.1)▸g4,fun r' o' e=>?_,fun st2 ha K' h'=>?_⟩
      .obtain⟨p,hp,e⟩:=Ay.1 e;cases e;exact⟨.inr (.inr rfl),ox (BI.1 g2.2 p hp)⟩
      .show Gt cx true _ st2 (ev st2.t f) (args.toList.map (ev st2.t)) K';rw[Lc st2 ha,ha.t f (by simp[Op.operands,Call.operands])];unfold Gt;simp only[cw,qP,OC];unfold QL;simp only[lZ];unfold Ya
       grind [Ut,Alike.h]
     simp_all
    |false=>
    have lZ:Nat.beq (k+1) 4=false:=he;rw[he]at qT;rw[lZ]at T0;have hf:ci dst (args.toList.map (ev st.t))=some (R,w):=qT;have hk:QS cx (k+1) dst st.h (ev st.t f) (args.toList.map (ev st.t)) K:=T0;obtain⟨d,r,n,l,rfl,hl,e0⟩:=au hf;cases e0;unfold QS at hk;rw[hl]at hk;split at hk
    .rename_i d0 f0 r0 n0 l0 e9 e1 e2;cases e9;cases e2;split at hk
     .rename_i vs cD;split at hk
      .rename_i sz es hr;obtain⟨n',F6,h0,h1,h2⟩:=hk;have h00:=h0;simp only[Au,Ia]at h00;refine⟨_,[(r,.dead),(BG d 0,_)],h2,fun r' o' e=>?_,fun st2 ha K' h'=>?_⟩
       .rcases AN.1 e with e | e
        .cases e
         refine⟨.inr (.inl ⟨by grind [BG],.inl ?_⟩),Ai ..⟩;omega
        .obtain e:=A9.1 e;cases e;refine⟨.inr (.inl ⟨by grind [BG],.inr ?_⟩),At _ (Ai ..)⟩;omega
       show Gt cx true _ st2 (ev st2.t f) (args.toList.map (ev st2.t)) K';rw[Lc st2 ha,ha.t f (by simp[Op.operands,Call.operands]),hl,e1];unfold Gt;simp only[cw,qP,OC];unfold QL;simp only[lZ];unfold QS;simp only[cD,ha.h r (Ai ..),hr]
       have:DO st2.h d 1=DO st.h d 1:=by grind [DO,Alike.h]
       exact⟨n',F6,by simp_all,h1,h'⟩
      simp_all
     simp_all
    simp_all
 |builtin b=>
  refine CH.toL ?_;have mm:∀f:Int->Int->Int,(∀(d:Option Nat) (h:Nat->HO) (G0:List Nat) (args:List AV) (K:HK),FR cx d h b G0 args K=(match args with | [x,y]=>oz f x y fun v=>K v h | _=>False))->R=[]/\w=none->CH cx ⟨dst,.call ⟨.builtin b,args,G0⟩,ty,pos,after,gd⟩ st R w K:=by
   rintro f hb ⟨rfl,rfl⟩
   have hk:FR cx dst st.h b G0.toList (args.toList.map (ev st.t)) K:=hk;rw[hb]at hk;split at hk
   .rename_i x y e;refine .pick (oJ f x y) hk fun st2 ha K' h=>?_;show FR cx dst st2.h b G0.toList (args.toList.map (ev st2.t)) K';simp_all
   simp_all
  cases b
  case max=>exact mm max (fun d h G0 args K=>by cases args with | nil=>rfl | cons x l=>cases l with | nil=>rfl | cons y l=>cases l<;>rfl) (by
   have hf:GV cx dst (.builtin .max) st.t (args.toList.map (ev st.t))=some (R,w):=hf
   grind [GV])
  case min=>exact mm min (fun d h G0 args K=>by cases args with | nil=>rfl | cons x l=>cases l with | nil=>rfl | cons y l=>cases l<;>rfl) (by
   have hf:GV cx dst (.builtin .min) st.t (args.toList.map (ev st.t))=some (R,w):=hf
   grind [GV])
  case append=>
   obtain⟨l⟩:=args
   match l,hk,hf with
   | [s,x],hk,hf=>grind [Wh]
   | [],hk,hf=>cases G0;exact hk.elim
   | [_],hk,hf=>exact hk.elim
   |_::_::_::_,hk,hf=>exact hk.elim
  case len=>
   obtain⟨l⟩:=args
   match l,hk,hf with
   | [x],hk,hf=>grind [eM]
   | [],hk,hf=>exact hk.elim
   |_::_::_,hk,hf=>exact hk.elim
  all_goals exact hk.elim
theorem ZL(hc:∀c,o.op≠.call c)(hs:(∃t x lo hi mx,o.op=.slice t x lo hi mx)->RC cx.pl.tok o.dst=none)(hk:FL cx true o st K)(hf:EO cx o st=some (R,w)):CH cx o st R w K:=by
 obtain⟨dst,op,ty,pos,after,gd⟩:=o;cases op with
 |call c=>simp_all
 |alloc e=>grind [X7]
 |box e x=>grind [eK]
 |buildSlice t n ps=>grind [Py]
 |makeSlice t n c=>grind [QV]
 |makeMap t r=>grind [TX]
 |store t p x=>grind [X8]
 |mapUpdate t m k x=>grind [QW]
 |makeFunc fn first cap=>grind [Sq]
 |load t p=>grind [ay]
 |assign x=>grind [Wi]
 |slice t x lo hi mx=>grind [Qt]
 |lookup t x i ok=>grind [Wj]
 |move x=>
  cases hf
  exact .pick (CA _) hk fun st2 ha K' h=>by grind [FL,Op.operands,Alike.t]
 |pick c a b=>
  cases hf
  exact .pick (fX _ _ _) hk fun st2 ha K' h=>by grind [FL,Op.operands,Alike.t]
 |nilCheck x=>
  grind [la,FL,Op.operands,CH.pick,Alike.t]
 |binOp op t x y u=>
  simp only[EO]at hf;split at hf
  .cases hf
  .rename_i hx;cases hf;exact .pick (fV _ _ _ _ _ _ hx) hk fun st2 ha K' h=>by grind [FL,Op.operands,Alike.t]
 |unOp op t x=>
  grind [fY,FL,Op.operands,CH.pick,Alike.t]
 |convert s t x=>
  grind [fW,FL,Op.operands,CH.pick,Alike.t]
 |fieldAddr s x f=>
  grind [bt,FL,Op.operands,CH.pick,Alike.t]
 |field s x f=>
  grind [Y7,FL,Op.operands,CH.pick,Alike.t]
 |indexAddr t x i=>
  cases hf
  exact .pick (Te _ _ _ _) hk fun st2 ha K' h=>by grind [FL,Op.operands,Alike.t]
 |index t x i=>
  cases hf
  exact .pick (bu _ _ _ _) hk fun st2 ha K' h=>by grind [FL,Op.operands,Alike.t]
 |extract x i=>
  grind [WT,FL,Op.operands,CH.pick,Alike.t]
 |build t ps=>
  cases hf
  refine .pick (br _ _ _ _) hk fun st2 ha K' h=>?_;have hx:∀p∈ps.toList,ev st2.t p.2=ev st.t p.2:=fun p hp=>ha.t p.2 (by
   grind [Op.operands])
  simp only[FL];have fill:∀(pl:Nat->Option (Nat×Nat)) (l:List (Nat×Operand)) (cs:List AV) (K:List AV->Prop),(∀p∈l,ev st2.t p.2=ev st.t p.2)->Kd pl cs st2.t l K=Kd pl cs st.t l K:=by
   intro pl l
   induction l with
   |nil=>intro cs K _;rfl
   |cons p l ih=>
    intro cs K hp;obtain⟨i,x⟩:=p;have h1:ev st2.t x=ev st.t x:=hp (i,x) (Ai ..);have h2:∀cs,Kd pl cs st2.t l K=Kd pl cs st.t l K:=fun cs=>ih cs K (fun p rh=>hp p (At _ rh));simp only[Kd,h1,h2]
  unfold Pm at h⊢;simp only[fill _ _ _ _ hx];exact h
 |_=>cases hf
theorem dy(hk:FL cx true o st K)(hf:EO cx o st=some (R,w)):Q5 cx o st R w K:=by
 obtain⟨dst,op,ty,pos,after,gd⟩:=o
 by_cases h:∃c,op=.call c
 .grind [ax]
 .by_cases h2:∃t x lo hi mx,op=.slice t x lo hi mx
  .obtain⟨t,x,lo,hi,mx,rfl⟩:=h2;cases hp:RC cx.pl.tok dst<;>grind [CH.toL,Qt,eN]
  grind [CH.toL,ZL]
end
theorem eJ(h:∀x∈o.op.operands,ev st2.t x=ev st.t x):EO cx o st2=EO cx o st:=by
 obtain⟨dst,op,ty,pos,after,gd⟩:=o;cases op with
 |call c=>
  obtain⟨ss,args,G0⟩:=c;have ha:args.toList.map (ev st2.t)=args.toList.map (ev st.t):=Cd fun x hx=>h x (by grind [Op.operands,Call.operands]);simp only[EO];rw[ha];cases ss with
  |value f=>
   have hf:ev st2.t f=ev st.t f:=h f (by simp[Op.operands,Call.operands]);simp only[GV,hf]
  |builtin b=>
   generalize args.toList.map (ev st.t)=l
   match l with
   | []=>cases b<;>rfl
   | [x]=>cases b<;>cases x<;>rfl
   | [x,y]=>cases b<;>cases x<;>rfl
   |x::_::_::_=>cases b<;>cases x<;>rfl
  |invoke r m=>rfl
 |box e x=>grind [EO,Op.operands]
 |buildSlice t n ps=>
  grind [List.map_congr_left,Op.operands,EO]
 |store t p x=>grind [EO,Op.operands]
 |mapUpdate t m k x=>grind [EO,Op.operands]
 |makeFunc fn first cap=>
  grind [List.map_congr_left,Op.operands,EO]
 |load t p=>grind [EO,Op.operands]
 |assign x=>grind [EO,Op.operands]
 |binOp op t x y u=>grind [EO,Op.operands]
 |slice t x lo hi mx=>grind [EO,Op.operands]
 |lookup t x i ok=>grind [EO,Op.operands]
 |_=>rfl
def Looks(o:Oper)(st st2:St):Prop:=∀d∈o.looksAt ops,st2.t d=st.t d
theorem Looks.operands{ops:Array Oper}{o:Oper}{st st2:St}(h:Looks ops o st st2):∀x∈o.op.operands,ev st2.t x=ev st.t x:=fun x hx=>by
 cases x with
 |tmp t=>exact h t (Bh _ (List.mem_filterMap.2 ⟨.tmp t,by simp_all,rfl⟩))
 |_=>rfl
theorem Va(j:Nat):KR ops.toList j=(ops[j]?).bind (·.dst):=by
 have:∀(l:List Oper) (j:Nat),KR l j=(l[j]?).bind (·.dst):=by
  intro l
  induction l with
  |nil=>grind [KR]
  |cons o l ih=>
   intro j;cases j<;>grind [KR]
 simp_all
theorem Looks.guard{ops:Array Oper}(h:Looks ops o st st2){j:Nat}{b:Bool}(hg:o.guard=some (j,b))(hd:KR ops.toList j=some d):st2.t d=st.t d:=
 h d (Bj _ (by grind [Va]))
def St.after(st:St)(o:Oper)(v:AV)(e:List (Nat×HO)):St:=st.put o.dst v (HU st.h e)
def Pi(cx:Cx)(ops:Array Oper)(o:Oper)(st:St)(f:Fm)(v:AV)(e:List (Nat×HO)):Prop:=
 (∀r o',(r,o')∈e->Rr f.2 r/\r∈f.1)/\∀st2,Looks ops o st st2->(∀r∈f.1,st2.h r=st.h r)->∀K:St->Prop,K (st2.after o v e)->Ix cx true ops.toList o st2 K
theorem So{ops:Array Oper}(h:Looks ops o st st2):M7 cx ops.toList o st2=M7 cx ops.toList o st:=by
 grind [M7,eJ,Looks.operands,Looks.guard]
theorem N9{ops:Array Oper}(hk:Ix cx true ops.toList o st K)(hf:M7 cx ops.toList o st=some f) :
  ∃v e,Pi cx ops o st f v e/\K (st.after o v e):=by
 obtain⟨R,w⟩:=f;have skip:R=[]/\w=none->K (st.put o.dst (.v undef) st.h)->(∀st2,Looks ops o st st2->∀K:St->Prop,K (st2.put o.dst (.v undef) st2.h)->Ix cx true ops.toList o st2 K)->∃v e,Pi cx ops o st (R,w) v e/\K (st.after o v e):=by
  rintro⟨rfl,rfl⟩ h1 h2
  exact⟨.v undef,[],⟨fun r o' e=>(by cases e),fun st2 hl _ K h=>h2 st2 hl K h⟩,h1⟩
 have run:EO cx o st=some (R,w)->FL cx true o st (fun v h=>K (st.put o.dst v h))->(∀st2,Looks ops o st st2->∀K:St->Prop,FL cx true o st2 (fun v h=>K (st2.put o.dst v h))->Ix cx true ops.toList o st2 K)->∃v e,Pi cx ops o st (R,w) v e/\K (st.after o v e):=by
  intro hf hk h2;obtain⟨v,e,q1,q2,q3⟩:=dy hk hf;exact⟨v,e,⟨q2,fun st2 hl hh K h=>h2 st2 hl K (q3 st2 ⟨hl.operands,hh⟩ _ h)⟩,q1⟩
 unfold Ix at hk;unfold M7 at hf;cases hg:o.guard with
 |none=>
  rw[hg]at hk hf;exact run hf hk (fun st2 hl K h=>by unfold Ix;rw[hg];exact h)
 |some p=>
  obtain⟨j,want⟩:=p;rw[hg]at hk hf;simp only at hk hf;cases hd:KR ops.toList j with
  |none=>simp_all
  |some d=>
   rw[hd]at hk hf;simp only at hk hf;have he:∀st2,Looks ops o st st2->st2.t d=st.t d:=fun st2 hl=>hl.guard hg hd;generalize hx:st.t d=x at hk hf he;split at hk
   .exact run hf hk (fun st2 hl K h=>by unfold Ix;simp only[hg,hd,he st2 hl];exact h)
   .exact run hf hk (fun st2 hl K h=>by unfold Ix;simp only[hg,hd,he st2 hl];exact h)
   all_goals grind [Ix]
def sZ(cx:Cx)(ops:Array Oper)(FT:Nat->Fm)(i:Nat)(K:St->Prop)(st:St):Prop:=
 match ops[i]? with
 |none=>K st
 |some o=>M7 cx ops.toList o st=some (FT i)/\Ix cx true ops.toList o st K
def Xv(cx:Cx)(ops:Array Oper)(FT:Nat->Fm)(K:St->Prop):Nat->Array Bool->St->Prop
 |0,listed,st=>Region.ready .any ops listed=[]/\K st
 |fuel+1,listed,st=>
  (Region.ready .any ops listed=[]->K st)/\∀i∈Region.ready .any ops listed,sZ cx ops FT i (Xv cx ops FT K fuel (listed.setIfInBounds i true)) st
theorem gL(t:Nat->AV)(h:d'≠d)(v v' : AV):Jp (Jp t d v) d' v'=Jp (Jp t d' v') d v:=by
 grind [Jp,Ds]
theorem fc(t:Nat->HO)(h:d'≠d)(v v' : HO):AJ (AJ t d v) d' v'=AJ (AJ t d' v') d v:=by
 grind [AJ,Ds]
theorem YO(h:n∈l):Is l n=true:=by
 induction l<;>grind [Is,Nat.beq_refl]
theorem YR(h:Is l n=true):n∈l:=by
 induction l<;>grind [Is,Ds]
theorem Y0{x:Nat}(h:YZ l x=true):∀r,Rr (some x) r->r∉l:=by
 intro r hc hr;unfold YZ at h
 by_cases hx:x=VO
 .subst hx;rw[Nat.beq_refl,cond_true]at h;cases l with
  |nil=>cases hr
  |cons a l=>cases h
 rw[Ds hx,GE]at h;simp only[Au,Gp,J3,Ia]at h;rcases hc with rfl | ⟨h1,h2⟩ | hc<;>grind [YO]
theorem d6{a b:Fm}(h:RV a b=true):(∀r,Rr a.2 r->r∉b.1)/\∀r,Rr b.2 r->r∉a.1:=by
 obtain⟨a1,a2⟩:=a;obtain⟨b1,b2⟩:=b;simp only[RV,Au]at h;refine⟨fun r e=>?_,fun r e=>?_⟩
 .cases a2 with
  |none=>exact e.elim
  |some x=>grind [Y0]
 .cases b2 with
  |none=>exact e.elim
  |some x=>grind [Y0]
section
variable {cx:Cx}{ops:Array Oper}{FT:Nat->Fm}
theorem QB{oi oj:Oper}(h:∀d,oi.dst=some d->d∉oj.looksAt ops)(st:St)(v:AV)(e:List (Nat×HO)):Looks ops oj st (st.after oi v e):=by
 intro d hd;cases hdst:oi.dst with
 |none=>grind [St.after,St.put]
 |some d'=>
  have:d≠d':=fun q=>h d' hdst (q▸hd)
  simp[St.after,St.put,hdst,Jp,Ds this]
theorem Looks.symm{o:Oper}{st st2:St}(h:Looks ops o st st2):Looks ops o st2 st:=fun d hd=>(h d hd).symm
theorem cq{o:Oper}{v:AV}{e:List (Nat×HO)}:(st.after o v e).h=HU st.h e:=by
 unfold St.after St.put;grind
theorem Pu{r:Nat}:∀{e:List (Nat×HO)} {h:Nat->HO},(∀o',(r,o')∉e)->HU h e r=h r
 | [],_,_=>rfl
 |p::e,h,hr=>by
  have:r≠p.1:=fun q=>hr p.2 (by simp_all)
  show HU (AJ h p.1 p.2) e r=h r;rw[Pu fun o' ho=>hr o' (At _ ho),BK _ _ _ _ this]
theorem XZ{r:Nat}{o:HO}:∀{e:List (Nat×HO)} {h:Nat->HO},(∀r' o',(r',o')∈e->r'≠r)->HU (AJ h r o) e=AJ (HU h e) r o
 | [],_,_=>rfl
 |p::e,h,hr=>by
  show HU (AJ (AJ h r o) p.1 p.2) e=AJ (HU (AJ h p.1 p.2) e) r o;rw[fc h (hr p.1 p.2 (Ai ..)),XZ fun r' o' ho=>hr r' o' (At _ ho)]
theorem UF:∀{e e' : List (Nat×HO)} {h:Nat->HO},(∀r o r' o',(r,o)∈e->(r',o')∈e'->r'≠r)->HU (HU h e) e'=HU (HU h e') e
 | [],_,_,_=>rfl
 |p::e,e',h,hd=>by
  show HU (HU (AJ h p.1 p.2) e) e'=HU (AJ (HU h e') p.1 p.2) e;rw[<-XZ fun r' o' ho=>hd p.1 p.2 r' o' (Ai ..) ho,UF fun r o r' o' h1 h2=>hd r o r' o' (At _ h1) h2]
theorem ZK{oi oj:Oper}{v v' : AV}{e e' : List (Nat×HO)}(h1:∀d,oi.dst=some d->oj.dst≠some d)(h2:∀r o r' o',(r,o)∈e->(r',o')∈e'->r'≠r) :
  (st.after oi v e).after oj v' e'=(st.after oj v' e').after oi v e:=by
 have hh:HU (HU st.h e) e'=HU (HU st.h e') e:=UF h2;have key:∀o:Oper,∀v e,∀st:St,st.after o v e=⟨match o.dst with | none=>st.t | some d=>Jp st.t d v,HU st.h e⟩:=fun o v e st=>by
  grind [St.after,St.put]
 grind [gL]
theorem ZJ{i:Nat}{oi:Oper}{v:AV}{e:List (Nat×HO)}(hi:ops[i]?=some oi)(D:Nat->Prop)(hD:∀j,D j->∃oj,ops[j]?=some oj/\∃ed∈oj.after,Region.binds .any ed=true/\(ed.on=i\/D ed.on)) :
  ∀(fuel:Nat) (listed:Array Bool) (st:St),
   (∀j oj,ops[j]?=some oj->j≠i->listed.getD j true=false->¬D j->oi.apart ops oj=true/\RV (FT i) (FT j)=true) ->
   i∈Region.ready .any ops listed->(∀j,D j->listed.getD j true=false)->M7 cx ops.toList oi st=some (FT i)->Pi cx ops oi st (FT i) v e ->
   Xv cx ops FT K fuel (listed.setIfInBounds i true) (st.after oi v e)->Xv cx ops FT K (fuel+1) listed st:=by
 have here:∀(fuel:Nat) (listed:Array Bool) (st:St),M7 cx ops.toList oi st=some (FT i)->Pi cx ops oi st (FT i) v e ->
   Xv cx ops FT K fuel (listed.setIfInBounds i true) (st.after oi v e)->sZ cx ops FT i (Xv cx ops FT K fuel (listed.setIfInBounds i true)) st:=by
  intro fuel listed st hf hy H;unfold sZ;rw[hi];exact⟨hf,hy.2 st (fun _ _=>rfl) (fun _ _=>rfl) _ H⟩
 intro fuel
 induction fuel with
 |zero=>
  intro listed st _ hr _ hf hy H;refine⟨fun h=>(by simp_all),fun j hj=>?_⟩
  by_cases He:j=i
  .simp_all
  .have:=ready_mono hj He
   rw[H.1]at this;simp_all
 |succ fuel ih=>
  intro listed st Af hr sA hf hy H;refine⟨fun h=>(by simp_all),fun j hj=>?_⟩
  by_cases He:j=i
  .simp_all
  .have h1:=H.2 j (ready_mono hj He);obtain⟨zR,oj,nV,Hy⟩:=mem_ready.1 hj;have Ae4:∀k,listed.getD k true=false->listed.getD k false=true->False:=fun k h0 h1=>by
    grind
   have hnD:¬D j:=fun hdj=>by
    grind [mem_ready]
   obtain⟨wO,hdj⟩:=Af j oj nV He zR hnD;obtain⟨a1,a2,a3⟩:=Oper.apart_spec wO;obtain⟨d1,d2⟩:=d6 hdj;unfold sZ at h1⊢;rw[nV]at h1⊢;obtain⟨hfj,hkj⟩:=h1;have hlj:=QB (ops:=ops) a1 st v e;obtain⟨vj,ej,hyj,hK⟩:=N9 hkj hfj;have he1:∀r o',(r,o')∈e->r∉(FT j).1:=fun r o' q=>d1 r (hy.1 r o' q).1;have lZ:∀r o',(r,o')∈ej->r∉(FT i).1:=fun r o' q=>d2 r (hyj.1 r o' q).1;refine⟨by grind [So],hyj.2 st hlj.symm (fun r Xg=>?_) _ ?_⟩
   .rw[cq,Pu (fun o' q=>he1 r o' q Xg)]
   .have hli:=QB (ops:=ops) a3 st vj ej;refine ih (listed.setIfInBounds j true) (st.after oj vj ej) (fun k ok hk wR sO SA=>?_) (ready_mono hr (Ne.symm He)) (fun k hk=>?_) (by grind [So]) ⟨hy.1,fun st2 hl hh K' h'=>?_⟩ ?_
    .by_cases sK:j=k
     .simp_all
     .rw[getD_set_ne true sK]at sO;grind
    .by_cases sK:j=k
     all_goals simp_all
    .refine hy.2 st2 (fun d hd=>(hl d hd).trans (hli d hd)) (fun r Xg=>?_) K' h';rw[hh r Xg,cq,Pu (fun o' q=>lZ r o' q Xg)]
    .rw[Array.setIfInBounds_comm _ _ (Ne.symm He)]at hK;rw[<-ZK a2 (fun r o r' o' q q' e2=>lZ r' o' q' (by rw[e2];exact(hy.1 r o q).2))];exact hK
def pY(cx:Cx)(ops:Array Oper)(K:St->Prop):List Oper->List Fm->St->Prop
 | [],[],st=>K st
 |o::r,f::fs,st=>M7 cx ops.toList o st=some f/\∃v e,Pi cx ops o st f v e/\pY cx ops K r fs (st.after o v e)
 |_,_,_=>False
theorem Rx{K:St->Prop}:∀(l:List Oper) (acc:List Fm) (st:St),Xy cx ops l acc st K->∃fs,RW ops (acc.reverse++fs)=true/\pY cx ops K l fs st
 | [],acc,st,h=>⟨[],by simpa using h.1,h.2⟩
 |o::r,acc,st,h=>by
  unfold Xy at h;split at h
  .rename_i f hf;obtain⟨v,e,h1,h2⟩:=N9 h hf;obtain⟨fs,q1,q2⟩:=Rx r _ _ h2;exact⟨f::fs,by simp_all,hf,v,e,h1,q2⟩
  simp_all
theorem Ws{o:Oper}{i:Nat}{D:List Nat}(h:OA o i D=true):∃ed∈o.after,Region.binds .any ed=true/\(ed.on=i\/ed.on∈D):=by
 grind [OA,Nat.eq_of_beq_eq_true,YR]
theorem TG{i:Nat}{D:List Nat}:∀(l:List Oper) (k:Nat),TF i D k l=true->∀j o,l[j]?=some o->k+j∈D->OA o i D=true
 | [],_,_,_,_,h,_=>by simp_all
 |o::l,k,hs,j,o',h,hm=>by
  simp only[TF,Au]at hs;cases j with
  |zero=>
   grind [YO]
  |succ j=>exact TG l (k+1) hs.2 j o' (by simp_all) (by grind)
theorem Uo{oi:Oper}{fi:Fm}{D:List Nat}:∀(l:List Oper) (fs:List Fm) (k:Nat),Ib ops oi fi D k l fs=true->l.length=fs.length/\∀j o f,l[j]?=some o->fs[j]?=some f->k+j∉D->oi.apart ops o=true/\RV fi f=true
 | [],[],_,_=>⟨rfl,fun _ _ _ h=>by simp_all⟩
 | [],_::_,_,h=>by grind [Ib]
 |_::_,[],_,h=>by grind [Ib]
 |o::l,f::fs,k,h=>by
  simp only[Ib,Au,Gp]at h;obtain⟨h1,h2⟩:=Uo l fs (k+1) h.2<;>grind [YR]
theorem Xw{K:St->Prop}:∀(l:List Oper) (fs:List Fm) (k:Nat) (listed:Array Bool) (st:St),(∀j,l[j]?=ops[k+j]?)->(∀j f,fs[j]?=some f->FT (k+j)=f)->listed.size=ops.size ->
  (∀j,j<ops.size->listed.getD j true=decide (j<k))->LD ops ops.toList k l fs=true->pY cx ops K l fs st->Xv cx ops FT K l.length listed st
 | [],[],k,listed,st,hl,_,hs,hL,_,h=>by
  refine⟨?_,h⟩;apply List.eq_nil_iff_forall_not_mem.2;intro j hj;obtain⟨h1,o,ho,_⟩:=mem_ready.1 hj;have Fp:=(B6.1 ho).1;rw[hL j Fp]at h1;have uY:k<=j:=by simp_all
  have:=hl (j-k)
  simp_all
 | [],_::_,_,_,_,_,_,_,_,h,_=>by grind [LD]
 |_::_,[],_,_,_,_,_,_,_,h,_=>by grind [LD]
 |o::l,f::fs,k,listed,st,hl,hF,hs,hL,hg,h=>by
  simp only[LD,Au]at hg;obtain⟨⟨⟨⟨g1,g2⟩,g3⟩,g4⟩,g5⟩:=hg;obtain⟨hf,v,e,hy,hp⟩:=h;have h0:ops[k]?=some o:=by simpa using(hl 0).symm
  have hk:=(B6.1 h0).1;have hFk:FT k=f:=by simpa using hF 0 f rfl
  have T1 : ∀j,l[j]?=ops[k+1+j]?:=fun j=>by have:=hl (j+1);grind
  have ut : ∀j f,fs[j]?=some f->FT (k+1+j)=f:=fun j f' hj=>by have:=hF (j+1) f' (by simp_all);grind
  obtain⟨Cy,wO⟩:=Uo l fs (k+1) g4;have nE:∀j,j∈Pr k [] 0 ops.toList->k<j/\j<ops.size:=fun j hj=>by
   simp_all
  refine ZJ h0 (fun j=>j∈Pr k [] 0 ops.toList) (fun j hj=>?_) l.length listed st (fun j oj nV sK sO hnD=>?_) ?_ (fun j hj=>?_) (by simp_all) (by rw[hFk];exact hy) ?_
  .have Fp:=(nE j hj).2
   have:=TG ops.toList 0 g2 j ops[j] (by simp_all) (by simp_all)
   grind [Ws]
  .have Fp:=(B6.1 nV).1;rw[hL j Fp]at sO;have uY:k<j:=by grind
   have e1:l[j-(k+1)]?=some oj:=by grind
   grind
  .grind [mem_ready,Nat.blt_eq]
  .grind
  .refine Xw l fs (k+1) _ _ T1 ut (by simp_all) (fun j hj=>?_) g5 hp
   by_cases sK:j=k
   .simp_all
   .rw[getD_set_ne true (Ne.symm sK),hL j hj]
    grind
theorem dt(h:Xy cx ops ops.toList [] st K):Region.noSelect ops=true/\∃FT,Xv cx ops FT K ops.size (Array.replicate ops.size false) st:=by
 obtain⟨fs,h1,h2⟩:=Rx _ _ _ h;simp only[RW,List.reverse_nil,Uj,Au]at h1;refine⟨h1.1,fun j=>fs.getD j default,?_⟩
 have:=Xw (FT:=fun j=>fs.getD j default) ops.toList fs 0 (Array.replicate ops.size false) st aa1 (fun j f hj=>by simp_all) aa1 (fun j hj=>by simp_all) h1.2 h2
 omega
end
theorem WC:∀{σ:JT},HF σ=true->∀i j,Cp σ i=some j↔HR σ j=some i
 | [],_,i,j=>by simp[Cp,HR]
 |(a,b)::r,h,i,j=>by
  simp only[HF,Au]at h;obtain⟨h1,h2⟩:=h;have ih:=WC h2
  grind [Cp,HR,Nat.beq_refl,Ds]
theorem kQ:∀{σ:JT},D3 σ=true->HF σ=true
 | [],_=>rfl
 |(a,b)::r,h=>by
  simp only[D3,Au]at h;simp only[HF,Au];exact⟨h.1.1.1,kQ h.2⟩
theorem WY(h:D3 σ=true):∀i j,Cp σ i=some j↔HR σ j=some i:=WC (kQ h)
theorem Vl:∀{σ:JT},D3 σ=true->∀{i j},Cp σ i=some j->1000<=j/\j<2000
 | [],_,i,j,h=>by grind [Cp]
 |(a,b)::r,h,i,j,hf=>by
  simp only[D3,Au,Nat.ble_eq,Ia]at h;unfold Cp at hf
  by_cases e1:a=i
  .simp_all
  .simp only[Ds e1,GE]at hf;exact Vl h.2 hf
theorem O1(f:Nat->Option Nat)(h:Nat->HO):∀(σ:JT) (j:Nat),Ar (Zd f h σ) Af j=match HR σ j with | some i=>(h i).ren f h | none=>.free
 | [],j=>rfl
 |(a,b)::r,j=>by
  unfold Zd Ar HR
  by_cases e:b=j
  .simp_all
  .simp only[Ds e,Ds (Ne.symm e),GE];exact O1 f h r j
structure FQ(f:Nat->Option Nat)(h h2:Nat->HO)(g g2:Gh)(w:World):Prop where
 ids:∀r r',f r=some r'->used h r->g2.tk r'=g.tk r/\g2.ln r'=g.ln r/\g2.ρ r'=g.ρ r/\g2.own r'=g.own r/\used h2 r'
 S:∀b o,g2.S b o↔g.S b o
 objs:∀r,DB g w (used h) r (h r)
section
variable {f:Nat->Option Nat}{h h2:Nat->HO}{g g2:Gh}{w:World}
theorem FQ.keeps(hR:FQ f h h2 g g2 w):ED g w g2 w:=fun b o hs=>⟨(hR.S b o).2 hs,rfl,fun _ _ e=>e⟩
theorem FQ.noU(hR:FQ f h h2 g g2 w){av:AV}{x:Value}(r:A5 g w EZ av x):A5 g2 w (used h2) av x:=r.mono hR.keeps (fun _ h=>h.elim) (fun _ h=>h.elim)
theorem A5.ren0(hR:FQ f h h2 g g2 w){av:AV}{x:Value}(r:A5 g w (used h) av x):A5 g2 w (used h2) (ren0 f h av) x:=by
 have down:A5 g2 w (used h2) (Eng.str0 h av) x:=hR.noU (A5.str0 hR.objs r);cases av with
 |v y=>exact down
 |slice tk es=>
  cases tk with
  |none=>exact down
  |full sz=>exact down
  |id i sz=>
   simp only[Eng.ren0];split
   .rename_i i' e;cases r<;>grind [tok,A5.slice_none,FQ.ids,FQ.noU]
   .exact hR.noU r.slice_none
  |ver i sz v=>
   simp only[Eng.ren0];split
   .rename_i i' e;cases r<;>grind [ver,A5.slice_none,FQ.ids,FQ.noU]
   .exact hR.noU r.slice_none
 |msl i n=>
  simp only[Eng.ren0];split
  .rename_i i' e;cases r<;>grind [msl,FQ.ids]
  grind [junk]
 |agg cs=>exact down
 |tup cs=>exact down
 |cptr cs=>exact down
 |ref i off=>
  simp only[Eng.ren0];split
  .rename_i i' e;cases r<;>grind [ref,FQ.ids]
  omega
 |eref i n sz k off=>
  simp only[Eng.ren0];split
  .rename_i i' e;cases r<;>grind [eref,FQ.ids]
  grind [junk]
 |mref i=>
  simp only[Eng.ren0];split
  .rename_i i' e;cases r<;>grind [mref,FQ.ids]
  omega
 |cmap sh BN=>exact down
 |clo i cs=>exact down
 |junk=>exact down
theorem A5.ren1(hR:FQ f h h2 g g2 w){av:AV}{x:Value}(r:A5 g w (used h) av x):A5 g2 w (used h2) (ren1 f h av) x:=by
 cases av with
 |agg cs=>
  cases r with
  |agg _ _ vs hs h1 hr=>
   exact .agg _ _ vs (by simp_all) h1 fun i av x q1 q2=>by
    grind [ren0]
 |clo i cs=>
  cases r with
  |clo _ _ _ vs hs hr=>
   exact .clo _ _ _ vs (by simp_all) fun i av x q1 q2=>by
    grind [ren0]
 |_=>exact r.ren0 hR
theorem A5.ren(hR:FQ f h h2 g g2 w){av:AV}{x:Value}(r:A5 g w (used h) av x):A5 g2 w (used h2) (ren f h av) x:=by
 cases av with
 |tup cs=>
  cases r with
  |tup _ _ vs hs hr=>
   exact .tup _ _ vs (by simp_all) fun i av x q1 q2=>by
    grind [ren1]
 |_=>exact r.ren1 hR
theorem Mc(f:Nat->Option Nat)(h:Nat->HO)(o:HO):(o.ren f h).live↔o.live:=by cases o<;>exact Iff.rfl
theorem Md(f:Nat->Option Nat)(h:Nat->HO)(o:HO):o.ren f h≠.free↔o≠.free:=by cases o<;>simp[HO.ren]
theorem DB.ren(hR:FQ f h h2 g g2 w){i j:Nat}(jT:f i=some j)(hu:used h i){o:HO}(r:DB g w (used h) i o):DB g2 w (used h2) j (o.ren f h):=by
 obtain⟨k1,k2,k3,k4,k5⟩:=hR.ids i j jT hu;have noL:∀{cs:List AV} {vs:List Value},B2 g w EZ cs vs->B2 g2 w EZ cs vs:=fun hr=>hr.mono hR.keeps (fun _ h=>h) (fun _ h=>h.elim);have w6:∀{av:AV} {x:Value},A5 g w EZ av x->A5 g2 w EZ av x:=fun hr=>hr.mono hR.keeps (fun _ h=>h) (fun _ h=>h.elim);cases o with
 |free=>trivial
 |dead=>trivial
 |cells cs=>
  obtain⟨t,b,E,vs,a1,a2,a3,a4,a5⟩:=r;refine⟨k1.trans t,b,E,vs,k4.trans a1,k3.trans a2,a3,⟨by simp[a4.1],a4.2.1,fun i av x q1 q2=>?_⟩,fun o ho=>a5 o ((hR.S b o).1 ho)⟩;rw[BX]at q1;obtain⟨a,q3,rfl⟩:=CD.1 q1;exact(a4.2.2 i a x q3 q2).ren1 hR
 |ro cs=>
  obtain⟨t,b,a1,a2⟩:=r;exact⟨k1.trans t,b,k3.trans a1,w6 a2⟩
 |tok sz n=>
  obtain⟨t,l,a,cap,a1,a2⟩:=r;refine⟨k1.trans t,k2.trans l,a,cap,k3.trans a1,?_⟩
  grind [FQ.S]
 |var sz v n=>
  obtain⟨t,l,a,cap,a1,a2⟩:=r;refine⟨k1.trans t,k2.trans l,a,cap,k3.trans a1,?_⟩
  grind [FQ.S]
 |vox v=>exact⟨k1.trans r.1,k2.trans r.2⟩
 |hol sz es i c av=>
  obtain⟨t,l,al,b,cap,E,vs,b1,b2,b3,b4,b5,b6,b7,b8,x,b9,Xd⟩:=r;exact⟨k1.trans t,k2.trans l,al,b,cap,E,vs,k3.trans b1,k4.trans b2,b3,b4,b5,noL b6,fun o ho=>b7 o ((hR.S b o).1 ho),b8,x,b9,Xd.ren1 hR⟩
 |bld x=>
  obtain⟨t,b,p,v,a1,a2,a3,a4,a5,a6⟩:=r;exact⟨k1.trans t,b,p,v,k4.trans a1,k3.trans a2,a3,a4,a5.ren1 hR,fun o ho=>a6 o ((hR.S b o).1 ho)⟩
 |bbf n=>
  obtain⟨t,l,a1⟩:=r;refine⟨k1.trans t,k2.trans l,?_⟩
  grind [FQ.S]
 |raw b ob=>
  obtain⟨t,a1,a2,a3,a4⟩:=r;exact⟨k1.trans t,k4.trans a1,a2,a3,fun o ho=>a4 o ((hR.S b o).1 ho)⟩
 |arr sz es=>
  obtain⟨t,l,al,a2⟩:=r;refine⟨k1.trans t,k2.trans l,al,?_⟩;rcases a2 with ⟨b1,b2,b3⟩ | ⟨b,cap,E,vs,b1,b2,b3,b4,b5,b6,b7⟩
  .simp_all
  .exact .inr ⟨b,cap,E,vs,k3.trans b1,k4.trans b2,b3,b4,b5,noL b6,fun o ho=>b7 o ((hR.S b o).1 ho)⟩
 |map sh BN=>
  obtain⟨t,b,es,ck,a1,a2,a3,a4,a5,a6⟩:=r;exact⟨k1.trans t,b,es,ck,k4.trans a1,k3.trans a2,a3,a4,fun i kv e q1 q2=>w6 (a5 i kv e q1 q2),fun o ho=>a6 o ((hR.S b o).1 ho)⟩
 |mapU sh BN=>
  obtain⟨t,b,es,ck,a1,a2,a3,a4,a5,a6⟩:=r;refine⟨k1.trans t,b,es,ck,k4.trans a1,k3.trans a2,a3,U4 _ a4,fun i kv e q1 q2=>?_,fun o ho=>a6 o ((hR.S b o).1 ho)⟩
  grind [A5.ren1]
 |rom sh BN=>
  obtain⟨t,b,a1,a2⟩:=r;exact⟨k1.trans t,b,k3.trans a1,w6 a2⟩
 |iter all rem D1=>
  obtain⟨t,b,mb,JP,seen,st,es,ck,a1,a2,a3,a4,a5,a6,a7,a8,a9,Xu,bL,a12,pZ⟩:=r;exact⟨k1.trans t,b,mb,JP,seen,st,es,ck,k4.trans a1,k3.trans a2,a3,(hR.S _ _).2 a4,a5,a6,a7,a8,fun i kv e q1 q2=>w6 (a9 i kv e q1 q2),Xu,bL,a12,fun o ho=>pZ o ((hR.S b o).1 ho)⟩
end
end Go.Eng
