/- Lemmas 9. -/
import Derived.Test.YtkjhcikodmiceaaGreatDoorMA08
namespace Go.Eng
variable {x:Operand}{l:List Nat}{o:Oper}{K:St->Prop}{st:St}{d:Nat}{p:Operand}{n:Nat}{cx:Cx}{st2:St}{d':Nat}{f:FH}{σ:JD}(ops:Array Oper)(T:G4)
section
variable {cx:Cx}{dst:Option Nat}{ty:Nat}{pos:String}{after:Array Edge}{gd:Option (Nat×Bool)}{st:St}{R:List Nat}{w:Option Nat}{K:HK}
theorem Ja{d:Option Nat}{l:List Nat}(h:I9 d l=some f):∃d',d=some d'/\f=(d' :: l,some d'):=by
 unfold I9 at h
 grind
theorem aN{e:Nat}(hk:Gb cx true ⟨dst,.alloc e,ty,pos,after,gd⟩ st K)(hf:Fq cx ⟨dst,.alloc e,ty,pos,after,gd⟩ st=some (R,w)):Dg cx ⟨dst,.alloc e,ty,pos,after,gd⟩ st R w K:=by
 simp only[Gb]at hk;have hb:Nat.beq e ac=false:=by
  grind [Fq]
 simp only[Fq,hb]at hf;obtain⟨d,rfl,e0⟩:=Ja hf;cases e0;unfold TX at hk;simp only[hb]at hk;split at hk
 .rename_i hd;split at hk
  .simp_all
  .rename_i ER;split at hk
   .rename_i ha;refine⟨_,some (d,_),hk,fun r o' e=>aa0,fun st2 HC K' h'=>?_⟩;simp only[Gb,TX];rw[HC.h d (Ah ..),hd];simp only[ha,hb];exact h'
   simp_all
 simp_all
theorem jO{e:Nat}(hk:Gb cx true ⟨dst,.box e x,ty,pos,after,gd⟩ st K)(hf:Fq cx ⟨dst,.box e x,ty,pos,after,gd⟩ st=some (R,w)):Dg cx ⟨dst,.box e x,ty,pos,after,gd⟩ st R w K:=by
 simp only[Gb]at hk;obtain⟨d,rfl,e0⟩:=Ja hf;cases e0;unfold js at hk;simp only at hk;split at hk
 .rename_i hd;split at hk
  .simp_all
  .rename_i ER;obtain⟨cs,c1,c2,c3⟩:=OK hk;split at c1
   .rename_i hm;refine⟨_,some (d,_),c1,fun r o' e=>aa0,fun st2 HC K' h'=>?_⟩;have hx:ev st2.t x=ev st.t x:=HC.t x (by simp[Op.operands]);simp only[Gb,js];rw[HC.h d (Ah ..),hd,hx];simp only[hm];refine c2 _ ?_;rw[c3 st.h st2.h (fun r hr=>HC.h r (Aj _ hr))];exact h'
   .rename_i hm;refine⟨_,some (d,_),c1,fun r o' e=>aa0,fun st2 HC K' h'=>?_⟩;have hx:ev st2.t x=ev st.t x:=HC.t x (by simp[Op.operands]);simp only[Gb,js];rw[HC.h d (Ah ..),hd,hx];simp only[hm];exact c2 _ h'
 simp_all
theorem Rv{t n:Nat}{ps:Array (Nat×Operand)}(hk:Gb cx true ⟨dst,.buildSlice t n ps,ty,pos,after,gd⟩ st K)(hf:Fq cx ⟨dst,.buildSlice t n ps,ty,pos,after,gd⟩ st=some (R,w)) :
  Dg cx ⟨dst,.buildSlice t n ps,ty,pos,after,gd⟩ st R w K:=by
 simp only[Gb]at hk;obtain⟨d,j7,e0⟩:=Ja hf;cases e0;unfold I6 at hk;split at hk
 .rename_i e he;split at hk
  .rename_i h1 h2;split at hk
   .simp_all
   .rename_i k FW;split at hk
    .rename_i hb;obtain⟨es,q1,q2⟩:=Uu hk;obtain⟨d',hd,v,x,q3,q4⟩:=IZ q1;have hd:dst.map (KO cx)=some d':=hd;have j7:dst.map (KO cx)=some d:=j7;rw[j7]at hd;cases hd;refine⟨v,some (d,x),q3,fun r o' e=>aa0,fun st2 HC K' h'=>?_⟩;have hx:∀p∈ps.toList,ev st2.t p.2=ev st.t p.2:=fun p hp=>HC.t p.2 (by
      grind [Op.operands])
     simp only[Gb,I6,he,h1,h2];split
     .omega
     .rw[hb];exact q2 st2.t st2.h (fun r hr=>HC.h r (Aj _ hr)) hx _ (q4 st2.h (HC.h d (Ah ..)) K' h')
    simp_all
  simp_all
 simp_all
theorem Ta{t:Nat}{n c:Operand}(hk:Gb cx true ⟨dst,.makeSlice t n c,ty,pos,after,gd⟩ st K)(hf:Fq cx ⟨dst,.makeSlice t n c,ty,pos,after,gd⟩ st=some (R,w)) :
  Dg cx ⟨dst,.makeSlice t n c,ty,pos,after,gd⟩ st R w K:=by
 simp only[Gb]at hk;obtain⟨d,j7,e0⟩:=Ja hf;cases e0;have hn:∀st2,Alike ⟨dst,.makeSlice t n c,ty,pos,after,gd⟩ (d::[]) st st2->ev st2.t n=ev st.t n/\ev st2.t c=ev st.t c:=fun st2 ha=>⟨ha.t n (by simp[Op.operands]),ha.t c (by simp[Op.operands])⟩;unfold Kb at hk;split at hk
 .rename_i e a b h1 h2 h3;split at hk
  .rename_i h4;split at hk
   .rename_i h5;split at hk
    .simp_all
    .rename_i k FW;obtain⟨d',hd,v,x,q3,q4⟩:=IZ hk.2;have hd:dst.map (KO cx)=some d':=hd;have j7:dst.map (KO cx)=some d:=j7;rw[j7]at hd;cases hd;refine⟨v,some (d,x),q3,fun r o' e=>aa0,fun st2 HC K' h'=>?_⟩;simp only[Gb,Kb,(hn st2 HC).1,(hn st2 HC).2,h1,h2,h3,h4,h5];split
     .omega
     .exact⟨hk.1,q4 st2.h (HC.h d (Ah ..)) K' h'⟩
   simp_all
  simp_all
 simp_all
theorem Wp{t:Nat}{r:Option Operand}(hk:Gb cx true ⟨dst,.makeMap t r,ty,pos,after,gd⟩ st K)(hf:Fq cx ⟨dst,.makeMap t r,ty,pos,after,gd⟩ st=some (R,w)) :
  Dg cx ⟨dst,.makeMap t r,ty,pos,after,gd⟩ st R w K:=by
 cases r with
 |some r=>exact hk.elim
 |none=>
  simp only[Gb]at hk;obtain⟨d,rfl,e0⟩:=Ja hf;cases e0;unfold Lg at hk;simp only at hk;split at hk
  .rename_i hd;split at hk
   .rename_i h1;split at hk
    .rename_i h2;split at hk
     .rename_i h3;refine⟨_,some (d,_),hk,fun r o' e=>aa0,fun st2 HC K' h'=>?_⟩;simp only[Gb,Lg];rw[HC.h d (Ah ..),hd];simp only[h1,h2,h3];exact h'
     .rename_i h3;refine⟨_,some (d,_),hk,fun r o' e=>aa0,fun st2 HC K' h'=>?_⟩;simp only[Gb,Lg];rw[HC.h d (Ah ..),hd];simp only[h1,h2,h3];exact h'
    simp_all
   simp_all
  simp_all
theorem aO{t:Nat}(hk:Gb cx true ⟨dst,.store t p x,ty,pos,after,gd⟩ st K)(hf:Fq cx ⟨dst,.store t p x,ty,pos,after,gd⟩ st=some (R,w)) :
  Dg cx ⟨dst,.store t p x,ty,pos,after,gd⟩ st R w K:=by
 simp only[Gb]at hk;have hn:∀st2,Alike ⟨dst,.store t p x,ty,pos,after,gd⟩ R st st2->ev st2.t p=ev st.t p/\ev st2.t x=ev st.t x:=fun st2 ha=>⟨ha.t p (by simp[Op.operands]),ha.t x (by simp[Op.operands])⟩;unfold Pu at hk;split at hk
 .simp_all
 .rename_i ER;obtain⟨cs,c1,c2,c3⟩:=OK hk;simp only[Fq]at hf;split at hf
  .rename_i r off hp;split at hf
   .cases hf
   .rename_i hm;cases hf;rw[hp]at c1;simp only at c1;split at c1
    .rename_i Ew hr;obtain⟨JP,hk'⟩:=c1;rw[hm]at hk';refine⟨_,some (r,_),hk',fun r o' e=>aa0,fun st2 HC K' h'=>?_⟩;simp only[Gb,Pu,(hn st2 HC).1,(hn st2 HC).2];refine c2 _ ?_;rw[hp];simp only[HC.h r (Ah ..),hr,hm];exact⟨JP,h'⟩
    simp_all
  .rename_i r n sz i off hp;cases hf;rw[hp]at c1;simp only at c1;split at c1
   .rename_i H9 es hr;split at c1
    .rename_i hs;obtain⟨JP,cell,e1,e2,hk'⟩:=c1;split at hk'
     .rename_i j m;refine⟨_,some (r,_),hk',fun r o' e=>aa0,fun st2 HC K' h'=>?_⟩;simp only[Gb,Pu,(hn st2 HC).1,(hn st2 HC).2];refine c2 _ ?_;rw[hp];simp only[HC.h r (Ah ..),hr,hs];exact⟨JP,cell,e1,e2,h'⟩
     .rename_i Qq;refine⟨_,some (r,_),hk',fun r o' e=>aa0,fun st2 HC K' h'=>?_⟩;simp only[Gb,Pu,(hn st2 HC).1,(hn st2 HC).2];refine c2 _ ?_;rw[hp];simp only[HC.h r (Ah ..),hr,hs];refine⟨JP,cell,e1,e2,?_⟩;rw[c3 st.h st2.h (fun r hr=>HC.h r (Aj _ hr))];exact h'
    simp_all
   simp_all
  simp_all
theorem Tb{t:Nat}{m k:Operand}(hk:Gb cx true ⟨dst,.mapUpdate t m k x,ty,pos,after,gd⟩ st K)(hf:Fq cx ⟨dst,.mapUpdate t m k x,ty,pos,after,gd⟩ st=some (R,w)) :
  Dg cx ⟨dst,.mapUpdate t m k x,ty,pos,after,gd⟩ st R w K:=by
 simp only[Gb]at hk;have hn:∀st2,Alike ⟨dst,.mapUpdate t m k x,ty,pos,after,gd⟩ R st st2->ev st2.t m=ev st.t m/\ev st2.t k=ev st.t k/\ev st2.t x=ev st.t x:=fun st2 ha=>⟨ha.t m (by simp[Op.operands]),ha.t k (by simp[Op.operands]),ha.t x (by simp[Op.operands])⟩;simp only[Fq]at hf;split at hf
 .rename_i r hm;cases hf;unfold HL at hk;rw[hm]at hk;simp only at hk;split at hk
  .rename_i sh BZ hr;unfold KP at hk;split at hk
   .rename_i kt e h1;split at hk
    .rename_i sh' h2;split at hk
     .rename_i h3;split at hk
      .rename_i kx h4;split at hk
       .rename_i h5;refine⟨_,some (r,_),hk,fun r o' e=>aa0,fun st2 HC K' h'=>?_⟩;obtain⟨n1,n2,n3⟩:=hn st2 HC;simp only[Gb,HL,n1,n2,n3,hm,HC.h r (Ah ..),hr,KP,h1,h2,h3,h4,h5];rw[Ly (h:=st.h) (h2:=st2.h) (fun r hr=>HC.h r (Aj _ hr))];exact h'
       simp_all
      simp_all
     simp_all
    simp_all
   simp_all
  .rename_i sh BZ hr;unfold KP at hk;split at hk
   .rename_i kt e h1;split at hk
    .rename_i sh' h2;split at hk
     .rename_i h3;split at hk
      .rename_i kx h4;split at hk
       .rename_i h5;refine⟨_,some (r,_),hk,fun r o' e=>aa0,fun st2 HC K' h'=>?_⟩;obtain⟨n1,n2,n3⟩:=hn st2 HC;simp only[Gb,HL,n1,n2,n3,hm,HC.h r (Ah ..),hr,KP,h1,h2,h3,h4,h5];exact h'
       simp_all
      simp_all
     simp_all
    simp_all
   simp_all
  simp_all
 simp_all
theorem iD{A B:(AV->Prop)->Prop}(ha:Gu A)(hb:Gu B):Gu fun K=>A K\/B K:=by
 intro K hk;rcases hk with hk | hk
 .obtain⟨v,h1,h2⟩:=ha K hk<;>grind
 .obtain⟨v,h1,h2⟩:=hb K hk<;>grind
theorem UG{fn:Fn}{first cap:Array Operand}(hk:Gb cx true ⟨dst,.makeFunc fn first cap,ty,pos,after,gd⟩ st K)(hf:Fq cx ⟨dst,.makeFunc fn first cap,ty,pos,after,gd⟩ st=some (R,w)) :
  Dg cx ⟨dst,.makeFunc fn first cap,ty,pos,after,gd⟩ st R w K:=by
 simp only[Gb]at hk;simp only[Fq]at hf;cases hf;unfold Ld at hk;split at hk
 .rename_i f h1;refine⟨_,none,hk,fun r o' e=>(by cases e),fun st2 HC K' h'=>?_⟩;simp only[Gb,h1,Ld]
  have:cap.toList.map (fun x=>rsv st2.h (ev st2.t x))=cap.toList.map (fun x=>rsv st.h (ev st.t x)):=Cg fun x hx=>by
   rw[HC.t x (by grind [Op.operands])];exact pO fun r hr=>HC.h r (bQ (Ar.2 ⟨x,hx,rfl⟩) r hr)
  rw[this];exact h'
 simp_all
end
section
variable {cx:Cx}{dst:Option Nat}{ty:Nat}{pos:String}{after:Array Edge}{gd:Option (Nat×Bool)}{st:St}{R:List Nat}{w:Option Nat}{K:HK}
theorem dY{t:Nat}(hk:Gb cx true ⟨dst,.load t p,ty,pos,after,gd⟩ st K)(hf:Fq cx ⟨dst,.load t p,ty,pos,after,gd⟩ st=some (R,w)):Dg cx ⟨dst,.load t p,ty,pos,after,gd⟩ st R w K:=by
 simp only[Gb]at hk;have hn:∀st2,Alike ⟨dst,.load t p,ty,pos,after,gd⟩ R st st2->ev st2.t p=ev st.t p:=fun st2 ha=>ha.t p (by simp[Op.operands]);simp only[Fq]at hf;unfold Ka at hk;split at hf
 .grind [Ls,Gb,Ka,Dg.pick]
 .grind [Ls,Gb,Ka,List.mem_cons_self,Dg.pick,Alike.h]
 .rename_i r n sz i off hp;cases hf;rw[hp]at hk;simp only at hk;split at hk
  all_goals grind [Ls,Gb,Ka,Dg.pick,Alike.h]
 simp_all
theorem YF(hk:Gb cx true ⟨dst,.assign x,ty,pos,after,gd⟩ st K)(hf:Fq cx ⟨dst,.assign x,ty,pos,after,gd⟩ st=some (R,w)):Dg cx ⟨dst,.assign x,ty,pos,after,gd⟩ st R w K:=by
 simp only[Gb]at hk;have hn:∀st2,Alike ⟨dst,.assign x,ty,pos,after,gd⟩ R st st2->ev st2.t x=ev st.t x:=fun st2 ha=>ha.t x (by simp[Op.operands]);simp only[Fq]at hf;split at hf
 .cases hf
 .rename_i hx;cases hf;have same:∃y,∀(h:Nat->HO) (K:HK),PK cx dst h (ev st.t x) K↔K y h:=by
   unfold PK;cases dst with
   |none=>exact⟨_,fun _ _=>Iff.rfl⟩
   |some d=>
    simp only;cases Hk cx.pl.tok d with
    |some sz=>
     simp only;cases Nat.beq sz 0 with
     |true=>exact⟨_,fun _ _=>Iff.rfl⟩
     |false=>
      refine⟨ev st.t x,fun h K=>?_⟩;simp_all
    |none=>
     simp only;cases Hk cx.pl.arr d with
     |some sz=>
      refine⟨ev st.t x,fun h K=>?_⟩;simp_all
     |none=>exact⟨_,fun _ _=>Iff.rfl⟩
  obtain⟨y,same⟩:=same;exact .pick (CW y) ((same _ _).1 hk) fun st2 ha K' h=>by grind [Gb]
theorem SA{t:Nat}{lo hi mx:Option Operand}(hp:T1 cx.pl.tok dst=none)(hk:Gb cx true ⟨dst,.slice t x lo hi mx,ty,pos,after,gd⟩ st K)(hf:Fq cx ⟨dst,.slice t x lo hi mx,ty,pos,after,gd⟩ st=some (R,w)) :
  Dg cx ⟨dst,.slice t x lo hi mx,ty,pos,after,gd⟩ st R w K:=by
 simp only[Gb,hp]at hk;have hn:∀st2,Alike ⟨dst,.slice t x lo hi mx,ty,pos,after,gd⟩ R st st2->ev st2.t x=ev st.t x/\CT st2.t lo=CT st.t lo/\CT st2.t hi=CT st.t hi/\CT st2.t mx=CT st.t mx:=by
  grind [Option,CT,Op.operands,Alike.t]
 simp only[Fq,hp]at hf;split at hf
 .cases hf
 .rename_i hx;cases hf;have e3:CT st.t none=some none:=rfl
  have SD:Gu (fun K1=>IQ cx dst st.h t (ev st.t x) (CT st.t lo) (CT st.t hi) (some none) fun v _=>K1 v) /\
    ∀(h:Nat->HO) (K:HK),IQ cx dst h t (ev st.t x) (CT st.t lo) (CT st.t hi) (some none) K↔IQ cx dst st.h t (ev st.t x) (CT st.t lo) (CT st.t hi) (some none) (fun v _=>K v h):=by
   generalize ev st.t x=X at hx;unfold IQ;constructor
   .repeat' split
    all_goals first | exact Cm | exact DV (CW _) | exact DV (DV (CW _)) | skip
    all_goals first | (rename_i e;cases e;done) | skip
    all_goals (exfalso;exact hx _ _ rfl)
   .intro h K
    repeat' split
    all_goals simp_all
    all_goals simp_all
  grind [Gb,Dg.pick]
 .rename_i y tk es hx;obtain⟨d,rfl,e0⟩:=Ja hf;cases e0;rw[hx]at hk;unfold IQ at hk;split at hk
  .rename_i IA Pw uW e1 e2 e3;split at hk
   .simp_all
   .rename_i e he;split at hk
    .simp_all
    .rename_i k FW;simp only at hk;split at hk
     .grind [CT]
     .rename_i m;split at hk
      .rename some d=some _=>e5
       cases e5
       split at hk
       .rename_i wz;refine⟨_,none,hk.2.2,fun r o' e=>(by cases e),fun st2 HC K' h'=>?_⟩;obtain⟨n1,n2,n3,n4⟩:=hn st2 HC;simp only[Gb,hp];rw[n1,n2,n3,n4,hx,e1,e2,e3];unfold IQ;simp only[he];split
        .omega
        .simp only[wz];exact⟨hk.1,hk.2.1,h'⟩
       rename_i wz;split at hk
       .rename_i hd;refine⟨_,some (d,_),hk.2.2,fun r o' e=>aa0,fun st2 HC K' h'=>?_⟩;obtain⟨n1,n2,n3,n4⟩:=hn st2 HC;simp only[Gb,hp];rw[n1,n2,n3,n4,hx,e1,e2,e3];unfold IQ;simp only[he];split
        .omega
        .simp only[wz];rw[HC.h d (Ah ..),hd];exact⟨hk.1,hk.2.1,h'⟩
       simp_all
      simp_all
   simp_all
  simp_all
 simp_all
theorem jQ{t:Nat}{lo hi mx:Option Operand}{p:Nat}(hp:T1 cx.pl.tok dst=some p)(hk:Gb cx true ⟨dst,.slice t x lo hi mx,ty,pos,after,gd⟩ st K)(hf:Fq cx ⟨dst,.slice t x lo hi mx,ty,pos,after,gd⟩ st=some (R,w)) :
  To cx ⟨dst,.slice t x lo hi mx,ty,pos,after,gd⟩ st R w K:=by
 simp only[Gb,hp]at hk;simp only[Fq,hp]at hf;obtain⟨d',r,n,hd,hx,e0⟩:=dW hf;cases e0;cases dst with
 |none=>cases hd
 |some d=>
 cases hd
 unfold VA at hk;split at hk
 .rw[hx]at hk;unfold py at hk;split at hk
  .rename_i d0 Pw e1 e2;cases e1;split at hk
   .rename_i e he;split at hk
    .simp_all
    .rename_i k FW;simp only at hk;split at hk
     .rename_i sz es hr;split at hk
      .rename_i hd;split at hk
       .rename_i q1 q3;obtain⟨h1,hk⟩:=hk;have hr8:r<10000000/\0<KO cx d:=aa0
        obtain⟨hr7,hz⟩:=hr8;refine⟨_,[(r,.dead),(KO cx d,_)],hk,fun r' o' e=>?_,fun st2 ha K' h'=>?_⟩
        .rcases AM.1 e with e | e
         .cases e
          refine⟨.inr (.inl ⟨by omega,.inl ?_⟩),Ah ..⟩;omega
         .obtain e:=AI.1 e;cases e;refine⟨.inr (.inl ⟨by omega,.inr ?_⟩),Aj _ (Ah ..)⟩;omega
        .have o1:CT st2.t hi=CT st.t hi:=by
          cases hi<;>grind [CT,Op.operands,Alike.t]
         simp only[Gb,hp];unfold VA;rw[ha.t x (by simp[Op.operands]),o1,hx,e2];unfold py;simp only[he];split
         .omega
         .simp only[ha.h r (Ah ..),hr,ha.h (KO cx d) (Aj _ (Ah ..)),hd,q1,q3];exact⟨h1,h'⟩
       simp_all
      simp_all
     simp_all
   simp_all
  simp_all
 simp_all
theorem YE{s:Operand}{HA:Array TypeId}(hk:Gb cx true ⟨dst,.call ⟨.builtin .append,#[s,x],HA⟩,ty,pos,after,gd⟩ st K)(hf:Fq cx ⟨dst,.call ⟨.builtin .append,#[s,x],HA⟩,ty,pos,after,gd⟩ st=some (R,w)) :
  Dg cx ⟨dst,.call ⟨.builtin .append,#[s,x],HA⟩,ty,pos,after,gd⟩ st R w K:=by
 have hk:Gi cx dst st.h .append HA.toList [ev st.t s,ev st.t x] K:=hk;have hf:YC cx dst (ev st.t s) (ev st.t x)=some (R,w):=hf;have hn:∀st2,Alike ⟨dst,.call ⟨.builtin .append,#[s,x],HA⟩,ty,pos,after,gd⟩ R st st2->ev st2.t s=ev st.t s/\ev st2.t x=ev st.t x:=fun st2 ha=>
  ⟨ha.t s (by simp[Op.operands,Call.operands]),ha.t x (by simp[Op.operands,Call.operands])⟩
 have J7:∀st2,Alike ⟨dst,.call ⟨.builtin .append,#[s,x],HA⟩,ty,pos,after,gd⟩ R st st2->∀K' : HK,Gi cx dst st2.h .append HA.toList [ev st.t s,ev st.t x] K'->Gb cx true ⟨dst,.call ⟨.builtin .append,#[s,x],HA⟩,ty,pos,after,gd⟩ st2 K':=by
  intro st2 ha K' h;rw[<-(hn st2 ha).1,<-(hn st2 ha).2]at h;exact h
 generalize HA.toList=l at hk J7
 match l,hk,J7 with
 | [t,t'],hk,J7=>
  simp only[Gi]at hk J7;split at hk
  .rename_i ht;simp only[ht]at J7;unfold IT at hk J7;split at hk
   .rename_i e he;simp only[he]at J7;split at hk
    .simp_all
    .rename_i hz;simp only[hz]at J7;split at hk
     .simp_all
     .rename_i k FW;obtain⟨es2,q1,q2⟩:=dQ hk;have oe:∀d,R=d::kK (ev st.t x)->∀st2,Alike ⟨dst,.call ⟨.builtin .append,#[s,x],HA⟩,ty,pos,after,gd⟩ R st st2->∀r n,ev st.t x=.msl r n->st2.h r=st.h r:=fun d hR st2 ha r n e=>ha.h r (by rw[hR,e];simp[kK]);unfold YC at hf;split at hf
      .rename_i hs;obtain⟨d,j7,e0⟩:=Ja hf;cases e0;rw[hs]at q1 J7;simp only at q1 J7;obtain⟨d',hd,v,y,q3,q4⟩:=IZ q1.2;rw[j7]at hd;cases hd;refine⟨v,some (d,y),q3,fun r o' e=>aa0,fun st2 HC K' h'=>J7 st2 HC K' ?_⟩;split
       .omega
       .exact q2 st2.h (oe d rfl st2 HC) _ ⟨q1.1,q4 st2.h (HC.h d (Ah ..)) K' h'⟩
      .rename_i H9 es hs;obtain⟨d,j7,e0⟩:=Ja hf;cases e0;rw[hs]at q1 J7;simp only at q1 J7;split at q1
       .rename_i h1;obtain⟨d',hd,v,y,q3,q4⟩:=IZ q1.2;rw[j7]at hd;cases hd;refine⟨v,some (d,y),q3,fun r o' e=>aa0,fun st2 HC K' h'=>J7 st2 HC K' ?_⟩;split
        .omega
        .refine q2 st2.h (oe d rfl st2 HC) _ ?_;simp only[h1];exact⟨q1.1,q4 st2.h (HC.h d (Ah ..)) K' h'⟩
       simp_all
      .rename_i r H9 es hs;cases hf;rw[hs]at q1 J7;simp only at q1 J7;split at q1
       .rename_i sz n hr;split at q1
        .rename_i h1 h2;refine⟨_,some (r,_),q1.2,fun r o' e=>aa0,fun st2 HC K' h'=>J7 st2 HC K' ?_⟩;split
         .omega
         .refine q2 st2.h (oe r rfl st2 HC) _ ?_;simp only[HC.h r (Ah ..),hr,h1,h2];exact⟨q1.1,h'⟩
        simp_all
       simp_all
      .rename_i r n hs;cases hf;rw[hs]at q1 J7;simp only at q1 J7;split at q1
       .rename_i sz es hr;split at q1
        .rename_i h1;refine⟨_,some (r,_),q1.2,fun r o' e=>aa0,fun st2 HC K' h'=>J7 st2 HC K' ?_⟩;split
         .omega
         .refine q2 st2.h (oe r rfl st2 HC) _ ?_;simp only[HC.h r (Ah ..),hr,h1];exact⟨q1.1,h'⟩
        simp_all
       simp_all
      simp_all
   simp_all
  simp_all
 | [],hk,_=>exact hk.elim
 | [_],hk,_=>exact hk.elim
 |_::_::_::_,hk,_=>exact hk.elim
theorem RJ(t:Nat):Gu (KR T t):=by
 unfold KR
 repeat' split
 all_goals first | exact Cm | exact CW _
theorem Vx(ty:Nat)(ok:Bool)(BZ:List (Value×AV))(kx:Value):Gu (MO T ty ok BZ kx):=by
 unfold MO
 repeat' split
 .refine iD (QM fun a=>DV (CW _)) (DV ?_);intro K hk;obtain⟨v,h1,h2⟩:=RJ T _ _ hk<;>grind [RJ]
 .exact iD (QM fun a=>DV (CW _)) (DV (RJ T _))
 .exact Cm
theorem cu(ty:Nat)(sh:E0)(k:AV){F:Value->(AV->Prop)->Prop}(h:∀x,Gu (F x)):Gu fun K=>KP T ty sh k fun kx=>F kx K:=by
 unfold KP
 repeat' split
 all_goals grind [Cm]
theorem YG{t:Nat}{m k:Operand}{ok:Bool}(hk:Gb cx true ⟨dst,.lookup t m k ok,ty,pos,after,gd⟩ st K)(hf:Fq cx ⟨dst,.lookup t m k ok,ty,pos,after,gd⟩ st=some (R,w)) :
  Dg cx ⟨dst,.lookup t m k ok,ty,pos,after,gd⟩ st R w K:=by
 simp only[Gb]at hk;have hn:∀st2,Alike ⟨dst,.lookup t m k ok,ty,pos,after,gd⟩ R st st2->ev st2.t m=ev st.t m/\ev st2.t k=ev st.t k:=fun st2 ha=>⟨ha.t m (by simp[Op.operands]),ha.t k (by simp[Op.operands])⟩;simp only[Fq]at hf;unfold NL at hk;split at hf
 .rename_i sh BZ hm;cases hf;rw[hm]at hk;simp only at hk;exact .pick (cu _ _ _ _ fun _=>Vx _ _ _ _ _) hk fun st2 ha K' h=>by grind [Gb,NL]
 .rename_i r hm;cases hf;rw[hm]at hk;simp only at hk;split at hk
  all_goals first | exact hk.elim | (rename_i e;exact .pick (cu _ _ _ _ fun _=>Vx _ _ _ _ _) hk fun st2 ha K' h=>by grind [Gb,NL,Alike.h])
 simp_all
theorem pq(t:Nat)(h:Nat->HO)(x:AV):Gu (SG T t h x):=by
 unfold SG
 repeat' split
 all_goals first | exact Cm | exact CW _
theorem xj{T:G4}{t:Nat}{h h2:Nat->HO}{x:AV}(e:∀r,x=.mref r->h2 r=h r){K:AV->Prop}:SG T t h2 x K=SG T t h x K:=by
 cases x<;>first | rfl | skip
 grind [SG]
theorem jP{HA:Array TypeId}(hk:Gb cx true ⟨dst,.call ⟨.builtin .len,#[x],HA⟩,ty,pos,after,gd⟩ st K)(hf:Fq cx ⟨dst,.call ⟨.builtin .len,#[x],HA⟩,ty,pos,after,gd⟩ st=some (R,w)) :
  Dg cx ⟨dst,.call ⟨.builtin .len,#[x],HA⟩,ty,pos,after,gd⟩ st R w K:=by
 have hk:Gi cx dst st.h .len HA.toList [ev st.t x] K:=hk;have hf:Hw cx dst (.builtin .len) st.t [ev st.t x]=some (R,w):=hf;have hn:∀st2,Alike ⟨dst,.call ⟨.builtin .len,#[x],HA⟩,ty,pos,after,gd⟩ R st st2->ev st2.t x=ev st.t x:=fun st2 ha=>ha.t x (by simp[Op.operands,Call.operands]);have J7:∀st2,Alike ⟨dst,.call ⟨.builtin .len,#[x],HA⟩,ty,pos,after,gd⟩ R st st2->∀K' : HK,Gi cx dst st2.h .len HA.toList [ev st.t x] K'->Gb cx true ⟨dst,.call ⟨.builtin .len,#[x],HA⟩,ty,pos,after,gd⟩ st2 K':=by
  intro st2 ha K' h;rw[<-hn st2 ha]at h;exact h
 generalize HA.toList=l at hk J7
 match l,hk,J7 with
 | [t],hk,J7=>
  grind [Hw,pq,Gi,xj,Dg.pick,Alike.h]
 | [],hk,_=>exact hk.elim
 |_::_::_,hk,_=>exact hk.elim
end
theorem sF(h:Jm l n=true):n∈l:=by
 induction l<;>grind [Jm,DY]
theorem ay(G:Nat->HO):∀(σ:JD) (h:Nat->HO),EE σ=true->(fun i=>match CB σ i with | some j=>G j | none=>h i)=IH h (σ.map fun p=>(p.1,G p.2))
 | [],h,_=>rfl
 |(i,j)::r,h,hσ=>by
  unfold EE at hσ;simp only[Aq]at hσ;have ih:=ay G r (AJ h i (G j)) hσ.2
  grind [IH,AJ,CB,DY]
theorem WR(hσ:EE σ=true){h h' : Nat->HO}:Em σ d 0 h h'=IH h (σ.map fun p=>(p.1,(h' p.2).ren (Fs σ d 0) h')):=by
 rw[<-ay (fun j=>(h' j).ren (Fs σ d 0) h') σ h hσ]
 grind [Em,Nat.blt,Nat.ble_eq]
section
variable {cx:Cx}{op:Op}{dst:Option Nat}{ty:Nat}{pos:String}{after:Array Edge}{gd:Option (Nat×Bool)}{st:St}{R:List Nat}{w:Option Nat}{K:HK}
theorem Dg.toL(h:Dg cx ⟨dst,op,ty,pos,after,gd⟩ st R w K):To cx ⟨dst,op,ty,pos,after,gd⟩ st R w K:=by
 obtain⟨v,e,h1,h2,h3⟩:=h;cases e with
 |none=>exact⟨v,[],h1,fun r o' e=>(by cases e),h3⟩
 |some p=>exact⟨v,[p],h1,fun r o' e=>by
   obtain rfl:=AI.1 e;obtain⟨a,b⟩:=h2 r o' rfl;exact⟨by rw[a];exact .inl rfl,b⟩,h3⟩
theorem dX{c:Call}(hk:Gb cx true ⟨dst,.call c,ty,pos,after,gd⟩ st K)(hf:Fq cx ⟨dst,.call c,ty,pos,after,gd⟩ st=some (R,w)):To cx ⟨dst,.call c,ty,pos,after,gd⟩ st R w K:=by
 obtain⟨ya,args,HA⟩:=c;have Mi:∀st2,Alike ⟨dst,.call ⟨ya,args,HA⟩,ty,pos,after,gd⟩ R st st2->args.toList.map (ev st2.t)=args.toList.map (ev st.t):=fun st2 ha=>
  Cg fun x hx=>ha.t x (by grind [Op.operands,Call.operands])
 cases ya with
 |invoke r m=>exact hk.elim
 |value f=>
  have hk:GR cx true dst st (ev st.t f) (args.toList.map (ev st.t)) K:=hk;have hf:Hw cx dst (.value f) st.t (args.toList.map (ev st.t))=some (R,w):=hf;unfold Hw at hf;unfold GR at hk;simp only at hf hk;have hn:=Mi;split at hf
  .rename_i gV;rw[gV]at hk;cases hf;obtain⟨res,h1,h2⟩:=hk;refine Dg.toL ⟨res,none,h2,fun r o' e=>(by cases e),fun st2 ha K' h'=>?_⟩;show GR cx true dst st2 (ev st2.t f) (args.toList.map (ev st2.t)) K';rw[Mi st2 ha,ha.t f (by simp[Op.operands,Call.operands])];unfold GR;simp only[gV];refine⟨res,?_,h'⟩
   grind [Ly,Sb,Alike.h]
  .rename_i gV;rw[gV]at hk;simp only at hk;cases dst with
   |none=>simp_all
   |some d=>
    obtain⟨n,sz,es,h1,h2,h3⟩:=hk;have hf:some (BJ d 0::(bl (ev st.t f)++UW (args.toList.map (ev st.t))),some (BJ d 0))=some (R,w):=hf;cases hf;refine Dg.toL ⟨_,some (BJ d 0,_),h3,fun r o' e=>aa0,fun st2 ha K' h'=>?_⟩;show GR cx true (some d) st2 (ev st2.t f) (args.toList.map (ev st2.t)) K';rw[Mi st2 ha,ha.t f (by simp[Op.operands,Call.operands])];unfold GR;simp only[gV];refine⟨n,sz,es,?_,?_,h'⟩
    all_goals grind [Eg,Ly,Sb,Alike.h]
  .rename_i gV;rw[gV]at hk;have hk:SZ cx 0 dst st.h (ev st.t f) (args.toList.map (ev st.t)) K:=hk;split at hf
   .rename_i r n l hl;cases hf;have SD:=hk;unfold SZ at SD;rw[hl]at SD;split at SD
    .rename_i d0 f0 r0 n0 l0 e1 e2 z1 z2;cases e2;split at SD
     .rename_i vs ib;split at SD
      .rename_i sz es hr;obtain⟨n',FX,h1,h2⟩:=SD;refine Dg.toL ⟨_,some (r,_),h2,fun r o' e=>aa0,fun st2 ha K' h'=>?_⟩;show GR cx true _ st2 (ev st2.t f) (args.toList.map (ev st2.t)) K';rw[Mi st2 ha,ha.t f (by simp[Op.operands,Call.operands]),hl,e1];unfold GR;simp only[gV];unfold SU;simp only;unfold SZ;simp only[ib,ha.h r (Ah ..),hr];exact⟨n',FX,h1,h'⟩
      simp_all
     simp_all
    simp_all
   simp_all
  .rename_i k gV;rw[gV]at hk;cases hb:Nat.beq k 1 with
   |true=>
    have qv:Nat.beq (k+1) 2=true:=hb;have hk:ZB cx dst st (ev st.t f) (args.toList.map (ev st.t)) K:=by
     simp_all
    rw[hb]at hf;cases dst with
    |none=>exact hk.elim
    |some d=>
     obtain⟨sz,es,h1,h2,h3⟩:=hk;have hf:some (BJ d 0::(bl (ev st.t f)++UW (args.toList.map (ev st.t))),some (BJ d 0))=some (R,w):=hf;cases hf;refine Dg.toL ⟨_,some (BJ d 0,_),h3,fun r o' e=>aa0,fun st2 ha K' h'=>?_⟩;show GR cx true (some d) st2 (ev st2.t f) (args.toList.map (ev st2.t)) K';rw[Mi st2 ha,ha.t f (by simp[Op.operands,Call.operands])];unfold GR;simp only[gV,qv];refine⟨sz,es,?_,?_,h'⟩
     all_goals grind [Eg,Ly,Sb,Alike.h]
   |false=>
    have qv:Nat.beq (k+1) 2=false:=hb;rw[hb]at hf;have SD:(match Nat.beq (k+1) 2 with | true=>ZB cx dst st (ev st.t f) (args.toList.map (ev st.t)) K | false=>match Nat.beq (k+1) 3 with | true=>V7 cx dst st (ev st.t f) (args.toList.map (ev st.t)) K | false=>SU cx (k+1) dst st (ev st.t f) (args.toList.map (ev st.t)) K):=hk;rw[qv]at SD;cases hc:Nat.beq k 2 with
    |true=>
     have SB:Nat.beq (k+1) 3=true:=hc;rw[hc]at hf;simp only[SB]at SD;have hf:m7 (args.toList.map (ev st.t))=some (R,w):=hf;unfold m7 at hf;unfold V7 at SD;split at hf
     .rename_i vs ib;cases hf;split at SD
      .rename_i l lX e1 e2 z1 z2;rw[ib]at e2;cases e2;split at SD
       .rename_i r sz es iR n e3 e4;obtain⟨⟨rfl,rfl⟩,v,FX,n',h1,h2⟩:=SD;refine⟨_,[(1001,_),(1000,_)],h2,fun r' o' e=>?_,fun st2 ha K' h'=>?_⟩
        .rcases AM.1 e with e | e
         .cases e
          exact⟨.inr (.inl ⟨by decide,.inr aa3⟩),by simp⟩
         .obtain e:=AI.1 e;cases e;exact⟨.inr (.inl ⟨by decide,.inl aa3⟩),by simp⟩
        show GR cx true _ st2 (ev st2.t f) (args.toList.map (ev st2.t)) K';rw[Mi st2 ha,ha.t f (by simp[Op.operands,Call.operands]),e1];unfold GR;simp only[gV,qv,SB];unfold V7;simp only[ib,ha.h 1000 aa1,ha.h 1001 aa1,e3,e4];exact⟨⟨trivial,trivial⟩,v,FX,n',h1,h'⟩
       simp_all
      simp_all
     simp_all
    |false=>
    have SB:Nat.beq (k+1) 3=false:=hc;rw[hc]at hf;have j9:SU cx (k+1) dst st (ev st.t f) (args.toList.map (ev st.t)) K:=by
     simp_all
    have wF:m5 k dst (args.toList.map (ev st.t))=some (R,w):=hf;unfold m5 at wF;unfold SU at j9;cases he:Nat.beq k 3 with
    |true=>
     have qw:Nat.beq (k+1) 4=true:=he;rw[he]at wF;rw[qw]at j9;have wF:some (rI,some Ya)=some (R,w):=wF;have j9:aS cx dst st (ev st.t f) (args.toList.map (ev st.t)) K:=j9;cases wF;unfold aS at j9;split at j9
     .rename_i d f' caps e2 _ _ _;obtain⟨σ,H0,Hn,args',res,g1,g2,g3,g4⟩:=j9;simp only[Aq]at g2;refine⟨_,σ.map fun p=>(p.1,(Ai Hn Af p.2).ren (Fs σ d 0) (Ai Hn Af)),(WR (h:=st.h) (h':=Ai Hn Af) (d:=d) g2.1.1)▸g4,fun r' o' e=>?_,fun st2 ha K' h'=>?_⟩
      .obtain⟨p,hp,e⟩:=Ar.1 e;cases e;exact⟨.inr (.inr rfl),sF (AS.1 g2.2 p hp)⟩
      .show GR cx true _ st2 (ev st2.t f) (args.toList.map (ev st2.t)) K';rw[Mi st2 ha,ha.t f (by simp[Op.operands,Call.operands])];unfold GR;simp only[gV,qv,SB];unfold SU;simp only[qw];unfold aS
       grind [WR,Alike.h]
     simp_all
    |false=>
    have qw:Nat.beq (k+1) 4=false:=he;rw[he]at wF;rw[qw]at j9;have hf:gK dst (args.toList.map (ev st.t))=some (R,w):=wF;have hk:SZ cx (k+1) dst st.h (ev st.t f) (args.toList.map (ev st.t)) K:=j9;obtain⟨d,r,n,l,rfl,hl,e0⟩:=dV hf;cases e0;unfold SZ at hk;rw[hl]at hk;split at hk
    .rename_i d0 f0 r0 n0 l0 e9 e1 e2;cases e9;cases e2;split at hk
     .rename_i vs ib;split at hk
      .rename_i sz es hr;obtain⟨n',FX,h0,h1,h2⟩:=hk;have h00:=h0;simp only[Aq,I2]at h00;refine⟨_,[(r,.dead),(BJ d 0,_)],h2,fun r' o' e=>?_,fun st2 ha K' h'=>?_⟩
       .rcases AM.1 e with e | e
        .cases e
         refine⟨.inr (.inl ⟨by grind [BJ],.inl ?_⟩),Ah ..⟩;omega
        .obtain e:=AI.1 e;cases e;refine⟨.inr (.inl ⟨by grind [BJ],.inr ?_⟩),Aj _ (Ah ..)⟩;omega
       show GR cx true _ st2 (ev st2.t f) (args.toList.map (ev st2.t)) K';rw[Mi st2 ha,ha.t f (by simp[Op.operands,Call.operands]),hl,e1];unfold GR;simp only[gV,qv,SB];unfold SU;simp only[qw];unfold SZ;simp only[ib,ha.h r (Ah ..),hr]
       have:Eg st2.h d 1=Eg st.h d 1:=by grind [Eg,Alike.h]
       exact⟨n',FX,by simp_all,h1,h'⟩
      simp_all
     simp_all
    simp_all
 |builtin b=>
  refine Dg.toL ?_;have mm:∀f:Int->Int->Int,(∀(d:Option Nat) (h:Nat->HO) (HA:List Nat) (args:List AV) (K:HK),Gi cx d h b HA args K=(match args with | [x,y]=>sI f x y fun v=>K v h | _=>False))->R=[]/\w=none->Dg cx ⟨dst,.call ⟨.builtin b,args,HA⟩,ty,pos,after,gd⟩ st R w K:=by
   rintro f hb ⟨rfl,rfl⟩
   have hk:Gi cx dst st.h b HA.toList (args.toList.map (ev st.t)) K:=hk;rw[hb]at hk;split at hk
   .rename_i x y e;refine .pick (s8 f x y) hk fun st2 ha K' h=>?_;show Gi cx dst st2.h b HA.toList (args.toList.map (ev st2.t)) K';simp_all
   simp_all
  cases b
  case max=>exact mm max (fun d h HA args K=>by cases args with | nil=>rfl | cons x l=>cases l with | nil=>rfl | cons y l=>cases l<;>rfl) (by
   have hf:Hw cx dst (.builtin .max) st.t (args.toList.map (ev st.t))=some (R,w):=hf
   grind [Hw])
  case min=>exact mm min (fun d h HA args K=>by cases args with | nil=>rfl | cons x l=>cases l with | nil=>rfl | cons y l=>cases l<;>rfl) (by
   have hf:Hw cx dst (.builtin .min) st.t (args.toList.map (ev st.t))=some (R,w):=hf
   grind [Hw])
  case append=>
   obtain⟨l⟩:=args
   match l,hk,hf with
   | [s,x],hk,hf=>grind [YE]
   | [],hk,hf=>cases HA;exact hk.elim
   | [_],hk,hf=>exact hk.elim
   |_::_::_::_,hk,hf=>exact hk.elim
  case len=>
   obtain⟨l⟩:=args
   match l,hk,hf with
   | [x],hk,hf=>grind [jP]
   | [],hk,hf=>exact hk.elim
   |_::_::_,hk,hf=>exact hk.elim
  all_goals exact hk.elim
theorem dv(hc:∀c,o.op≠.call c)(hs:(∃t x lo hi mx,o.op=.slice t x lo hi mx)->T1 cx.pl.tok o.dst=none)(hk:Gb cx true o st K)(hf:Fq cx o st=some (R,w)):Dg cx o st R w K:=by
 obtain⟨dst,op,ty,pos,after,gd⟩:=o;cases op with
 |call c=>simp_all
 |alloc e=>grind [aN]
 |box e x=>grind [jO]
 |buildSlice t n ps=>grind [Rv]
 |makeSlice t n c=>grind [Ta]
 |makeMap t r=>grind [Wp]
 |store t p x=>grind [aO]
 |mapUpdate t m k x=>grind [Tb]
 |makeFunc fn first cap=>grind [UG]
 |load t p=>grind [dY]
 |assign x=>grind [YF]
 |slice t x lo hi mx=>grind [SA]
 |lookup t x i ok=>grind [YG]
 |move x=>
  cases hf
  exact .pick (CW _) hk fun st2 ha K' h=>by grind [Gb,Op.operands,Alike.t]
 |pick c a b=>
  cases hf
  exact .pick (ll _ _ _) hk fun st2 ha K' h=>by grind [Gb,Op.operands,Alike.t]
 |nilCheck x=>
  grind [pt,Gb,Op.operands,Dg.pick,Alike.t]
 |binOp op t x y u=>
  simp only[Fq]at hf;split at hf
  .cases hf
  .rename_i hx;cases hf;exact .pick (lj _ _ _ _ _ _ hx) hk fun st2 ha K' h=>by grind [Gb,Op.operands,Alike.t]
 |unOp op t x=>
  grind [lm,Gb,Op.operands,Dg.pick,Alike.t]
 |convert s t x=>
  grind [lk,Gb,Op.operands,Dg.pick,Alike.t]
 |fieldAddr s x f=>
  grind [fN,Gb,Op.operands,Dg.pick,Alike.t]
 |field s x f=>
  grind [ct,Gb,Op.operands,Dg.pick,Alike.t]
 |indexAddr t x i=>
  cases hf
  exact .pick (Vy _ _ _ _) hk fun st2 ha K' h=>by grind [Gb,Op.operands,Alike.t]
 |index t x i=>
  cases hf
  exact .pick (fO _ _ _ _) hk fun st2 ha K' h=>by grind [Gb,Op.operands,Alike.t]
 |extract x i=>
  grind [Zn,Gb,Op.operands,Dg.pick,Alike.t]
 |build t ps=>
  cases hf
  refine .pick (fM _ _ _ _) hk fun st2 ha K' h=>?_;have hx:∀p∈ps.toList,ev st2.t p.2=ev st.t p.2:=fun p hp=>ha.t p.2 (by
   grind [Op.operands])
  simp only[Gb];have fill:∀(pl:Nat->Option (Nat×Nat)) (l:List (Nat×Operand)) (cs:List AV) (K:List AV->Prop),(∀p∈l,ev st2.t p.2=ev st.t p.2)->K9 pl cs st2.t l K=K9 pl cs st.t l K:=by
   intro pl l
   induction l with
   |nil=>intro cs K _;rfl
   |cons p l ih=>
    intro cs K hp;obtain⟨i,x⟩:=p;have h1:ev st2.t x=ev st.t x:=hp (i,x) (Ah ..);have h2:∀cs,K9 pl cs st2.t l K=K9 pl cs st.t l K:=fun cs=>ih cs K (fun p wR=>hp p (Aj _ wR));simp only[K9,h1,h2]
  unfold Rh at h⊢;simp only[fill _ _ _ _ hx];exact h
 |_=>cases hf
theorem jj(hk:Gb cx true o st K)(hf:Fq cx o st=some (R,w)):To cx o st R w K:=by
 obtain⟨dst,op,ty,pos,after,gd⟩:=o
 by_cases h:∃c,op=.call c
 .grind [dX]
 .by_cases h2:∃t x lo hi mx,op=.slice t x lo hi mx
  .obtain⟨t,x,lo,hi,mx,rfl⟩:=h2;cases hp:T1 cx.pl.tok dst<;>grind [Dg.toL,SA,jQ]
  grind [Dg.toL,dv]
end
theorem jN(h:∀x∈o.op.operands,ev st2.t x=ev st.t x):Fq cx o st2=Fq cx o st:=by
 obtain⟨dst,op,ty,pos,after,gd⟩:=o;cases op with
 |call c=>
  obtain⟨ya,args,HA⟩:=c;have ha:args.toList.map (ev st2.t)=args.toList.map (ev st.t):=Cg fun x hx=>h x (by grind [Op.operands,Call.operands]);simp only[Fq];rw[ha];cases ya with
  |value f=>
   have hf:ev st2.t f=ev st.t f:=h f (by simp[Op.operands,Call.operands]);simp only[Hw,hf]
  |builtin b=>
   generalize args.toList.map (ev st.t)=l
   match l with
   | []=>cases b<;>rfl
   | [x]=>cases b<;>cases x<;>rfl
   | [x,y]=>cases b<;>cases x<;>rfl
   |x::_::_::_=>cases b<;>cases x<;>rfl
  |invoke r m=>rfl
 |box e x=>grind [Fq,Op.operands]
 |buildSlice t n ps=>
  grind [List.map_congr_left,Op.operands,Fq]
 |store t p x=>grind [Fq,Op.operands]
 |mapUpdate t m k x=>grind [Fq,Op.operands]
 |makeFunc fn first cap=>
  grind [List.map_congr_left,Op.operands,Fq]
 |load t p=>grind [Fq,Op.operands]
 |assign x=>grind [Fq,Op.operands]
 |binOp op t x y u=>grind [Fq,Op.operands]
 |slice t x lo hi mx=>grind [Fq,Op.operands]
 |lookup t x i ok=>grind [Fq,Op.operands]
 |_=>rfl
def Looks(o:Oper)(st st2:St):Prop:=∀d∈o.looksAt ops,st2.t d=st.t d
theorem Looks.operands{ops:Array Oper}{o:Oper}{st st2:St}(h:Looks ops o st st2):∀x∈o.op.operands,ev st2.t x=ev st.t x:=fun x hx=>by
 cases x with
 |tmp t=>exact h t (Bz _ (List.mem_filterMap.2 ⟨.tmp t,by simp_all,rfl⟩))
 |_=>rfl
theorem XE(j:Nat):LZ ops.toList j=(ops[j]?).bind (·.dst):=by
 have:∀(l:List Oper) (j:Nat),LZ l j=(l[j]?).bind (·.dst):=by
  intro l
  induction l with
  |nil=>grind [LZ]
  |cons o l ih=>
   intro j;cases j<;>grind [LZ]
 simp_all
theorem Looks.guard{ops:Array Oper}(h:Looks ops o st st2){j:Nat}{b:Bool}(hg:o.guard=some (j,b))(hd:LZ ops.toList j=some d):st2.t d=st.t d:=
 h d (Cb _ (by grind [XE]))
def St.after(st:St)(o:Oper)(v:AV)(e:List (Nat×HO)):St:=st.put o.dst v (IH st.h e)
def Rd(cx:Cx)(ops:Array Oper)(o:Oper)(st:St)(f:FH)(v:AV)(e:List (Nat×HO)):Prop:=
 (∀r o',(r,o')∈e->TR f.2 r/\r∈f.1)/\∀st2,Looks ops o st st2->(∀r∈f.1,st2.h r=st.h r)->∀K:St->Prop,K (st2.after o v e)->Ju cx true ops.toList o st2 K
theorem UD{ops:Array Oper}(h:Looks ops o st st2):Ol cx ops.toList o st2=Ol cx ops.toList o st:=by
 grind [Ol,jN,Looks.operands,Looks.guard]
theorem PJ{ops:Array Oper}(hk:Ju cx true ops.toList o st K)(hf:Ol cx ops.toList o st=some f) :
  ∃v e,Rd cx ops o st f v e/\K (st.after o v e):=by
 obtain⟨R,w⟩:=f;have skip:R=[]/\w=none->K (st.put o.dst (.v undef) st.h)->(∀st2,Looks ops o st st2->∀K:St->Prop,K (st2.put o.dst (.v undef) st2.h)->Ju cx true ops.toList o st2 K)->∃v e,Rd cx ops o st (R,w) v e/\K (st.after o v e):=by
  rintro⟨rfl,rfl⟩ h1 h2
  exact⟨.v undef,[],⟨fun r o' e=>(by cases e),fun st2 hl _ K h=>h2 st2 hl K h⟩,h1⟩
 have run:Fq cx o st=some (R,w)->Gb cx true o st (fun v h=>K (st.put o.dst v h))->(∀st2,Looks ops o st st2->∀K:St->Prop,Gb cx true o st2 (fun v h=>K (st2.put o.dst v h))->Ju cx true ops.toList o st2 K)->∃v e,Rd cx ops o st (R,w) v e/\K (st.after o v e):=by
  intro hf hk h2;obtain⟨v,e,q1,q2,q3⟩:=jj hk hf;exact⟨v,e,⟨q2,fun st2 hl hh K h=>h2 st2 hl K (q3 st2 ⟨hl.operands,hh⟩ _ h)⟩,q1⟩
 unfold Ju at hk;unfold Ol at hf;cases hg:o.guard with
 |none=>
  rw[hg]at hk hf;exact run hf hk (fun st2 hl K h=>by unfold Ju;rw[hg];exact h)
 |some p=>
  obtain⟨j,want⟩:=p;rw[hg]at hk hf;simp only at hk hf;cases hd:LZ ops.toList j with
  |none=>simp_all
  |some d=>
   rw[hd]at hk hf;simp only at hk hf;have he:∀st2,Looks ops o st st2->st2.t d=st.t d:=fun st2 hl=>hl.guard hg hd;generalize hx:st.t d=x at hk hf he;split at hk
   .exact run hf hk (fun st2 hl K h=>by unfold Ju;simp only[hg,hd,he st2 hl];exact h)
   .exact run hf hk (fun st2 hl K h=>by unfold Ju;simp only[hg,hd,he st2 hl];exact h)
   all_goals grind [Ju]
def yL(cx:Cx)(ops:Array Oper)(FT:Nat->FH)(i:Nat)(K:St->Prop)(st:St):Prop:=
 match ops[i]? with
 |none=>K st
 |some o=>Ol cx ops.toList o st=some (FT i)/\Ju cx true ops.toList o st K
def ZR(cx:Cx)(ops:Array Oper)(FT:Nat->FH)(K:St->Prop):Nat->Array Bool->St->Prop
 |0,listed,st=>Region.ready .any ops listed=[]/\K st
 |fuel+1,listed,st=>
  (Region.ready .any ops listed=[]->K st)/\∀i∈Region.ready .any ops listed,yL cx ops FT i (ZR cx ops FT K fuel (listed.setIfInBounds i true)) st
theorem lO(t:Nat->AV)(h:d'≠d)(v v' : AV):Kl (Kl t d v) d' v'=Kl (Kl t d' v') d v:=by
 grind [Kl,DY]
theorem kf(t:Nat->HO)(h:d'≠d)(v v' : HO):AJ (AJ t d v) d' v'=AJ (AJ t d' v') d v:=by
 grind [AJ,DY]
theorem bP(h:n∈l):Jm l n=true:=by
 induction l<;>grind [Jm,Nat.beq_refl]
theorem bS(h:Jm l n=true):n∈l:=by
 induction l<;>grind [Jm,DY]
theorem cj{x:Nat}(h:cg l x=true):∀r,TR (some x) r->r∉l:=by
 intro r hc hr;unfold cg at h
 by_cases hx:x=Ya
 .subst hx;rw[Nat.beq_refl,cond_true]at h;cases l with
  |nil=>cases hr
  |cons a l=>cases h
 rw[DY hx,G7]at h;simp only[Aq,Ib,EY,I2]at h;rcases hc with rfl | ⟨h1,h2⟩ | hc<;>grind [bP]
theorem jE{a b:FH}(h:Um a b=true):(∀r,TR a.2 r->r∉b.1)/\∀r,TR b.2 r->r∉a.1:=by
 obtain⟨a1,a2⟩:=a;obtain⟨b1,b2⟩:=b;simp only[Um,Aq]at h;refine⟨fun r e=>?_,fun r e=>?_⟩
 .cases a2 with
  |none=>exact e.elim
  |some x=>grind [cj]
 .cases b2 with
  |none=>exact e.elim
  |some x=>grind [cj]
section
variable {cx:Cx}{ops:Array Oper}{FT:Nat->FH}
theorem SI{oi oj:Oper}(h:∀d,oi.dst=some d->d∉oj.looksAt ops)(st:St)(v:AV)(e:List (Nat×HO)):Looks ops oj st (st.after oi v e):=by
 intro d hd;cases hdst:oi.dst with
 |none=>grind [St.after,St.put]
 |some d'=>
  have:d≠d':=fun q=>h d' hdst (q▸hd)
  simp[St.after,St.put,hdst,Kl,DY this]
theorem Looks.symm{o:Oper}{st st2:St}(h:Looks ops o st st2):Looks ops o st2 st:=fun d hd=>(h d hd).symm
theorem gP{o:Oper}{v:AV}{e:List (Nat×HO)}:(st.after o v e).h=IH st.h e:=by
 unfold St.after St.put;grind
theorem Rp{r:Nat}:∀{e:List (Nat×HO)} {h:Nat->HO},(∀o',(r,o')∉e)->IH h e r=h r
 | [],_,_=>rfl
 |p::e,h,hr=>by
  have:r≠p.1:=fun q=>hr p.2 aa0
  show IH (AJ h p.1 p.2) e r=h r;rw[Rp fun o' ho=>hr o' (Aj _ ho),BQ _ _ _ _ this]
theorem az{r:Nat}{o:HO}:∀{e:List (Nat×HO)} {h:Nat->HO},(∀r' o',(r',o')∈e->r'≠r)->IH (AJ h r o) e=AJ (IH h e) r o
 | [],_,_=>rfl
 |p::e,h,hr=>by
  show IH (AJ (AJ h r o) p.1 p.2) e=AJ (IH (AJ h p.1 p.2) e) r o;rw[kf h (hr p.1 p.2 (Ah ..)),az fun r' o' ho=>hr r' o' (Aj _ ho)]
theorem W7:∀{e e' : List (Nat×HO)} {h:Nat->HO},(∀r o r' o',(r,o)∈e->(r',o')∈e'->r'≠r)->IH (IH h e) e'=IH (IH h e') e
 | [],_,_,_=>rfl
 |p::e,e',h,hd=>by
  show IH (IH (AJ h p.1 p.2) e) e'=IH (AJ (IH h e') p.1 p.2) e;rw[<-az fun r' o' ho=>hd p.1 p.2 r' o' (Ah ..) ho,W7 fun r o r' o' h1 h2=>hd r o r' o' (Aj _ h1) h2]
theorem dt{oi oj:Oper}{v v' : AV}{e e' : List (Nat×HO)}(h1:∀d,oi.dst=some d->oj.dst≠some d)(h2:∀r o r' o',(r,o)∈e->(r',o')∈e'->r'≠r) :
  (st.after oi v e).after oj v' e'=(st.after oj v' e').after oi v e:=by
 have hh:IH (IH st.h e) e'=IH (IH st.h e') e:=W7 h2;have key:∀o:Oper,∀v e,∀st:St,st.after o v e=⟨match o.dst with | none=>st.t | some d=>Kl st.t d v,IH st.h e⟩:=fun o v e st=>by
  grind [St.after,St.put]
 grind [lO]
theorem dn{i:Nat}{oi:Oper}{v:AV}{e:List (Nat×HO)}(hi:ops[i]?=some oi)(D:Nat->Prop)(hD:∀j,D j->∃oj,ops[j]?=some oj/\∃ed∈oj.after,Region.binds .any ed=true/\(ed.on=i\/D ed.on)) :
  ∀(fuel:Nat) (listed:Array Bool) (st:St),
   (∀j oj,ops[j]?=some oj->j≠i->listed.getD j true=false->¬D j->oi.apart ops oj=true/\Um (FT i) (FT j)=true) ->
   i∈Region.ready .any ops listed->(∀j,D j->listed.getD j true=false)->Ol cx ops.toList oi st=some (FT i)->Rd cx ops oi st (FT i) v e ->
   ZR cx ops FT K fuel (listed.setIfInBounds i true) (st.after oi v e)->ZR cx ops FT K (fuel+1) listed st:=by
 have here:∀(fuel:Nat) (listed:Array Bool) (st:St),Ol cx ops.toList oi st=some (FT i)->Rd cx ops oi st (FT i) v e ->
   ZR cx ops FT K fuel (listed.setIfInBounds i true) (st.after oi v e)->yL cx ops FT i (ZR cx ops FT K fuel (listed.setIfInBounds i true)) st:=by
  intro fuel listed st hf hy H;unfold yL;rw[hi];exact⟨hf,hy.2 st (fun _ _=>rfl) (fun _ _=>rfl) _ H⟩
 intro fuel
 induction fuel with
 |zero=>
  intro listed st _ hr _ hf hy H;refine⟨fun h=>aa0,fun j hj=>?_⟩
  by_cases F6:j=i
  .simp_all
  .have:=ready_mono hj F6
   rw[H.1]at this;simp_all
 |succ fuel ih=>
  intro listed st Af hr hDl hf hy H;refine⟨fun h=>aa0,fun j hj=>?_⟩
  by_cases F6:j=i
  .simp_all
  .have h1:=H.2 j (ready_mono hj F6);obtain⟨AeY,oj,wO,GI⟩:=mem_ready.1 hj;have AjM:∀k,listed.getD k true=false->listed.getD k false=true->False:=fun k h0 h1=>by
    grind
   have hnD:¬D j:=fun hdj=>by
    grind [mem_ready]
   obtain⟨hap,hdj⟩:=Af j oj wO F6 AeY hnD;obtain⟨a1,a2,a3⟩:=Oper.apart_spec hap;obtain⟨d1,d2⟩:=jE hdj;unfold yL at h1⊢;rw[wO]at h1⊢;obtain⟨hfj,hkj⟩:=h1;have hlj:=SI (ops:=ops) a1 st v e;obtain⟨vj,ej,hyj,hK⟩:=PJ hkj hfj;have he1:∀r o',(r,o')∈e->r∉(FT j).1:=fun r o' q=>d1 r (hy.1 r o' q).1;have qw:∀r o',(r,o')∈ej->r∉(FT i).1:=fun r o' q=>d2 r (hyj.1 r o' q).1;refine⟨by grind [UD],hyj.2 st hlj.symm (fun r YV=>?_) _ ?_⟩
   .rw[gP,Rp (fun o' q=>he1 r o' q YV)]
   .have hli:=SI (ops:=ops) a3 st vj ej;refine ih (listed.setIfInBounds j true) (st.after oj vj ej) (fun k ok hk hki yz Qq=>?_) (ready_mono hr (Ne.symm F6)) (fun k hk=>?_) (by grind [UD]) ⟨hy.1,fun st2 hl hh K' h'=>?_⟩ ?_
    .by_cases hjk:j=k
     .simp_all
     .rw[getD_set_ne true hjk]at yz;grind
    .by_cases hjk:j=k
     all_goals simp_all
    .refine hy.2 st2 (fun d hd=>(hl d hd).trans (hli d hd)) (fun r YV=>?_) K' h';rw[hh r YV,gP,Rp (fun o' q=>qw r o' q YV)]
    .rw[Array.setIfInBounds_comm _ _ (Ne.symm F6)]at hK;rw[<-dt a2 (fun r o r' o' q q' e2=>qw r' o' q' (by rw[e2];exact(hy.1 r o q).2))];exact hK
def vq(cx:Cx)(ops:Array Oper)(K:St->Prop):List Oper->List FH->St->Prop
 | [],[],st=>K st
 |o::r,f::fs,st=>Ol cx ops.toList o st=some f/\∃v e,Rd cx ops o st f v e/\vq cx ops K r fs (st.after o v e)
 |_,_,_=>False
theorem TW{K:St->Prop}:∀(l:List Oper) (acc:List FH) (st:St),ZX cx ops l acc st K->∃fs,Un ops (acc.reverse++fs)=true/\vq cx ops K l fs st
 | [],acc,st,h=>⟨[],by simpa using h.1,h.2⟩
 |o::r,acc,st,h=>by
  unfold ZX at h;split at h
  .rename_i f hf;obtain⟨v,e,h1,h2⟩:=PJ h hf;obtain⟨fs,q1,q2⟩:=TW r _ _ h2;exact⟨f::fs,by simp_all,hf,v,e,h1,q2⟩
  simp_all
theorem YN{o:Oper}{i:Nat}{D:List Nat}(h:Qm o i D=true):∃ed∈o.after,Region.binds .any ed=true/\(ed.on=i\/ed.on∈D):=by
 grind [Qm,Nat.eq_of_beq_eq_true,bS]
theorem V3{i:Nat}{D:List Nat}:∀(l:List Oper) (k:Nat),V2 i D k l=true->∀j o,l[j]?=some o->k+j∈D->Qm o i D=true
 | [],_,_,_,_,h,_=>by simp_all
 |o::l,k,hs,j,o',h,hm=>by
  simp only[V2,Aq]at hs;cases j with
  |zero=>
   grind [bP]
  |succ j=>exact V3 l (k+1) hs.2 j o' aa0 aa2
theorem WM{oi:Oper}{fi:FH}{D:List Nat}:∀(l:List Oper) (fs:List FH) (k:Nat),I5 ops oi fi D k l fs=true->l.length=fs.length/\∀j o f,l[j]?=some o->fs[j]?=some f->k+j∉D->oi.apart ops o=true/\Um fi f=true
 | [],[],_,_=>⟨rfl,fun _ _ _ h=>by simp_all⟩
 | [],_::_,_,h=>by grind [I5]
 |_::_,[],_,h=>by grind [I5]
 |o::l,f::fs,k,h=>by
  simp only[I5,Aq,Ib]at h;obtain⟨h1,h2⟩:=WM l fs (k+1) h.2<;>grind [bS]
theorem ZS{K:St->Prop}:∀(l:List Oper) (fs:List FH) (k:Nat) (listed:Array Bool) (st:St),(∀j,l[j]?=ops[k+j]?)->(∀j f,fs[j]?=some f->FT (k+j)=f)->listed.size=ops.size ->
  (∀j,j<ops.size->listed.getD j true=decide (j<k))->ML ops ops.toList k l fs=true->vq cx ops K l fs st->ZR cx ops FT K l.length listed st
 | [],[],k,listed,st,hl,_,hs,hL,_,h=>by
  refine⟨?_,h⟩;apply Mp.2;intro j hj;obtain⟨h1,o,ho,_⟩:=mem_ready.1 hj;have E4:=(B5.1 ho).1;rw[hL j E4]at h1;have hge:k<=j:=aa0
  have:=hl (j-k)
  simp_all
 | [],_::_,_,_,_,_,_,_,_,h,_=>by grind [ML]
 |_::_,[],_,_,_,_,_,_,_,h,_=>by grind [ML]
 |o::l,f::fs,k,listed,st,hl,hF,hs,hL,hg,h=>by
  simp only[ML,Aq]at hg;obtain⟨⟨⟨⟨g1,g2⟩,g3⟩,g4⟩,g5⟩:=hg;obtain⟨hf,v,e,hy,hp⟩:=h;have h0:ops[k]?=some o:=by simpa using(hl 0).symm
  have hk:=(B5.1 h0).1;have hFk:FT k=f:=by simpa using hF 0 f rfl
  have Tf : ∀j,l[j]?=ops[k+1+j]?:=fun j=>by have:=hl (j+1);grind
  have zQ : ∀j f,fs[j]?=some f->FT (k+1+j)=f:=fun j f' hj=>by have:=hF (j+1) f' aa0;grind
  obtain⟨CN,hap⟩:=WM l fs (k+1) g4;have rR:∀j,j∈Ro k [] 0 ops.toList->k<j/\j<ops.size:=fun j hj=>by
   simp_all
  refine dn h0 (fun j=>j∈Ro k [] 0 ops.toList) (fun j hj=>?_) l.length listed st (fun j oj wO hjk yz hnD=>?_) ?_ (fun j hj=>?_) aa0 (by rw[hFk];exact hy) ?_
  .have E4:=(rR j hj).2
   have:=V3 ops.toList 0 g2 j ops[j] aa0 aa0
   grind [YN]
  .have E4:=(B5.1 wO).1;rw[hL j E4]at yz;have hge:k<j:=aa2
   have e1:l[j-(k+1)]?=some oj:=aa2
   grind
  .grind [mem_ready,Nat.blt_eq]
  .grind
  .refine ZS l fs (k+1) _ _ Tf zQ aa0 (fun j hj=>?_) g5 hp
   by_cases hjk:j=k
   .simp_all
   .rw[getD_set_ne true (Ne.symm hjk),hL j hj]
    grind
theorem jd(h:ZX cx ops ops.toList [] st K):Region.noSelect ops=true/\∃FT,ZR cx ops FT K ops.size (Array.replicate ops.size false) st:=by
 obtain⟨fs,h1,h2⟩:=TW _ _ _ h;simp only[Un,List.reverse_nil,GK,Aq]at h1;refine⟨h1.1,fun j=>fs.getD j default,?_⟩
 have:=ZS (FT:=fun j=>fs.getD j default) ops.toList fs 0 (Array.replicate ops.size false) st aa1 (fun j f hj=>by simp_all) aa1 (fun j hj=>by simp_all) h1.2 h2
 omega
end
theorem YY:∀{σ:JD},Hp σ=true->∀i j,CB σ i=some j↔IB σ j=some i
 | [],_,i,j=>by simp[CB,IB]
 |(a,b)::r,h,i,j=>by
  simp only[Hp,Aq]at h;obtain⟨h1,h2⟩:=h;have ih:=YY h2
  grind [CB,IB,Nat.beq_refl,DY]
theorem pf:∀{σ:JD},EE σ=true->Hp σ=true
 | [],_=>rfl
 |(a,b)::r,h=>by
  simp only[EE,Aq]at h;simp only[Hp,Aq];exact⟨h.1.1.1,pf h.2⟩
theorem Zq(h:EE σ=true):∀i j,CB σ i=some j↔IB σ j=some i:=YY (pf h)
theorem XK:∀{σ:JD},EE σ=true->∀{i j},CB σ i=some j->1000<=j/\j<2000
 | [],_,i,j,h=>by grind [CB]
 |(a,b)::r,h,i,j,hf=>by
  simp only[EE,Aq,Nat.ble_eq,I2]at h;unfold CB at hf
  by_cases e1:a=i
  .simp_all
  .simp only[DY e1,G7]at hf;exact XK h.2 hf
theorem QS(f:Nat->Option Nat)(h:Nat->HO):∀(σ:JD) (j:Nat),Ai (Zp f h σ) Af j=match IB σ j with | some i=>(h i).ren f h | none=>.free
 | [],j=>rfl
 |(a,b)::r,j=>by
  unfold Zp Ai IB
  by_cases e:b=j
  .simp_all
  .simp only[DY e,DY (Ne.symm e),G7];exact QS f h r j
structure Gg(f:Nat->Option Nat)(h h2:Nat->HO)(g g2:D)(w:World):Prop where
 ids:∀r r',f r=some r'->L h r->g2.tk r'=g.tk r/\g2.ln r'=g.ln r/\g2.ρ r'=g.ρ r/\g2.own r'=g.own r/\L h2 r'
 S:∀b o,g2.S b o↔g.S b o
 objs:∀r,D6 g w (L h) r (h r)
section
variable {f:Nat->Option Nat}{h h2:Nat->HO}{g g2:D}{w:World}
theorem Gg.keeps(hR:Gg f h h2 g g2 w):Fg g w g2 w:=fun b o hs=>⟨(hR.S b o).2 hs,rfl,fun _ _ e=>e⟩
theorem Gg.noU(hR:Gg f h h2 g g2 w){av:AV}{x:Value}(r:O g w FK av x):O g2 w (L h2) av x:=r.mono hR.keeps (fun _ h=>h.elim) (fun _ h=>h.elim)
theorem O.ren0(hR:Gg f h h2 g g2 w){av:AV}{x:Value}(r:O g w (L h) av x):O g2 w (L h2) (ren0 f h av) x:=by
 have down:O g2 w (L h2) (Eng.str0 h av) x:=hR.noU (O.str0 hR.objs r);cases av with
 |v y=>exact down
 |slice tk es=>
  cases tk with
  |none=>exact down
  |full sz=>exact down
  |id i sz=>
   simp only[Eng.ren0];split
   .rename_i i' e;cases r<;>grind [tok,O.slice_none,Gg.ids,Gg.noU]
   .exact hR.noU r.slice_none
  |ver i sz v=>
   simp only[Eng.ren0];split
   .rename_i i' e;cases r<;>grind [ver,O.slice_none,Gg.ids,Gg.noU]
   .exact hR.noU r.slice_none
 |msl i n=>
  simp only[Eng.ren0];split
  .rename_i i' e;cases r<;>grind [msl,Gg.ids]
  grind [junk]
 |agg cs=>exact down
 |tup cs=>exact down
 |cptr cs=>exact down
 |ref i off=>
  simp only[Eng.ren0];split
  .rename_i i' e;cases r<;>grind [ref,Gg.ids]
  omega
 |eref i n sz k off=>
  simp only[Eng.ren0];split
  .rename_i i' e;cases r<;>grind [eref,Gg.ids]
  grind [junk]
 |mref i=>
  simp only[Eng.ren0];split
  .rename_i i' e;cases r<;>grind [mref,Gg.ids]
  omega
 |cmap sh BZ=>exact down
 |clo i cs=>exact down
 |junk=>exact down
theorem O.ren1(hR:Gg f h h2 g g2 w){av:AV}{x:Value}(r:O g w (L h) av x):O g2 w (L h2) (ren1 f h av) x:=by
 cases av with
 |agg cs=>
  cases r with
  |agg _ _ vs hs h1 hr=>
   exact .agg _ _ vs aa0 h1 fun i av x q1 q2=>by
    grind [ren0]
 |clo i cs=>
  cases r with
  |clo _ _ _ vs hs hr=>
   exact .clo _ _ _ vs aa0 fun i av x q1 q2=>by
    grind [ren0]
 |_=>exact r.ren0 hR
theorem O.ren(hR:Gg f h h2 g g2 w){av:AV}{x:Value}(r:O g w (L h) av x):O g2 w (L h2) (ren f h av) x:=by
 cases av with
 |tup cs=>
  cases r with
  |tup _ _ vs hs hr=>
   exact .tup _ _ vs aa0 fun i av x q1 q2=>by
    grind [ren1]
 |_=>exact r.ren1 hR
theorem Nc(f:Nat->Option Nat)(h:Nat->HO)(o:HO):(o.ren f h).live↔o.live:=by cases o<;>exact Iff.rfl
theorem Ng(f:Nat->Option Nat)(h:Nat->HO)(o:HO):o.ren f h≠.free↔o≠.free:=by cases o<;>simp[HO.ren]
theorem D6.ren(hR:Gg f h h2 g g2 w){i j:Nat}(cX:f i=some j)(hu:L h i){o:HO}(r:D6 g w (L h) i o):D6 g2 w (L h2) j (o.ren f h):=by
 obtain⟨k1,k2,k3,k4,k5⟩:=hR.ids i j cX hu;have noL:∀{cs:List AV} {vs:List Value},Ci g w FK cs vs->Ci g2 w FK cs vs:=fun hr=>hr.mono hR.keeps (fun _ h=>h) (fun _ h=>h.elim);have no1:∀{av:AV} {x:Value},O g w FK av x->O g2 w FK av x:=fun hr=>hr.mono hR.keeps (fun _ h=>h) (fun _ h=>h.elim);cases o with
 |free=>trivial
 |dead=>trivial
 |cells cs=>
  obtain⟨t,b,E,vs,a1,a2,a3,a4,a5⟩:=r;refine⟨k1.trans t,b,E,vs,k4.trans a1,k3.trans a2,a3,⟨by simp[a4.1],a4.2.1,fun i av x q1 q2=>?_⟩,fun o ho=>a5 o ((hR.S b o).1 ho)⟩;rw[Ct]at q1;obtain⟨a,q3,rfl⟩:=B6.1 q1;exact(a4.2.2 i a x q3 q2).ren1 hR
 |ro cs=>
  obtain⟨t,b,a1,a2⟩:=r;exact⟨k1.trans t,b,k3.trans a1,no1 a2⟩
 |tok sz n=>
  obtain⟨t,l,a,cap,a1,a2⟩:=r;refine⟨k1.trans t,k2.trans l,a,cap,k3.trans a1,?_⟩
  grind [Gg.S]
 |var sz v n=>
  obtain⟨t,l,a,cap,a1,a2⟩:=r;refine⟨k1.trans t,k2.trans l,a,cap,k3.trans a1,?_⟩
  grind [Gg.S]
 |vox v=>exact⟨k1.trans r.1,k2.trans r.2⟩
 |hol sz es i c av=>
  obtain⟨t,l,al,b,cap,E,vs,b1,b2,b3,b4,b5,b6,b7,b8,x,b9,Wa⟩:=r;exact⟨k1.trans t,k2.trans l,al,b,cap,E,vs,k3.trans b1,k4.trans b2,b3,b4,b5,noL b6,fun o ho=>b7 o ((hR.S b o).1 ho),b8,x,b9,Wa.ren1 hR⟩
 |bld x=>
  obtain⟨t,b,p,v,a1,a2,a3,a4,a5,a6⟩:=r;exact⟨k1.trans t,b,p,v,k4.trans a1,k3.trans a2,a3,a4,a5.ren1 hR,fun o ho=>a6 o ((hR.S b o).1 ho)⟩
 |bbf n=>
  obtain⟨t,l,a1⟩:=r;refine⟨k1.trans t,k2.trans l,?_⟩
  grind [Gg.S]
 |raw b ob=>
  obtain⟨t,a1,a2,a3,a4⟩:=r;exact⟨k1.trans t,k4.trans a1,a2,a3,fun o ho=>a4 o ((hR.S b o).1 ho)⟩
 |arr sz es=>
  obtain⟨t,l,al,a2⟩:=r;refine⟨k1.trans t,k2.trans l,al,?_⟩;rcases a2 with ⟨b1,b2,b3⟩ | ⟨b,cap,E,vs,b1,b2,b3,b4,b5,b6,b7⟩
  .simp_all
  .exact .inr ⟨b,cap,E,vs,k3.trans b1,k4.trans b2,b3,b4,b5,noL b6,fun o ho=>b7 o ((hR.S b o).1 ho)⟩
 |map sh BZ=>
  obtain⟨t,b,es,ck,a1,a2,a3,a4,a5,a6⟩:=r;exact⟨k1.trans t,b,es,ck,k4.trans a1,k3.trans a2,a3,a4,fun i kv e q1 q2=>no1 (a5 i kv e q1 q2),fun o ho=>a6 o ((hR.S b o).1 ho)⟩
 |mapU sh BZ=>
  obtain⟨t,b,es,ck,a1,a2,a3,a4,a5,a6⟩:=r;refine⟨k1.trans t,b,es,ck,k4.trans a1,k3.trans a2,a3,Xx _ a4,fun i kv e q1 q2=>?_,fun o ho=>a6 o ((hR.S b o).1 ho)⟩
  grind [O.ren1]
 |rom sh BZ=>
  obtain⟨t,b,a1,a2⟩:=r;exact⟨k1.trans t,b,k3.trans a1,no1 a2⟩
 |iter all rem Ew=>
  obtain⟨t,b,mb,KI,seen,st,es,ck,a1,a2,a3,a4,a5,a6,a7,a8,a9,ZQ,gm,a12,vt⟩:=r;exact⟨k1.trans t,b,mb,KI,seen,st,es,ck,k4.trans a1,k3.trans a2,a3,(hR.S _ _).2 a4,a5,a6,a7,a8,fun i kv e q1 q2=>no1 (a9 i kv e q1 q2),ZQ,gm,a12,fun o ho=>vt o ((hR.S b o).1 ho)⟩
end
end Go.Eng
