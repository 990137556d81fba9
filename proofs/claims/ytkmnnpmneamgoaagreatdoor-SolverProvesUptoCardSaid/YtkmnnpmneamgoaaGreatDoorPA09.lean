/- Lemmas 9. -/
import Derived.Test.YtkmnnpmneamgoaaGreatDoorPA08
namespace Go.Eng
variable {x:Operand}{l:List Nat}{o:Oper}{K:St->Prop}{st:St}{d:Nat}{p:Operand}{n:Nat}{cx:Cx}{st2:St}{d':Nat}{f:FL}{σ:HJ}(ops:Array Oper)(T:G0)
section
variable {cx:Cx}{dst:Option Nat}{ty:Nat}{pos:String}{after:Array Edge}{gd:Option (Nat×Bool)}{st:St}{R:List Nat}{w:Option Nat}{K:HK}
theorem ID{d:Option Nat}{l:List Nat}(h:IC d l=some f):∃d',d=some d'/\f=(d' :: l,some d'):=by
 unfold IC at h
 grind
theorem YN{e:Nat}(hk:F7 cx true ⟨dst,.alloc e,ty,pos,after,gd⟩ st K)(hf:Fl cx ⟨dst,.alloc e,ty,pos,after,gd⟩ st=some (R,w)):CU cx ⟨dst,.alloc e,ty,pos,after,gd⟩ st R w K:=by
 simp only[F7]at hk;have hb:Nat.beq e Yn=false:=by
  grind [Fl]
 simp only[Fl,hb]at hf;obtain⟨d,rfl,e0⟩:=ID hf;cases e0;unfold SH at hk;simp only[hb]at hk;split at hk
 .rename_i hd;split at hk
  .simp_all
  .rename_i D8;split at hk
   .rename_i ha;refine⟨_,some (d,_),hk,fun r o' e=>(by simp_all),fun st2 Ho K' h'=>?_⟩;simp only[F7,SH];rw[Ho.h d (Ah ..),hd];simp only[ha,hb];exact h'
   simp_all
 simp_all
theorem gv{e:Nat}(hk:F7 cx true ⟨dst,.box e x,ty,pos,after,gd⟩ st K)(hf:Fl cx ⟨dst,.box e x,ty,pos,after,gd⟩ st=some (R,w)):CU cx ⟨dst,.box e x,ty,pos,after,gd⟩ st R w K:=by
 simp only[F7]at hk;obtain⟨d,rfl,e0⟩:=ID hf;cases e0;unfold fO at hk;simp only at hk;split at hk
 .rename_i hd;split at hk
  .simp_all
  .rename_i D8;obtain⟨cs,c1,c2,c3⟩:=N1 hk;split at c1
   .rename_i hm;refine⟨_,some (d,_),c1,fun r o' e=>(by simp_all),fun st2 Ho K' h'=>?_⟩;have hx:ev st2.t x=ev st.t x:=Ho.t x (by simp[Op.operands]);simp only[F7,fO];rw[Ho.h d (Ah ..),hd,hx];simp only[hm];refine c2 _ ?_;rw[c3 st.h st2.h (fun r hr=>Ho.h r (Ai _ hr))];exact h'
   .rename_i hm;refine⟨_,some (d,_),c1,fun r o' e=>(by simp_all),fun st2 Ho K' h'=>?_⟩;have hx:ev st2.t x=ev st.t x:=Ho.t x (by simp[Op.operands]);simp only[F7,fO];rw[Ho.h d (Ah ..),hd,hx];simp only[hm];exact c2 _ h'
 simp_all
theorem Qo{t n:Nat}{ps:Array (Nat×Operand)}(hk:F7 cx true ⟨dst,.buildSlice t n ps,ty,pos,after,gd⟩ st K)(hf:Fl cx ⟨dst,.buildSlice t n ps,ty,pos,after,gd⟩ st=some (R,w)) :
  CU cx ⟨dst,.buildSlice t n ps,ty,pos,after,gd⟩ st R w K:=by
 simp only[F7]at hk;obtain⟨d,gG,e0⟩:=ID hf;cases e0;unfold Iz at hk;split at hk
 .rename_i e he;split at hk
  .rename_i h1 h2;split at hk
   .simp_all
   .rename_i k FG;split at hk
    .rename_i hb;obtain⟨es,q1,q2⟩:=Tn hk;obtain⟨d',hd,v,x,q3,q4⟩:=Iu q1;have hd:dst.map (Kk cx)=some d':=hd;have gG:dst.map (Kk cx)=some d:=gG;rw[gG]at hd;cases hd;refine⟨v,some (d,x),q3,fun r o' e=>(by simp_all),fun st2 Ho K' h'=>?_⟩;have hx:∀p∈ps.toList,ev st2.t p.2=ev st.t p.2:=fun p hp=>Ho.t p.2 (by
      grind [Op.operands])
     simp only[F7,Iz,he,h1,h2];split
     .omega
     .rw[hb];exact q2 st2.t st2.h (fun r hr=>Ho.h r (Ai _ hr)) hx _ (q4 st2.h (Ho.h d (Ah ..)) K' h')
    simp_all
  simp_all
 simp_all
theorem RQ{t:Nat}{n c:Operand}(hk:F7 cx true ⟨dst,.makeSlice t n c,ty,pos,after,gd⟩ st K)(hf:Fl cx ⟨dst,.makeSlice t n c,ty,pos,after,gd⟩ st=some (R,w)) :
  CU cx ⟨dst,.makeSlice t n c,ty,pos,after,gd⟩ st R w K:=by
 simp only[F7]at hk;obtain⟨d,gG,e0⟩:=ID hf;cases e0;have hn:∀st2,Alike ⟨dst,.makeSlice t n c,ty,pos,after,gd⟩ (d::[]) st st2->ev st2.t n=ev st.t n/\ev st2.t c=ev st.t c:=fun st2 ha=>⟨ha.t n (by simp[Op.operands]),ha.t c (by simp[Op.operands])⟩;unfold Jx at hk;split at hk
 .rename_i e a b h1 h2 h3;split at hk
  .rename_i h4;split at hk
   .rename_i h5;split at hk
    .simp_all
    .rename_i k FG;obtain⟨d',hd,v,x,q3,q4⟩:=Iu hk.2;have hd:dst.map (Kk cx)=some d':=hd;have gG:dst.map (Kk cx)=some d:=gG;rw[gG]at hd;cases hd;refine⟨v,some (d,x),q3,fun r o' e=>(by simp_all),fun st2 Ho K' h'=>?_⟩;simp only[F7,Jx,(hn st2 Ho).1,(hn st2 Ho).2,h1,h2,h3,h4,h5];split
     .omega
     .exact⟨hk.1,q4 st2.h (Ho.h d (Ah ..)) K' h'⟩
   simp_all
  simp_all
 simp_all
theorem Ve{t:Nat}{r:Option Operand}(hk:F7 cx true ⟨dst,.makeMap t r,ty,pos,after,gd⟩ st K)(hf:Fl cx ⟨dst,.makeMap t r,ty,pos,after,gd⟩ st=some (R,w)) :
  CU cx ⟨dst,.makeMap t r,ty,pos,after,gd⟩ st R w K:=by
 cases r with
 |some r=>exact hk.elim
 |none=>
  simp only[F7]at hk;obtain⟨d,rfl,e0⟩:=ID hf;cases e0;unfold KO at hk;simp only at hk;split at hk
  .rename_i hd;split at hk
   .rename_i h1;split at hk
    .rename_i h2;split at hk
     .rename_i h3;refine⟨_,some (d,_),hk,fun r o' e=>(by simp_all),fun st2 Ho K' h'=>?_⟩;simp only[F7,KO];rw[Ho.h d (Ah ..),hd];simp only[h1,h2,h3];exact h'
     .rename_i h3;refine⟨_,some (d,_),hk,fun r o' e=>(by simp_all),fun st2 Ho K' h'=>?_⟩;simp only[F7,KO];rw[Ho.h d (Ah ..),hd];simp only[h1,h2,h3];exact h'
    simp_all
   simp_all
  simp_all
theorem YO{t:Nat}(hk:F7 cx true ⟨dst,.store t p x,ty,pos,after,gd⟩ st K)(hf:Fl cx ⟨dst,.store t p x,ty,pos,after,gd⟩ st=some (R,w)) :
  CU cx ⟨dst,.store t p x,ty,pos,after,gd⟩ st R w K:=by
 simp only[F7]at hk;have hn:∀st2,Alike ⟨dst,.store t p x,ty,pos,after,gd⟩ R st st2->ev st2.t p=ev st.t p/\ev st2.t x=ev st.t x:=fun st2 ha=>⟨ha.t p (by simp[Op.operands]),ha.t x (by simp[Op.operands])⟩;unfold OE at hk;split at hk
 .simp_all
 .rename_i D8;obtain⟨cs,c1,c2,c3⟩:=N1 hk;simp only[Fl]at hf;split at hf
  .rename_i r off hp;split at hf
   .cases hf
   .rename_i hm;cases hf;rw[hp]at c1;simp only at c1;split at c1
    .rename_i Ej hr;obtain⟨IF,hk'⟩:=c1;rw[hm]at hk';refine⟨_,some (r,_),hk',fun r o' e=>(by simp_all),fun st2 Ho K' h'=>?_⟩;simp only[F7,OE,(hn st2 Ho).1,(hn st2 Ho).2];refine c2 _ ?_;rw[hp];simp only[Ho.h r (Ah ..),hr,hm];exact⟨IF,h'⟩
    simp_all
  .rename_i r n sz i off hp;cases hf;rw[hp]at c1;simp only at c1;split at c1
   .rename_i HM es hr;split at c1
    .rename_i hs;obtain⟨IF,cell,e1,e2,hk'⟩:=c1;split at hk'
     .rename_i j m;refine⟨_,some (r,_),hk',fun r o' e=>(by simp_all),fun st2 Ho K' h'=>?_⟩;simp only[F7,OE,(hn st2 Ho).1,(hn st2 Ho).2];refine c2 _ ?_;rw[hp];simp only[Ho.h r (Ah ..),hr,hs];exact⟨IF,cell,e1,e2,h'⟩
     .rename_i Me;refine⟨_,some (r,_),hk',fun r o' e=>(by simp_all),fun st2 Ho K' h'=>?_⟩;simp only[F7,OE,(hn st2 Ho).1,(hn st2 Ho).2];refine c2 _ ?_;rw[hp];simp only[Ho.h r (Ah ..),hr,hs];refine⟨IF,cell,e1,e2,?_⟩;rw[c3 st.h st2.h (fun r hr=>Ho.h r (Ai _ hr))];exact h'
    simp_all
   simp_all
  simp_all
theorem RR{t:Nat}{m k:Operand}(hk:F7 cx true ⟨dst,.mapUpdate t m k x,ty,pos,after,gd⟩ st K)(hf:Fl cx ⟨dst,.mapUpdate t m k x,ty,pos,after,gd⟩ st=some (R,w)) :
  CU cx ⟨dst,.mapUpdate t m k x,ty,pos,after,gd⟩ st R w K:=by
 simp only[F7]at hk;have hn:∀st2,Alike ⟨dst,.mapUpdate t m k x,ty,pos,after,gd⟩ R st st2->ev st2.t m=ev st.t m/\ev st2.t k=ev st.t k/\ev st2.t x=ev st.t x:=fun st2 ha=>⟨ha.t m (by simp[Op.operands]),ha.t k (by simp[Op.operands]),ha.t x (by simp[Op.operands])⟩;simp only[Fl]at hf;split at hf
 .rename_i r hm;cases hf;unfold Ht at hk;rw[hm]at hk;simp only at hk;split at hk
  .rename_i sh BV hr;unfold Km at hk;split at hk
   .rename_i kt e h1;split at hk
    .rename_i sh' h2;split at hk
     .rename_i h3;split at hk
      .rename_i kx h4;split at hk
       .rename_i h5;refine⟨_,some (r,_),hk,fun r o' e=>(by simp_all),fun st2 Ho K' h'=>?_⟩;obtain⟨n1,n2,n3⟩:=hn st2 Ho;simp only[F7,Ht,n1,n2,n3,hm,Ho.h r (Ah ..),hr,Km,h1,h2,h3,h4,h5];rw[K4 (h:=st.h) (h2:=st2.h) (fun r hr=>Ho.h r (Ai _ hr))];exact h'
       simp_all
      simp_all
     simp_all
    simp_all
   simp_all
  .rename_i sh BV hr;unfold Km at hk;split at hk
   .rename_i kt e h1;split at hk
    .rename_i sh' h2;split at hk
     .rename_i h3;split at hk
      .rename_i kx h4;split at hk
       .rename_i h5;refine⟨_,some (r,_),hk,fun r o' e=>(by simp_all),fun st2 Ho K' h'=>?_⟩;obtain⟨n1,n2,n3⟩:=hn st2 Ho;simp only[F7,Ht,n1,n2,n3,hm,Ho.h r (Ah ..),hr,Km,h1,h2,h3,h4,h5];exact h'
       simp_all
      simp_all
     simp_all
    simp_all
   simp_all
  simp_all
 simp_all
theorem eG{A B:(AV->Prop)->Prop}(ha:Gs A)(hb:Gs B):Gs fun K=>A K\/B K:=by
 intro K hk;rcases hk with hk | hk
 .obtain⟨v,h1,h2⟩:=ha K hk<;>grind
 .obtain⟨v,h1,h2⟩:=hb K hk<;>grind
theorem TA{fn:Fn}{first cap:Array Operand}(hk:F7 cx true ⟨dst,.makeFunc fn first cap,ty,pos,after,gd⟩ st K)(hf:Fl cx ⟨dst,.makeFunc fn first cap,ty,pos,after,gd⟩ st=some (R,w)) :
  CU cx ⟨dst,.makeFunc fn first cap,ty,pos,after,gd⟩ st R w K:=by
 simp only[F7]at hk;simp only[Fl]at hf;cases hf;unfold KN at hk;split at hk
 .rename_i f h1;refine⟨_,none,hk,fun r o' e=>(by cases e),fun st2 Ho K' h'=>?_⟩;simp only[F7,h1,KN]
  have:cap.toList.map (fun x=>rsv st2.h (ev st2.t x))=cap.toList.map (fun x=>rsv st.h (ev st.t x)):=Cg fun x hx=>by
   rw[Ho.t x (by grind [Op.operands])];exact ns fun r hr=>Ho.h r (ZG (Ar.2 ⟨x,hx,rfl⟩) r hr)
  rw[this];exact h'
 simp_all
end
section
variable {cx:Cx}{dst:Option Nat}{ty:Nat}{pos:String}{after:Array Edge}{gd:Option (Nat×Bool)}{st:St}{R:List Nat}{w:Option Nat}{K:HK}
theorem bE{t:Nat}(hk:F7 cx true ⟨dst,.load t p,ty,pos,after,gd⟩ st K)(hf:Fl cx ⟨dst,.load t p,ty,pos,after,gd⟩ st=some (R,w)):CU cx ⟨dst,.load t p,ty,pos,after,gd⟩ st R w K:=by
 simp only[F7]at hk;have hn:∀st2,Alike ⟨dst,.load t p,ty,pos,after,gd⟩ R st st2->ev st2.t p=ev st.t p:=fun st2 ha=>ha.t p (by simp[Op.operands]);simp only[Fl]at hf;unfold Jw at hk;split at hf
 .grind [KX,F7,Jw,CU.pick]
 .grind [KX,F7,Jw,List.mem_cons_self,CU.pick,Alike.h]
 .rename_i r n sz i off hp;cases hf;rw[hp]at hk;simp only at hk;split at hk
  all_goals grind [KX,F7,Jw,CU.pick,Alike.h]
 simp_all
theorem Xo(hk:F7 cx true ⟨dst,.assign x,ty,pos,after,gd⟩ st K)(hf:Fl cx ⟨dst,.assign x,ty,pos,after,gd⟩ st=some (R,w)):CU cx ⟨dst,.assign x,ty,pos,after,gd⟩ st R w K:=by
 simp only[F7]at hk;have hn:∀st2,Alike ⟨dst,.assign x,ty,pos,after,gd⟩ R st st2->ev st2.t x=ev st.t x:=fun st2 ha=>ha.t x (by simp[Op.operands]);simp only[Fl]at hf;split at hf
 .cases hf
 .rename_i hx;cases hf;have same:∃y,∀(h:Nat->HO) (K:HK),OR cx dst h (ev st.t x) K↔K y h:=by
   unfold OR;cases dst with
   |none=>exact⟨_,fun _ _=>Iff.rfl⟩
   |some d=>
    simp only;cases Es cx.pl.tok d with
    |some sz=>
     simp only;cases Nat.beq sz 0 with
     |true=>exact⟨_,fun _ _=>Iff.rfl⟩
     |false=>
      refine⟨ev st.t x,fun h K=>?_⟩;simp_all
    |none=>
     simp only;cases Es cx.pl.arr d with
     |some sz=>
      refine⟨ev st.t x,fun h K=>?_⟩;simp_all
     |none=>exact⟨_,fun _ _=>Iff.rfl⟩
  obtain⟨y,same⟩:=same;exact .pick (CN y) ((same _ _).1 hk) fun st2 ha K' h=>by grind [F7]
theorem Rv{t:Nat}{lo hi mx:Option Operand}(hp:SK cx.pl.tok dst=none)(hk:F7 cx true ⟨dst,.slice t x lo hi mx,ty,pos,after,gd⟩ st K)(hf:Fl cx ⟨dst,.slice t x lo hi mx,ty,pos,after,gd⟩ st=some (R,w)) :
  CU cx ⟨dst,.slice t x lo hi mx,ty,pos,after,gd⟩ st R w K:=by
 simp only[F7,hp]at hk;have hn:∀st2,Alike ⟨dst,.slice t x lo hi mx,ty,pos,after,gd⟩ R st st2->ev st2.t x=ev st.t x/\CJ st2.t lo=CJ st.t lo/\CJ st2.t hi=CJ st.t hi/\CJ st2.t mx=CJ st.t mx:=by
  grind [Option,CJ,Op.operands,Alike.t]
 simp only[Fl,hp]at hf;split at hf
 .cases hf
 .rename_i hx;cases hf;have e3:CJ st.t none=some none:=rfl
  have U2:Gs (fun K1=>Ip cx dst st.h t (ev st.t x) (CJ st.t lo) (CJ st.t hi) (some none) fun v _=>K1 v) /\
    ∀(h:Nat->HO) (K:HK),Ip cx dst h t (ev st.t x) (CJ st.t lo) (CJ st.t hi) (some none) K↔Ip cx dst st.h t (ev st.t x) (CJ st.t lo) (CJ st.t hi) (some none) (fun v _=>K v h):=by
   generalize ev st.t x=X at hx;unfold Ip;constructor
   .repeat' split
    all_goals first | exact Ch | exact DH (CN _) | exact DH (DH (CN _)) | skip
    all_goals first | (rename_i e;cases e;done) | skip
    all_goals (exfalso;exact hx _ _ rfl)
   .intro h K
    repeat' split
    all_goals simp_all
    all_goals simp_all
  grind [F7,CU.pick]
 .rename_i y tk es hx;obtain⟨d,rfl,e0⟩:=ID hf;cases e0;rw[hx]at hk;unfold Ip at hk;split at hk
  .rename_i Ib OH rZ e1 e2 e3;split at hk
   .simp_all
   .rename_i e he;split at hk
    .simp_all
    .rename_i k FG;simp only at hk;split at hk
     .grind [CJ]
     .rename_i m;split at hk
      .rename some d=some _=>e5
       cases e5
       split at hk
       .rename_i tj;refine⟨_,none,hk.2.2,fun r o' e=>(by cases e),fun st2 Ho K' h'=>?_⟩;obtain⟨n1,n2,n3,n4⟩:=hn st2 Ho;simp only[F7,hp];rw[n1,n2,n3,n4,hx,e1,e2,e3];unfold Ip;simp only[he];split
        .omega
        .simp only[tj];exact⟨hk.1,hk.2.1,h'⟩
       rename_i tj;split at hk
       .rename_i hd;refine⟨_,some (d,_),hk.2.2,fun r o' e=>(by simp_all),fun st2 Ho K' h'=>?_⟩;obtain⟨n1,n2,n3,n4⟩:=hn st2 Ho;simp only[F7,hp];rw[n1,n2,n3,n4,hx,e1,e2,e3];unfold Ip;simp only[he];split
        .omega
        .simp only[tj];rw[Ho.h d (Ah ..),hd];exact⟨hk.1,hk.2.1,h'⟩
       simp_all
      simp_all
   simp_all
  simp_all
 simp_all
theorem gx{t:Nat}{lo hi mx:Option Operand}{p:Nat}(hp:SK cx.pl.tok dst=some p)(hk:F7 cx true ⟨dst,.slice t x lo hi mx,ty,pos,after,gd⟩ st K)(hf:Fl cx ⟨dst,.slice t x lo hi mx,ty,pos,after,gd⟩ st=some (R,w)) :
  Sd cx ⟨dst,.slice t x lo hi mx,ty,pos,after,gd⟩ st R w K:=by
 simp only[F7,hp]at hk;simp only[Fl,hp]at hf;obtain⟨d',r,n,hd,hx,e0⟩:=bC hf;cases e0;cases dst with
 |none=>cases hd
 |some d=>
 cases hd
 unfold Ut at hk;split at hk
 .rw[hx]at hk;unfold mV at hk;split at hk
  .rename_i d0 OH e1 e2;cases e1;split at hk
   .rename_i e he;split at hk
    .simp_all
    .rename_i k FG;simp only at hk;split at hk
     .rename_i sz es hr;split at hk
      .rename_i hd;split at hk
       .rename_i q1 q3;obtain⟨h1,hk⟩:=hk;have hr8:r<10000000/\0<Kk cx d:=by simp_all
        obtain⟨hr7,hz⟩:=hr8;refine⟨_,[(r,.dead),(Kk cx d,_)],hk,fun r' o' e=>?_,fun st2 ha K' h'=>?_⟩
        .rcases AF.1 e with e | e
         .cases e
          refine⟨.inr (.inl ⟨by omega,.inl ?_⟩),Ah ..⟩;omega
         .obtain e:=AD.1 e;cases e;refine⟨.inr (.inl ⟨by omega,.inr ?_⟩),Ai _ (Ah ..)⟩;omega
        .have o1:CJ st2.t hi=CJ st.t hi:=by
          cases hi<;>grind [CJ,Op.operands,Alike.t]
         simp only[F7,hp];unfold Ut;rw[ha.t x (by simp[Op.operands]),o1,hx,e2];unfold mV;simp only[he];split
         .omega
         .simp only[ha.h r (Ah ..),hr,ha.h (Kk cx d) (Ai _ (Ah ..)),hd,q1,q3];exact⟨h1,h'⟩
       simp_all
      simp_all
     simp_all
   simp_all
  simp_all
 simp_all
theorem Xn{s:Operand}{Hm:Array TypeId}(hk:F7 cx true ⟨dst,.call ⟨.builtin .append,#[s,x],Hm⟩,ty,pos,after,gd⟩ st K)(hf:Fl cx ⟨dst,.call ⟨.builtin .append,#[s,x],Hm⟩,ty,pos,after,gd⟩ st=some (R,w)) :
  CU cx ⟨dst,.call ⟨.builtin .append,#[s,x],Hm⟩,ty,pos,after,gd⟩ st R w K:=by
 have hk:Gb cx dst st.h .append Hm.toList [ev st.t s,ev st.t x] K:=hk;have hf:Xm cx dst (ev st.t s) (ev st.t x)=some (R,w):=hf;have hn:∀st2,Alike ⟨dst,.call ⟨.builtin .append,#[s,x],Hm⟩,ty,pos,after,gd⟩ R st st2->ev st2.t s=ev st.t s/\ev st2.t x=ev st.t x:=fun st2 ha=>
  ⟨ha.t s (by simp[Op.operands,Call.operands]),ha.t x (by simp[Op.operands,Call.operands])⟩
 have IE:∀st2,Alike ⟨dst,.call ⟨.builtin .append,#[s,x],Hm⟩,ty,pos,after,gd⟩ R st st2->∀K' : HK,Gb cx dst st2.h .append Hm.toList [ev st.t s,ev st.t x] K'->F7 cx true ⟨dst,.call ⟨.builtin .append,#[s,x],Hm⟩,ty,pos,after,gd⟩ st2 K':=by
  intro st2 ha K' h;rw[<-(hn st2 ha).1,<-(hn st2 ha).2]at h;exact h
 generalize Hm.toList=l at hk IE
 match l,hk,IE with
 | [t,t'],hk,IE=>
  simp only[Gb]at hk IE;split at hk
  .rename_i ht;simp only[ht]at IE;unfold Iq at hk IE;split at hk
   .rename_i e he;simp only[he]at IE;split at hk
    .simp_all
    .rename_i hz;simp only[hz]at IE;split at hk
     .simp_all
     .rename_i k FG;obtain⟨es2,q1,q2⟩:=bu hk;have p5:∀d,R=d::im (ev st.t x)->∀st2,Alike ⟨dst,.call ⟨.builtin .append,#[s,x],Hm⟩,ty,pos,after,gd⟩ R st st2->∀r n,ev st.t x=.msl r n->st2.h r=st.h r:=fun d hR st2 ha r n e=>ha.h r (by rw[hR,e];simp[im]);unfold Xm at hf;split at hf
      .rename_i hs;obtain⟨d,gG,e0⟩:=ID hf;cases e0;rw[hs]at q1 IE;simp only at q1 IE;obtain⟨d',hd,v,y,q3,q4⟩:=Iu q1.2;rw[gG]at hd;cases hd;refine⟨v,some (d,y),q3,fun r o' e=>(by simp_all),fun st2 Ho K' h'=>IE st2 Ho K' ?_⟩;split
       .omega
       .exact q2 st2.h (p5 d rfl st2 Ho) _ ⟨q1.1,q4 st2.h (Ho.h d (Ah ..)) K' h'⟩
      .rename_i HM es hs;obtain⟨d,gG,e0⟩:=ID hf;cases e0;rw[hs]at q1 IE;simp only at q1 IE;split at q1
       .rename_i h1;obtain⟨d',hd,v,y,q3,q4⟩:=Iu q1.2;rw[gG]at hd;cases hd;refine⟨v,some (d,y),q3,fun r o' e=>(by simp_all),fun st2 Ho K' h'=>IE st2 Ho K' ?_⟩;split
        .omega
        .refine q2 st2.h (p5 d rfl st2 Ho) _ ?_;simp only[h1];exact⟨q1.1,q4 st2.h (Ho.h d (Ah ..)) K' h'⟩
       simp_all
      .rename_i r HM es hs;cases hf;rw[hs]at q1 IE;simp only at q1 IE;split at q1
       .rename_i sz n hr;split at q1
        .rename_i h1 h2;refine⟨_,some (r,_),q1.2,fun r o' e=>(by simp_all),fun st2 Ho K' h'=>IE st2 Ho K' ?_⟩;split
         .omega
         .refine q2 st2.h (p5 r rfl st2 Ho) _ ?_;simp only[Ho.h r (Ah ..),hr,h1,h2];exact⟨q1.1,h'⟩
        simp_all
       simp_all
      .rename_i r n hs;cases hf;rw[hs]at q1 IE;simp only at q1 IE;split at q1
       .rename_i sz es hr;split at q1
        .rename_i h1;refine⟨_,some (r,_),q1.2,fun r o' e=>(by simp_all),fun st2 Ho K' h'=>IE st2 Ho K' ?_⟩;split
         .omega
         .refine q2 st2.h (p5 r rfl st2 Ho) _ ?_;simp only[Ho.h r (Ah ..),hr,h1];exact⟨q1.1,h'⟩
        simp_all
       simp_all
      simp_all
   simp_all
  simp_all
 | [],hk,_=>exact hk.elim
 | [_],hk,_=>exact hk.elim
 |_::_::_::_,hk,_=>exact hk.elim
theorem QE(t:Nat):Gs (Kp T t):=by
 unfold Kp
 repeat' split
 all_goals first | exact Ch | exact CN _
theorem Uq(ty:Nat)(ok:Bool)(BV:List (Value×AV))(kx:Value):Gs (Mu T ty ok BV kx):=by
 unfold Mu
 repeat' split
 .refine eG (PE fun a=>DH (CN _)) (DH ?_);intro K hk;obtain⟨v,h1,h2⟩:=QE T _ _ hk<;>grind [QE]
 .exact eG (PE fun a=>DH (CN _)) (DH (QE T _))
 .exact Ch
theorem ac(ty:Nat)(sh:EL)(k:AV){F:Value->(AV->Prop)->Prop}(h:∀x,Gs (F x)):Gs fun K=>Km T ty sh k fun kx=>F kx K:=by
 unfold Km
 repeat' split
 all_goals grind [Ch]
theorem Xp{t:Nat}{m k:Operand}{ok:Bool}(hk:F7 cx true ⟨dst,.lookup t m k ok,ty,pos,after,gd⟩ st K)(hf:Fl cx ⟨dst,.lookup t m k ok,ty,pos,after,gd⟩ st=some (R,w)) :
  CU cx ⟨dst,.lookup t m k ok,ty,pos,after,gd⟩ st R w K:=by
 simp only[F7]at hk;have hn:∀st2,Alike ⟨dst,.lookup t m k ok,ty,pos,after,gd⟩ R st st2->ev st2.t m=ev st.t m/\ev st2.t k=ev st.t k:=fun st2 ha=>⟨ha.t m (by simp[Op.operands]),ha.t k (by simp[Op.operands])⟩;simp only[Fl]at hf;unfold Na at hk;split at hf
 .rename_i sh BV hm;cases hf;rw[hm]at hk;simp only at hk;exact .pick (ac _ _ _ _ fun _=>Uq _ _ _ _ _) hk fun st2 ha K' h=>by grind [F7,Na]
 .rename_i r hm;cases hf;rw[hm]at hk;simp only at hk;split at hk
  all_goals first | exact hk.elim | (rename_i e;exact .pick (ac _ _ _ _ fun _=>Uq _ _ _ _ _) hk fun st2 ha K' h=>by grind [F7,Na,Alike.h])
 simp_all
theorem mR(t:Nat)(h:Nat->HO)(x:AV):Gs (Ry T t h x):=by
 unfold Ry
 repeat' split
 all_goals first | exact Ch | exact CN _
theorem uh{T:G0}{t:Nat}{h h2:Nat->HO}{x:AV}(e:∀r,x=.mref r->h2 r=h r){K:AV->Prop}:Ry T t h2 x K=Ry T t h x K:=by
 cases x<;>first | rfl | skip
 grind [Ry]
theorem gw{Hm:Array TypeId}(hk:F7 cx true ⟨dst,.call ⟨.builtin .len,#[x],Hm⟩,ty,pos,after,gd⟩ st K)(hf:Fl cx ⟨dst,.call ⟨.builtin .len,#[x],Hm⟩,ty,pos,after,gd⟩ st=some (R,w)) :
  CU cx ⟨dst,.call ⟨.builtin .len,#[x],Hm⟩,ty,pos,after,gd⟩ st R w K:=by
 have hk:Gb cx dst st.h .len Hm.toList [ev st.t x] K:=hk;have hf:Hh cx dst (.builtin .len) st.t [ev st.t x]=some (R,w):=hf;have hn:∀st2,Alike ⟨dst,.call ⟨.builtin .len,#[x],Hm⟩,ty,pos,after,gd⟩ R st st2->ev st2.t x=ev st.t x:=fun st2 ha=>ha.t x (by simp[Op.operands,Call.operands]);have IE:∀st2,Alike ⟨dst,.call ⟨.builtin .len,#[x],Hm⟩,ty,pos,after,gd⟩ R st st2->∀K' : HK,Gb cx dst st2.h .len Hm.toList [ev st.t x] K'->F7 cx true ⟨dst,.call ⟨.builtin .len,#[x],Hm⟩,ty,pos,after,gd⟩ st2 K':=by
  intro st2 ha K' h;rw[<-hn st2 ha]at h;exact h
 generalize Hm.toList=l at hk IE
 match l,hk,IE with
 | [t],hk,IE=>
  grind [Hh,mR,Gb,uh,CU.pick,Alike.h]
 | [],hk,_=>exact hk.elim
 |_::_::_,hk,_=>exact hk.elim
end
theorem qm(h:IS l n=true):n∈l:=by
 induction l<;>grind [IS,CC]
theorem YA(G:Nat->HO):∀(σ:HJ) (h:Nat->HO),D7 σ=true->(fun i=>match Cf σ i with | some j=>G j | none=>h i)=Ij h (σ.map fun p=>(p.1,G p.2))
 | [],h,_=>rfl
 |(i,j)::r,h,hσ=>by
  unfold D7 at hσ;simp only[Aj]at hσ;have ih:=YA G r (AC h i (G j)) hσ.2
  grind [Ij,AC,Cf,CC]
theorem VH(hσ:D7 σ=true){h h' : Nat->HO}:Ec σ d 0 h h'=Ij h (σ.map fun p=>(p.1,(h' p.2).ren (Ft σ d 0) h')):=by
 rw[<-YA (fun j=>(h' j).ren (Ft σ d 0) h') σ h hσ]
 grind [Ec,Nat.blt,Nat.ble_eq]
section
variable {cx:Cx}{op:Op}{dst:Option Nat}{ty:Nat}{pos:String}{after:Array Edge}{gd:Option (Nat×Bool)}{st:St}{R:List Nat}{w:Option Nat}{K:HK}
theorem CU.toL(h:CU cx ⟨dst,op,ty,pos,after,gd⟩ st R w K):Sd cx ⟨dst,op,ty,pos,after,gd⟩ st R w K:=by
 obtain⟨v,e,h1,h2,h3⟩:=h;cases e with
 |none=>exact⟨v,[],h1,fun r o' e=>(by cases e),h3⟩
 |some p=>exact⟨v,[p],h1,fun r o' e=>by
   obtain rfl:=AD.1 e;obtain⟨a,b⟩:=h2 r o' rfl;exact⟨by rw[a];exact .inl rfl,b⟩,h3⟩
theorem bD{c:Call}(hk:F7 cx true ⟨dst,.call c,ty,pos,after,gd⟩ st K)(hf:Fl cx ⟨dst,.call c,ty,pos,after,gd⟩ st=some (R,w)):Sd cx ⟨dst,.call c,ty,pos,after,gd⟩ st R w K:=by
 obtain⟨uY,args,Hm⟩:=c;have J4:∀st2,Alike ⟨dst,.call ⟨uY,args,Hm⟩,ty,pos,after,gd⟩ R st st2->args.toList.map (ev st2.t)=args.toList.map (ev st.t):=fun st2 ha=>
  Cg fun x hx=>ha.t x (by grind [Op.operands,Call.operands])
 cases uY with
 |invoke r m=>exact hk.elim
 |value f=>
  have hk:GN cx true dst st (ev st.t f) (args.toList.map (ev st.t)) K:=hk;have hf:Hh cx dst (.value f) st.t (args.toList.map (ev st.t))=some (R,w):=hf;unfold Hh at hf;unfold GN at hk;simp only at hf hk;have hn:=J4;split at hf
  .rename_i dO;rw[dO]at hk;cases hf;obtain⟨res,h1,h2⟩:=hk;refine CU.toL ⟨res,none,h2,fun r o' e=>(by cases e),fun st2 ha K' h'=>?_⟩;show GN cx true dst st2 (ev st2.t f) (args.toList.map (ev st2.t)) K';rw[J4 st2 ha,ha.t f (by simp[Op.operands,Call.operands])];unfold GN;simp only[dO];refine⟨res,?_,h'⟩
   grind [K4,QW,Alike.h]
  .rename_i dO;rw[dO]at hk;simp only at hk;cases dst with
   |none=>simp_all
   |some d=>
    obtain⟨n,sz,es,h1,h2,h3⟩:=hk;have hf:some (BB d 0::(Zd (ev st.t f)++TQ (args.toList.map (ev st.t))),some (BB d 0))=some (R,w):=hf;cases hf;refine CU.toL ⟨_,some (BB d 0,_),h3,fun r o' e=>(by simp_all),fun st2 ha K' h'=>?_⟩;show GN cx true (some d) st2 (ev st2.t f) (args.toList.map (ev st2.t)) K';rw[J4 st2 ha,ha.t f (by simp[Op.operands,Call.operands])];unfold GN;simp only[dO];refine⟨n,sz,es,?_,?_,h'⟩
    all_goals grind [DL,K4,QW,Alike.h]
  .rename_i dO;rw[dO]at hk;have hk:RN cx 0 dst st.h (ev st.t f) (args.toList.map (ev st.t)) K:=hk;split at hf
   .rename_i r n l hl;cases hf;have U2:=hk;unfold RN at U2;rw[hl]at U2;split at U2
    .rename_i d0 f0 r0 n0 l0 e1 e2 z1 z2;cases e2;split at U2
     .rename_i vs dT;split at U2
      .rename_i sz es hr;obtain⟨n',E7,h1,h2⟩:=U2;refine CU.toL ⟨_,some (r,_),h2,fun r o' e=>(by simp_all),fun st2 ha K' h'=>?_⟩;show GN cx true _ st2 (ev st2.t f) (args.toList.map (ev st2.t)) K';rw[J4 st2 ha,ha.t f (by simp[Op.operands,Call.operands]),hl,e1];unfold GN;simp only[dO];unfold RJ;simp only;unfold RN;simp only[dT,ha.h r (Ah ..),hr];exact⟨n',E7,h1,h'⟩
      simp_all
     simp_all
    simp_all
   simp_all
  .rename_i k dO;rw[dO]at hk;cases hb:Nat.beq k 1 with
   |true=>
    have nZ:Nat.beq (k+1) 2=true:=hb;have hk:XZ cx dst st (ev st.t f) (args.toList.map (ev st.t)) K:=by
     simp_all
    rw[hb]at hf;cases dst with
    |none=>exact hk.elim
    |some d=>
     obtain⟨sz,es,h1,h2,h3⟩:=hk;have hf:some (BB d 0::(Zd (ev st.t f)++TQ (args.toList.map (ev st.t))),some (BB d 0))=some (R,w):=hf;cases hf;refine CU.toL ⟨_,some (BB d 0,_),h3,fun r o' e=>(by simp_all),fun st2 ha K' h'=>?_⟩;show GN cx true (some d) st2 (ev st2.t f) (args.toList.map (ev st2.t)) K';rw[J4 st2 ha,ha.t f (by simp[Op.operands,Call.operands])];unfold GN;simp only[dO,nZ];refine⟨sz,es,?_,?_,h'⟩
     all_goals grind [DL,K4,QW,Alike.h]
   |false=>
    have nZ:Nat.beq (k+1) 2=false:=hb;rw[hb]at hf;have U2:(match Nat.beq (k+1) 2 with | true=>XZ cx dst st (ev st.t f) (args.toList.map (ev st.t)) K | false=>match Nat.beq (k+1) 3 with | true=>UY cx dst st (ev st.t f) (args.toList.map (ev st.t)) K | false=>RJ cx (k+1) dst st (ev st.t f) (args.toList.map (ev st.t)) K):=hk;rw[nZ]at U2;cases hc:Nat.beq k 2 with
    |true=>
     have Pf:Nat.beq (k+1) 3=true:=hc;rw[hc]at hf;simp only[Pf]at U2;have hf:kG (args.toList.map (ev st.t))=some (R,w):=hf;unfold kG at hf;unfold UY at U2;split at hf
     .rename_i vs dT;cases hf;split at U2
      .rename_i l fe e1 e2 z1 z2;rw[dT]at e2;cases e2;split at U2
       .rename_i r sz es eY n e3 e4;obtain⟨⟨rfl,rfl⟩,v,E7,n',h1,h2⟩:=U2;refine⟨_,[(1001,_),(1000,_)],h2,fun r' o' e=>?_,fun st2 ha K' h'=>?_⟩
        .rcases AF.1 e with e | e
         .cases e
          exact⟨.inr (.inl ⟨by decide,.inr aa2⟩),by simp⟩
         .obtain e:=AD.1 e;cases e;exact⟨.inr (.inl ⟨by decide,.inl aa2⟩),by simp⟩
        show GN cx true _ st2 (ev st2.t f) (args.toList.map (ev st2.t)) K';rw[J4 st2 ha,ha.t f (by simp[Op.operands,Call.operands]),e1];unfold GN;simp only[dO,nZ,Pf];unfold UY;simp only[dT,ha.h 1000 aa1,ha.h 1001 aa1,e3,e4];exact⟨⟨trivial,trivial⟩,v,E7,n',h1,h'⟩
       simp_all
      simp_all
     simp_all
    |false=>
    have Pf:Nat.beq (k+1) 3=false:=hc;rw[hc]at hf;have gH:RJ cx (k+1) dst st (ev st.t f) (args.toList.map (ev st.t)) K:=by
     simp_all
    have tu:kE k dst (args.toList.map (ev st.t))=some (R,w):=hf;unfold kE at tu;unfold RJ at gH;cases he:Nat.beq k 3 with
    |true=>
     have jx:Nat.beq (k+1) 4=true:=he;rw[he]at tu;rw[jx]at gH;have tu:some (pm,some WX)=some (R,w):=tu;have gH:YR cx dst st (ev st.t f) (args.toList.map (ev st.t)) K:=gH;cases tu;unfold YR at gH;split at gH
     .rename_i d f' caps e2 _ _ _;obtain⟨σ,H0,Hn,args',res,g1,g2,g3,g4⟩:=gH;simp only[Aj]at g2;refine⟨_,σ.map fun p=>(p.1,(Af Hn Ae p.2).ren (Ft σ d 0) (Af Hn Ae)),(VH (h:=st.h) (h':=Af Hn Ae) (d:=d) g2.1.1)▸g4,fun r' o' e=>?_,fun st2 ha K' h'=>?_⟩
      .obtain⟨p,hp,e⟩:=Ar.1 e;cases e;exact⟨.inr (.inr rfl),qm (BO.1 g2.2 p hp)⟩
      .show GN cx true _ st2 (ev st2.t f) (args.toList.map (ev st2.t)) K';rw[J4 st2 ha,ha.t f (by simp[Op.operands,Call.operands])];unfold GN;simp only[dO,nZ,Pf];unfold RJ;simp only[jx];unfold YR
       grind [VH,Alike.h]
     simp_all
    |false=>
    have jx:Nat.beq (k+1) 4=false:=he;rw[he]at tu;rw[jx]at gH;have hf:dC dst (args.toList.map (ev st.t))=some (R,w):=tu;have hk:RN cx (k+1) dst st.h (ev st.t f) (args.toList.map (ev st.t)) K:=gH;obtain⟨d,r,n,l,rfl,hl,e0⟩:=bB hf;cases e0;unfold RN at hk;rw[hl]at hk;split at hk
    .rename_i d0 f0 r0 n0 l0 e9 e1 e2;cases e9;cases e2;split at hk
     .rename_i vs dT;split at hk
      .rename_i sz es hr;obtain⟨n',E7,h0,h1,h2⟩:=hk;have h00:=h0;simp only[Aj,Do]at h00;refine⟨_,[(r,.dead),(BB d 0,_)],h2,fun r' o' e=>?_,fun st2 ha K' h'=>?_⟩
       .rcases AF.1 e with e | e
        .cases e
         refine⟨.inr (.inl ⟨by grind [BB],.inl ?_⟩),Ah ..⟩;omega
        .obtain e:=AD.1 e;cases e;refine⟨.inr (.inl ⟨by grind [BB],.inr ?_⟩),Ai _ (Ah ..)⟩;omega
       show GN cx true _ st2 (ev st2.t f) (args.toList.map (ev st2.t)) K';rw[J4 st2 ha,ha.t f (by simp[Op.operands,Call.operands]),hl,e1];unfold GN;simp only[dO,nZ,Pf];unfold RJ;simp only[jx];unfold RN;simp only[dT,ha.h r (Ah ..),hr]
       have:DL st2.h d 1=DL st.h d 1:=by grind [DL,Alike.h]
       exact⟨n',E7,by simp_all,h1,h'⟩
      simp_all
     simp_all
    simp_all
 |builtin b=>
  refine CU.toL ?_;have mm:∀f:Int->Int->Int,(∀(d:Option Nat) (h:Nat->HO) (Hm:List Nat) (args:List AV) (K:HK),Gb cx d h b Hm args K=(match args with | [x,y]=>qo f x y fun v=>K v h | _=>False))->R=[]/\w=none->CU cx ⟨dst,.call ⟨.builtin b,args,Hm⟩,ty,pos,after,gd⟩ st R w K:=by
   rintro f hb ⟨rfl,rfl⟩
   have hk:Gb cx dst st.h b Hm.toList (args.toList.map (ev st.t)) K:=hk;rw[hb]at hk;split at hk
   .rename_i x y e;refine .pick (qF f x y) hk fun st2 ha K' h=>?_;show Gb cx dst st2.h b Hm.toList (args.toList.map (ev st2.t)) K';simp_all
   simp_all
  cases b
  case max=>exact mm max (fun d h Hm args K=>by cases args with | nil=>rfl | cons x l=>cases l with | nil=>rfl | cons y l=>cases l<;>rfl) (by
   have hf:Hh cx dst (.builtin .max) st.t (args.toList.map (ev st.t))=some (R,w):=hf
   grind [Hh])
  case min=>exact mm min (fun d h Hm args K=>by cases args with | nil=>rfl | cons x l=>cases l with | nil=>rfl | cons y l=>cases l<;>rfl) (by
   have hf:Hh cx dst (.builtin .min) st.t (args.toList.map (ev st.t))=some (R,w):=hf
   grind [Hh])
  case append=>
   obtain⟨l⟩:=args
   match l,hk,hf with
   | [s,x],hk,hf=>grind [Xn]
   | [],hk,hf=>cases Hm;exact hk.elim
   | [_],hk,hf=>exact hk.elim
   |_::_::_::_,hk,hf=>exact hk.elim
  case len=>
   obtain⟨l⟩:=args
   match l,hk,hf with
   | [x],hk,hf=>grind [gw]
   | [],hk,hf=>exact hk.elim
   |_::_::_,hk,hf=>exact hk.elim
  all_goals exact hk.elim
theorem aT(hc:∀c,o.op≠.call c)(hs:(∃t x lo hi mx,o.op=.slice t x lo hi mx)->SK cx.pl.tok o.dst=none)(hk:F7 cx true o st K)(hf:Fl cx o st=some (R,w)):CU cx o st R w K:=by
 obtain⟨dst,op,ty,pos,after,gd⟩:=o;cases op with
 |call c=>simp_all
 |alloc e=>grind [YN]
 |box e x=>grind [gv]
 |buildSlice t n ps=>grind [Qo]
 |makeSlice t n c=>grind [RQ]
 |makeMap t r=>grind [Ve]
 |store t p x=>grind [YO]
 |mapUpdate t m k x=>grind [RR]
 |makeFunc fn first cap=>grind [TA]
 |load t p=>grind [bE]
 |assign x=>grind [Xo]
 |slice t x lo hi mx=>grind [Rv]
 |lookup t x i ok=>grind [Xp]
 |move x=>
  cases hf
  exact .pick (CN _) hk fun st2 ha K' h=>by grind [F7,Op.operands,Alike.t]
 |pick c a b=>
  cases hf
  exact .pick (iR _ _ _) hk fun st2 ha K' h=>by grind [F7,Op.operands,Alike.t]
 |nilCheck x=>
  grind [mS,F7,Op.operands,CU.pick,Alike.t]
 |binOp op t x y u=>
  simp only[Fl]at hf;split at hf
  .cases hf
  .rename_i hx;cases hf;exact .pick (iP _ _ _ _ _ _ hx) hk fun st2 ha K' h=>by grind [F7,Op.operands,Alike.t]
 |unOp op t x=>
  grind [iT,F7,Op.operands,CU.pick,Alike.t]
 |convert s t x=>
  grind [iQ,F7,Op.operands,CU.pick,Alike.t]
 |fieldAddr s x f=>
  grind [cB,F7,Op.operands,CU.pick,Alike.t]
 |field s x f=>
  grind [ab,F7,Op.operands,CU.pick,Alike.t]
 |indexAddr t x i=>
  cases hf
  exact .pick (Ur _ _ _ _) hk fun st2 ha K' h=>by grind [F7,Op.operands,Alike.t]
 |index t x i=>
  cases hf
  exact .pick (cC _ _ _ _) hk fun st2 ha K' h=>by grind [F7,Op.operands,Alike.t]
 |extract x i=>
  grind [XO,F7,Op.operands,CU.pick,Alike.t]
 |build t ps=>
  cases hf
  refine .pick (cA _ _ _ _) hk fun st2 ha K' h=>?_;have hx:∀p∈ps.toList,ev st2.t p.2=ev st.t p.2:=fun p hp=>ha.t p.2 (by
   grind [Op.operands])
  simp only[F7];have fill:∀(pl:Nat->Option (Nat×Nat)) (l:List (Nat×Operand)) (cs:List AV) (K:List AV->Prop),(∀p∈l,ev st2.t p.2=ev st.t p.2)->KE pl cs st2.t l K=KE pl cs st.t l K:=by
   intro pl l
   induction l with
   |nil=>intro cs K _;rfl
   |cons p l ih=>
    intro cs K hp;obtain⟨i,x⟩:=p;have h1:ev st2.t x=ev st.t x:=hp (i,x) (Ah ..);have h2:∀cs,KE pl cs st2.t l K=KE pl cs st.t l K:=fun cs=>ih cs K (fun p tL=>hp p (Ai _ tL));simp only[KE,h1,h2]
  unfold PZ at h⊢;simp only[fill _ _ _ _ hx];exact h
 |_=>cases hf
theorem fE(hk:F7 cx true o st K)(hf:Fl cx o st=some (R,w)):Sd cx o st R w K:=by
 obtain⟨dst,op,ty,pos,after,gd⟩:=o
 by_cases h:∃c,op=.call c
 .grind [bD]
 .by_cases h2:∃t x lo hi mx,op=.slice t x lo hi mx
  .obtain⟨t,x,lo,hi,mx,rfl⟩:=h2;cases hp:SK cx.pl.tok dst<;>grind [CU.toL,Rv,gx]
  grind [CU.toL,aT]
end
theorem gu(h:∀x∈o.op.operands,ev st2.t x=ev st.t x):Fl cx o st2=Fl cx o st:=by
 obtain⟨dst,op,ty,pos,after,gd⟩:=o;cases op with
 |call c=>
  obtain⟨uY,args,Hm⟩:=c;have ha:args.toList.map (ev st2.t)=args.toList.map (ev st.t):=Cg fun x hx=>h x (by grind [Op.operands,Call.operands]);simp only[Fl];rw[ha];cases uY with
  |value f=>
   have hf:ev st2.t f=ev st.t f:=h f (by simp[Op.operands,Call.operands]);simp only[Hh,hf]
  |builtin b=>
   generalize args.toList.map (ev st.t)=l
   match l with
   | []=>cases b<;>rfl
   | [x]=>cases b<;>cases x<;>rfl
   | [x,y]=>cases b<;>cases x<;>rfl
   |x::_::_::_=>cases b<;>cases x<;>rfl
  |invoke r m=>rfl
 |box e x=>grind [Fl,Op.operands]
 |buildSlice t n ps=>
  grind [List.map_congr_left,Op.operands,Fl]
 |store t p x=>grind [Fl,Op.operands]
 |mapUpdate t m k x=>grind [Fl,Op.operands]
 |makeFunc fn first cap=>
  grind [List.map_congr_left,Op.operands,Fl]
 |load t p=>grind [Fl,Op.operands]
 |assign x=>grind [Fl,Op.operands]
 |binOp op t x y u=>grind [Fl,Op.operands]
 |slice t x lo hi mx=>grind [Fl,Op.operands]
 |lookup t x i ok=>grind [Fl,Op.operands]
 |_=>rfl
def Looks(o:Oper)(st st2:St):Prop:=∀d∈o.looksAt ops,st2.t d=st.t d
theorem Looks.operands{ops:Array Oper}{o:Oper}{st st2:St}(h:Looks ops o st st2):∀x∈o.op.operands,ev st2.t x=ev st.t x:=fun x hx=>by
 cases x with
 |tmp t=>exact h t (Bw _ (OK.2 ⟨.tmp t,by simp_all,rfl⟩))
 |_=>rfl
theorem Wm(j:Nat):Lv ops.toList j=(ops[j]?).bind (·.dst):=by
 have:∀(l:List Oper) (j:Nat),Lv l j=(l[j]?).bind (·.dst):=by
  intro l
  induction l with
  |nil=>grind [Lv]
  |cons o l ih=>
   intro j;cases j<;>grind [Lv]
 simp_all
theorem Looks.guard{ops:Array Oper}(h:Looks ops o st st2){j:Nat}{b:Bool}(hg:o.guard=some (j,b))(hd:Lv ops.toList j=some d):st2.t d=st.t d:=
 h d (B8 _ (by grind [Wm]))
def St.after(st:St)(o:Oper)(v:AV)(e:List (Nat×HO)):St:=st.put o.dst v (Ij st.h e)
def PW(cx:Cx)(ops:Array Oper)(o:Oper)(st:St)(f:FL)(v:AV)(e:List (Nat×HO)):Prop:=
 (∀r o',(r,o')∈e->SB f.2 r/\r∈f.1)/\∀st2,Looks ops o st st2->(∀r∈f.1,st2.h r=st.h r)->∀K:St->Prop,K (st2.after o v e)->IX cx true ops.toList o st2 K
theorem Ty{ops:Array Oper}(h:Looks ops o st st2):NL cx ops.toList o st2=NL cx ops.toList o st:=by
 grind [NL,gu,Looks.operands,Looks.guard]
theorem OQ{ops:Array Oper}(hk:IX cx true ops.toList o st K)(hf:NL cx ops.toList o st=some f) :
  ∃v e,PW cx ops o st f v e/\K (st.after o v e):=by
 obtain⟨R,w⟩:=f;have skip:R=[]/\w=none->K (st.put o.dst (.v undef) st.h)->(∀st2,Looks ops o st st2->∀K:St->Prop,K (st2.put o.dst (.v undef) st2.h)->IX cx true ops.toList o st2 K)->∃v e,PW cx ops o st (R,w) v e/\K (st.after o v e):=by
  rintro⟨rfl,rfl⟩ h1 h2
  exact⟨.v undef,[],⟨fun r o' e=>(by cases e),fun st2 hl _ K h=>h2 st2 hl K h⟩,h1⟩
 have run:Fl cx o st=some (R,w)->F7 cx true o st (fun v h=>K (st.put o.dst v h))->(∀st2,Looks ops o st st2->∀K:St->Prop,F7 cx true o st2 (fun v h=>K (st2.put o.dst v h))->IX cx true ops.toList o st2 K)->∃v e,PW cx ops o st (R,w) v e/\K (st.after o v e):=by
  intro hf hk h2;obtain⟨v,e,q1,q2,q3⟩:=fE hk hf;exact⟨v,e,⟨q2,fun st2 hl hh K h=>h2 st2 hl K (q3 st2 ⟨hl.operands,hh⟩ _ h)⟩,q1⟩
 unfold IX at hk;unfold NL at hf;cases hg:o.guard with
 |none=>
  rw[hg]at hk hf;exact run hf hk (fun st2 hl K h=>by unfold IX;rw[hg];exact h)
 |some p=>
  obtain⟨j,want⟩:=p;rw[hg]at hk hf;simp only at hk hf;cases hd:Lv ops.toList j with
  |none=>simp_all
  |some d=>
   rw[hd]at hk hf;simp only at hk hf;have he:∀st2,Looks ops o st st2->st2.t d=st.t d:=fun st2 hl=>hl.guard hg hd;generalize hx:st.t d=x at hk hf he;split at hk
   .exact run hf hk (fun st2 hl K h=>by unfold IX;simp only[hg,hd,he st2 hl];exact h)
   .exact run hf hk (fun st2 hl K h=>by unfold IX;simp only[hg,hd,he st2 hl];exact h)
   all_goals grind [IX]
def vP(cx:Cx)(ops:Array Oper)(FT:Nat->FL)(i:Nat)(K:St->Prop)(st:St):Prop:=
 match ops[i]? with
 |none=>K st
 |some o=>NL cx ops.toList o st=some (FT i)/\IX cx true ops.toList o st K
def Ya(cx:Cx)(ops:Array Oper)(FT:Nat->FL)(K:St->Prop):Nat->Array Bool->St->Prop
 |0,listed,st=>Region.ready .any ops listed=[]/\K st
 |fuel+1,listed,st=>
  (Region.ready .any ops listed=[]->K st)/\∀i∈Region.ready .any ops listed,vP cx ops FT i (Ya cx ops FT K fuel (listed.setIfInBounds i true)) st
theorem jn(t:Nat->AV)(h:d'≠d)(v v' : AV):JJ (JJ t d v) d' v'=JJ (JJ t d' v') d v:=by
 grind [JJ,CC]
theorem gJ(t:Nat->HO)(h:d'≠d)(v v' : HO):AC (AC t d v) d' v'=AC (AC t d' v') d v:=by
 grind [AC,CC]
theorem ZF(h:n∈l):IS l n=true:=by
 induction l<;>grind [IS,Nat.beq_refl]
theorem ZI(h:IS l n=true):n∈l:=by
 induction l<;>grind [IS,CC]
theorem ZW{x:Nat}(h:ZU l x=true):∀r,SB (some x) r->r∉l:=by
 intro r hc hr;unfold ZU at h
 by_cases hx:x=WX
 .subst hx;rw[Nat.beq_refl,cond_true]at h;cases l with
  |nil=>cases hr
  |cons a l=>cases h
 rw[CC hx,Gf]at h;simp only[Aj,JM,EI,Do]at h;rcases hc with rfl | ⟨h1,h2⟩ | hc<;>grind [ZF]
theorem ge{a b:FL}(h:Tc a b=true):(∀r,SB a.2 r->r∉b.1)/\∀r,SB b.2 r->r∉a.1:=by
 obtain⟨a1,a2⟩:=a;obtain⟨b1,b2⟩:=b;simp only[Tc,Aj]at h;refine⟨fun r e=>?_,fun r e=>?_⟩
 .cases a2 with
  |none=>exact e.elim
  |some x=>grind [ZW]
 .cases b2 with
  |none=>exact e.elim
  |some x=>grind [ZW]
section
variable {cx:Cx}{ops:Array Oper}{FT:Nat->FL}
theorem RA{oi oj:Oper}(h:∀d,oi.dst=some d->d∉oj.looksAt ops)(st:St)(v:AV)(e:List (Nat×HO)):Looks ops oj st (st.after oi v e):=by
 intro d hd;cases hdst:oi.dst with
 |none=>grind [St.after,St.put]
 |some d'=>
  have:d≠d':=fun q=>h d' hdst (q▸hd)
  simp[St.after,St.put,hdst,JJ,CC this]
theorem Looks.symm{o:Oper}{st st2:St}(h:Looks ops o st st2):Looks ops o st2 st:=fun d hd=>(h d hd).symm
theorem dI{o:Oper}{v:AV}{e:List (Nat×HO)}:(st.after o v e).h=Ij st.h e:=by
 unfold St.after St.put;grind
theorem Qj{r:Nat}:∀{e:List (Nat×HO)} {h:Nat->HO},(∀o',(r,o')∉e)->Ij h e r=h r
 | [],_,_=>rfl
 |p::e,h,hr=>by
  have:r≠p.1:=fun q=>hr p.2 (by simp_all)
  show Ij (AC h p.1 p.2) e r=h r;rw[Qj fun o' ho=>hr o' (Ai _ ho),BN _ _ _ _ this]
theorem YB{r:Nat}{o:HO}:∀{e:List (Nat×HO)} {h:Nat->HO},(∀r' o',(r',o')∈e->r'≠r)->Ij (AC h r o) e=AC (Ij h e) r o
 | [],_,_=>rfl
 |p::e,h,hr=>by
  show Ij (AC (AC h r o) p.1 p.2) e=AC (Ij (AC h p.1 p.2) e) r o;rw[gJ h (hr p.1 p.2 (Ah ..)),YB fun r' o' ho=>hr r' o' (Ai _ ho)]
theorem VV:∀{e e' : List (Nat×HO)} {h:Nat->HO},(∀r o r' o',(r,o)∈e->(r',o')∈e'->r'≠r)->Ij (Ij h e) e'=Ij (Ij h e') e
 | [],_,_,_=>rfl
 |p::e,e',h,hd=>by
  show Ij (Ij (AC h p.1 p.2) e) e'=Ij (AC (Ij h e') p.1 p.2) e;rw[<-YB fun r' o' ho=>hd p.1 p.2 r' o' (Ah ..) ho,VV fun r o r' o' h1 h2=>hd r o r' o' (Ai _ h1) h2]
theorem aQ{oi oj:Oper}{v v' : AV}{e e' : List (Nat×HO)}(h1:∀d,oi.dst=some d->oj.dst≠some d)(h2:∀r o r' o',(r,o)∈e->(r',o')∈e'->r'≠r) :
  (st.after oi v e).after oj v' e'=(st.after oj v' e').after oi v e:=by
 have hh:Ij (Ij st.h e) e'=Ij (Ij st.h e') e:=VV h2;have key:∀o:Oper,∀v e,∀st:St,st.after o v e=⟨match o.dst with | none=>st.t | some d=>JJ st.t d v,Ij st.h e⟩:=fun o v e st=>by
  grind [St.after,St.put]
 grind [jn]
theorem aN{i:Nat}{oi:Oper}{v:AV}{e:List (Nat×HO)}(hi:ops[i]?=some oi)(D:Nat->Prop)(hD:∀j,D j->∃oj,ops[j]?=some oj/\∃ed∈oj.after,Region.binds .any ed=true/\(ed.on=i\/D ed.on)) :
  ∀(fuel:Nat) (listed:Array Bool) (st:St),
   (∀j oj,ops[j]?=some oj->j≠i->listed.getD j true=false->¬D j->oi.apart ops oj=true/\Tc (FT i) (FT j)=true) ->
   i∈Region.ready .any ops listed->(∀j,D j->listed.getD j true=false)->NL cx ops.toList oi st=some (FT i)->PW cx ops oi st (FT i) v e ->
   Ya cx ops FT K fuel (listed.setIfInBounds i true) (st.after oi v e)->Ya cx ops FT K (fuel+1) listed st:=by
 have here:∀(fuel:Nat) (listed:Array Bool) (st:St),NL cx ops.toList oi st=some (FT i)->PW cx ops oi st (FT i) v e ->
   Ya cx ops FT K fuel (listed.setIfInBounds i true) (st.after oi v e)->vP cx ops FT i (Ya cx ops FT K fuel (listed.setIfInBounds i true)) st:=by
  intro fuel listed st hf hy H;unfold vP;rw[hi];exact⟨hf,hy.2 st (fun _ _=>rfl) (fun _ _=>rfl) _ H⟩
 intro fuel
 induction fuel with
 |zero=>
  intro listed st _ hr _ hf hy H;refine⟨fun h=>(by simp_all),fun j hj=>?_⟩
  by_cases Hg:j=i
  .simp_all
  .have:=ready_mono hj Hg
   rw[H.1]at this;simp_all
 |succ fuel ih=>
  intro listed st Ae hr hDl hf hy H;refine⟨fun h=>(by simp_all),fun j hj=>?_⟩
  by_cases Hg:j=i
  .simp_all
  .have h1:=H.2 j (ready_mono hj Hg);obtain⟨Ac6,oj,tH,GI⟩:=mem_ready.1 hj;have AgD:∀k,listed.getD k true=false->listed.getD k false=true->False:=fun k h0 h1=>by
    grind
   have hnD:¬D j:=fun hdj=>by
    grind [mem_ready]
   obtain⟨zr,hdj⟩:=Ae j oj tH Hg Ac6 hnD;obtain⟨a1,a2,a3⟩:=Oper.apart_spec zr;obtain⟨d1,d2⟩:=ge hdj;unfold vP at h1⊢;rw[tH]at h1⊢;obtain⟨hfj,hkj⟩:=h1;have hlj:=RA (ops:=ops) a1 st v e;obtain⟨vj,ej,hyj,hK⟩:=OQ hkj hfj;have xC:∀r o',(r,o')∈e->r∉(FT j).1:=fun r o' q=>d1 r (hy.1 r o' q).1;have jx:∀r o',(r,o')∈ej->r∉(FT i).1:=fun r o' q=>d2 r (hyj.1 r o' q).1;refine⟨by grind [Ty],hyj.2 st hlj.symm (fun r Vh=>?_) _ ?_⟩
   .rw[dI,Qj (fun o' q=>xC r o' q Vh)]
   .have hli:=RA (ops:=ops) a3 st vj ej;refine ih (listed.setIfInBounds j true) (st.after oj vj ej) (fun k ok hk hki vz Me=>?_) (ready_mono hr (Ne.symm Hg)) (fun k hk=>?_) (by grind [Ty]) ⟨hy.1,fun st2 hl hh K' h'=>?_⟩ ?_
    .by_cases xJ:j=k
     .simp_all
     .rw[getD_set_ne true xJ]at vz;grind
    .by_cases xJ:j=k
     all_goals simp_all
    .refine hy.2 st2 (fun d hd=>(hl d hd).trans (hli d hd)) (fun r Vh=>?_) K' h';rw[hh r Vh,dI,Qj (fun o' q=>jx r o' q Vh)]
    .rw[Array.setIfInBounds_comm _ _ (Ne.symm Hg)]at hK;rw[<-aQ a2 (fun r o r' o' q q' e2=>jx r' o' q' (by rw[e2];exact(hy.1 r o q).2))];exact hK
def sb(cx:Cx)(ops:Array Oper)(K:St->Prop):List Oper->List FL->St->Prop
 | [],[],st=>K st
 |o::r,f::fs,st=>NL cx ops.toList o st=some f/\∃v e,PW cx ops o st f v e/\sb cx ops K r fs (st.after o v e)
 |_,_,_=>False
theorem SG{K:St->Prop}:∀(l:List Oper) (acc:List FL) (st:St),Yg cx ops l acc st K->∃fs,Td ops (acc.reverse++fs)=true/\sb cx ops K l fs st
 | [],acc,st,h=>⟨[],by simpa using h.1,h.2⟩
 |o::r,acc,st,h=>by
  unfold Yg at h;split at h
  .rename_i f hf;obtain⟨v,e,h1,h2⟩:=OQ h hf;obtain⟨fs,q1,q2⟩:=SG r _ _ h2;exact⟨f::fs,by simp_all,hf,v,e,h1,q2⟩
  simp_all
theorem Xu{o:Oper}{i:Nat}{D:List Nat}(h:Pd o i D=true):∃ed∈o.after,Region.binds .any ed=true/\(ed.on=i\/ed.on∈D):=by
 grind [Pd,Nat.eq_of_beq_eq_true,ZI]
theorem US{i:Nat}{D:List Nat}:∀(l:List Oper) (k:Nat),UR i D k l=true->∀j o,l[j]?=some o->k+j∈D->Pd o i D=true
 | [],_,_,_,_,h,_=>by simp_all
 |o::l,k,hs,j,o',h,hm=>by
  simp only[UR,Aj]at hs;cases j with
  |zero=>
   grind [ZF]
  |succ j=>exact US l (k+1) hs.2 j o' (by simp_all) (by grind)
theorem VC{oi:Oper}{fi:FL}{D:List Nat}:∀(l:List Oper) (fs:List FL) (k:Nat),Iy ops oi fi D k l fs=true->l.length=fs.length/\∀j o f,l[j]?=some o->fs[j]?=some f->k+j∉D->oi.apart ops o=true/\Tc fi f=true
 | [],[],_,_=>⟨rfl,fun _ _ _ h=>by simp_all⟩
 | [],_::_,_,h=>by grind [Iy]
 |_::_,[],_,h=>by grind [Iy]
 |o::l,f::fs,k,h=>by
  simp only[Iy,Aj,JM]at h;obtain⟨h1,h2⟩:=VC l fs (k+1) h.2<;>grind [ZI]
theorem Yb{K:St->Prop}:∀(l:List Oper) (fs:List FL) (k:Nat) (listed:Array Bool) (st:St),(∀j,l[j]?=ops[k+j]?)->(∀j f,fs[j]?=some f->FT (k+j)=f)->listed.size=ops.size ->
  (∀j,j<ops.size->listed.getD j true=decide (j<k))->Mq ops ops.toList k l fs=true->sb cx ops K l fs st->Ya cx ops FT K l.length listed st
 | [],[],k,listed,st,hl,_,hs,hL,_,h=>by
  refine⟨?_,h⟩;apply LZ.2;intro j hj;obtain⟨h1,o,ho,_⟩:=mem_ready.1 hj;have E1:=(BZ.1 ho).1;rw[hL j E1]at h1;have xF:k<=j:=by simp_all
  have:=hl (j-k)
  simp_all
 | [],_::_,_,_,_,_,_,_,_,h,_=>by grind [Mq]
 |_::_,[],_,_,_,_,_,_,_,h,_=>by grind [Mq]
 |o::l,f::fs,k,listed,st,hl,hF,hs,hL,hg,h=>by
  simp only[Mq,Aj]at hg;obtain⟨⟨⟨⟨g1,g2⟩,g3⟩,g4⟩,g5⟩:=hg;obtain⟨hf,v,e,hy,hp⟩:=h;have h0:ops[k]?=some o:=by simpa using(hl 0).symm
  have hk:=(BZ.1 h0).1;have hFk:FT k=f:=by simpa using hF 0 f rfl
  have RT : ∀j,l[j]?=ops[k+1+j]?:=fun j=>by have:=hl (j+1);grind
  have th : ∀j f,fs[j]?=some f->FT (k+1+j)=f:=fun j f' hj=>by have:=hF (j+1) f' (by simp_all);grind
  obtain⟨CD,zr⟩:=VC l fs (k+1) g4;have pA:∀j,j∈Qi k [] 0 ops.toList->k<j/\j<ops.size:=fun j hj=>by
   simp_all
  refine aN h0 (fun j=>j∈Qi k [] 0 ops.toList) (fun j hj=>?_) l.length listed st (fun j oj tH xJ vz hnD=>?_) ?_ (fun j hj=>?_) (by simp_all) (by rw[hFk];exact hy) ?_
  .have E1:=(pA j hj).2
   have:=US ops.toList 0 g2 j ops[j] (by simp_all) (by simp_all)
   grind [Xu]
  .have E1:=(BZ.1 tH).1;rw[hL j E1]at vz;have xF:k<j:=by grind
   have e1:l[j-(k+1)]?=some oj:=by grind
   grind
  .grind [mem_ready,Nat.blt_eq]
  .grind
  .refine Yb l fs (k+1) _ _ RT th (by simp_all) (fun j hj=>?_) g5 hp
   by_cases xJ:j=k
   .simp_all
   .rw[getD_set_ne true (Ne.symm xJ),hL j hj]
    grind
theorem ft(h:Yg cx ops ops.toList [] st K):Region.noSelect ops=true/\∃FT,Ya cx ops FT K ops.size (Array.replicate ops.size false) st:=by
 obtain⟨fs,h1,h2⟩:=SG _ _ _ h;simp only[Td,List.reverse_nil,Ek,Aj]at h1;refine⟨h1.1,fun j=>fs.getD j default,?_⟩
 have:=Yb (FT:=fun j=>fs.getD j default) ops.toList fs 0 (Array.replicate ops.size false) st aa1 (fun j f hj=>by simp_all) aa1 (fun j hj=>by simp_all) h1.2 h2
 omega
end
theorem XB:∀{σ:HJ},EU σ=true->∀i j,Cf σ i=some j↔G3 σ j=some i
 | [],_,i,j=>by simp[Cf,G3]
 |(a,b)::r,h,i,j=>by
  simp only[EU,Aj]at h;obtain⟨h1,h2⟩:=h;have ih:=XB h2
  grind [Cf,G3,Nat.beq_refl,CC]
theorem mI:∀{σ:HJ},D7 σ=true->EU σ=true
 | [],_=>rfl
 |(a,b)::r,h=>by
  simp only[D7,Aj]at h;simp only[EU,Aj];exact⟨h.1.1.1,mI h.2⟩
theorem XR(h:D7 σ=true):∀i j,Cf σ i=some j↔G3 σ j=some i:=XB (mI h)
theorem Wt:∀{σ:HJ},D7 σ=true->∀{i j},Cf σ i=some j->1000<=j/\j<2000
 | [],_,i,j,h=>by grind [Cf]
 |(a,b)::r,h,i,j,hf=>by
  simp only[D7,Aj,EK,Do]at h;unfold Cf at hf
  by_cases e1:a=i
  .simp_all
  .simp only[CC e1,Gf]at hf;exact Wt h.2 hf
theorem PH(f:Nat->Option Nat)(h:Nat->HO):∀(σ:HJ) (j:Nat),Af (XQ f h σ) Ae j=match G3 σ j with | some i=>(h i).ren f h | none=>.free
 | [],j=>rfl
 |(a,b)::r,j=>by
  unfold XQ Af G3
  by_cases e:b=j
  .simp_all
  .simp only[CC e,CC (Ne.symm e),Gf];exact PH f h r j
structure Ga(f:Nat->Option Nat)(h h2:Nat->HO)(g g2:Gh)(w:World):Prop where
 ids:∀r r',f r=some r'->Az h r->g2.tk r'=g.tk r/\g2.ln r'=g.ln r/\g2.ρ r'=g.ρ r/\g2.own r'=g.own r/\Az h2 r'
 S:∀b o,g2.S b o↔g.S b o
 objs:∀r,DO g w (Az h) r (h r)
section
variable {f:Nat->Option Nat}{h h2:Nat->HO}{g g2:Gh}{w:World}
theorem Ga.keeps(hR:Ga f h h2 g g2 w):E9 g w g2 w:=fun b o hs=>⟨(hR.S b o).2 hs,rfl,fun _ _ e=>e⟩
theorem Ga.noU(hR:Ga f h h2 g g2 w){av:AV}{x:Value}(r:AY g w Fs av x):AY g2 w (Az h2) av x:=r.mono hR.keeps (fun _ h=>h.elim) (fun _ h=>h.elim)
theorem AY.ren0(hR:Ga f h h2 g g2 w){av:AV}{x:Value}(r:AY g w (Az h) av x):AY g2 w (Az h2) (ren0 f h av) x:=by
 have down:AY g2 w (Az h2) (Eng.str0 h av) x:=hR.noU (AY.str0 hR.objs r);cases av with
 |v y=>exact down
 |slice tk es=>
  cases tk with
  |none=>exact down
  |full sz=>exact down
  |id i sz=>
   simp only[Eng.ren0];split
   .rename_i i' e;cases r<;>grind [tok,AY.slice_none,Ga.ids,Ga.noU]
   .exact hR.noU r.slice_none
  |ver i sz v=>
   simp only[Eng.ren0];split
   .rename_i i' e;cases r<;>grind [ver,AY.slice_none,Ga.ids,Ga.noU]
   .exact hR.noU r.slice_none
 |msl i n=>
  simp only[Eng.ren0];split
  .rename_i i' e;cases r<;>grind [msl,Ga.ids]
  grind [junk]
 |agg cs=>exact down
 |tup cs=>exact down
 |cptr cs=>exact down
 |ref i off=>
  simp only[Eng.ren0];split
  .rename_i i' e;cases r<;>grind [ref,Ga.ids]
  omega
 |eref i n sz k off=>
  simp only[Eng.ren0];split
  .rename_i i' e;cases r<;>grind [eref,Ga.ids]
  grind [junk]
 |mref i=>
  simp only[Eng.ren0];split
  .rename_i i' e;cases r<;>grind [mref,Ga.ids]
  omega
 |cmap sh BV=>exact down
 |clo i cs=>exact down
 |junk=>exact down
theorem AY.ren1(hR:Ga f h h2 g g2 w){av:AV}{x:Value}(r:AY g w (Az h) av x):AY g2 w (Az h2) (ren1 f h av) x:=by
 cases av with
 |agg cs=>
  cases r with
  |agg _ _ vs hs h1 hr=>
   exact .agg _ _ vs (by simp_all) h1 fun i av x q1 q2=>by
    grind [ren0]
 |clo i cs=>
  cases r with
  |clo _ _ _ vs hs hr=>
   exact .clo _ _ _ vs (by simp_all) fun i av x q1 q2=>by
    grind [ren0]
 |_=>exact r.ren0 hR
theorem AY.ren(hR:Ga f h h2 g g2 w){av:AV}{x:Value}(r:AY g w (Az h) av x):AY g2 w (Az h2) (ren f h av) x:=by
 cases av with
 |tup cs=>
  cases r with
  |tup _ _ vs hs hr=>
   exact .tup _ _ vs (by simp_all) fun i av x q1 q2=>by
    grind [ren1]
 |_=>exact r.ren1 hR
theorem MO(f:Nat->Option Nat)(h:Nat->HO)(o:HO):(o.ren f h).live↔o.live:=by cases o<;>exact Iff.rfl
theorem MP(f:Nat->Option Nat)(h:Nat->HO)(o:HO):o.ren f h≠.free↔o≠.free:=by cases o<;>simp[HO.ren]
theorem DO.ren(hR:Ga f h h2 g g2 w){i j:Nat}(aC:f i=some j)(hu:Az h i){o:HO}(r:DO g w (Az h) i o):DO g2 w (Az h2) j (o.ren f h):=by
 obtain⟨k1,k2,k3,k4,k5⟩:=hR.ids i j aC hu;have noL:∀{cs:List AV} {vs:List Value},Ca g w Fs cs vs->Ca g2 w Fs cs vs:=fun hr=>hr.mono hR.keeps (fun _ h=>h) (fun _ h=>h.elim);have zI:∀{av:AV} {x:Value},AY g w Fs av x->AY g2 w Fs av x:=fun hr=>hr.mono hR.keeps (fun _ h=>h) (fun _ h=>h.elim);cases o with
 |free=>trivial
 |dead=>trivial
 |cells cs=>
  obtain⟨t,b,E,vs,a1,a2,a3,a4,a5⟩:=r;refine⟨k1.trans t,b,E,vs,k4.trans a1,k3.trans a2,a3,⟨by simp[a4.1],a4.2.1,fun i av x q1 q2=>?_⟩,fun o ho=>a5 o ((hR.S b o).1 ho)⟩;rw[BA]at q1;obtain⟨a,q3,rfl⟩:=B3.1 q1;exact(a4.2.2 i a x q3 q2).ren1 hR
 |ro cs=>
  obtain⟨t,b,a1,a2⟩:=r;exact⟨k1.trans t,b,k3.trans a1,zI a2⟩
 |tok sz n=>
  obtain⟨t,l,a,cap,a1,a2⟩:=r;refine⟨k1.trans t,k2.trans l,a,cap,k3.trans a1,?_⟩
  grind [Ga.S]
 |var sz v n=>
  obtain⟨t,l,a,cap,a1,a2⟩:=r;refine⟨k1.trans t,k2.trans l,a,cap,k3.trans a1,?_⟩
  grind [Ga.S]
 |vox v=>exact⟨k1.trans r.1,k2.trans r.2⟩
 |hol sz es i c av=>
  obtain⟨t,l,al,b,cap,E,vs,b1,b2,b3,b4,b5,b6,b7,b8,x,b9,U0⟩:=r;exact⟨k1.trans t,k2.trans l,al,b,cap,E,vs,k3.trans b1,k4.trans b2,b3,b4,b5,noL b6,fun o ho=>b7 o ((hR.S b o).1 ho),b8,x,b9,U0.ren1 hR⟩
 |bld x=>
  obtain⟨t,b,p,v,a1,a2,a3,a4,a5,a6⟩:=r;exact⟨k1.trans t,b,p,v,k4.trans a1,k3.trans a2,a3,a4,a5.ren1 hR,fun o ho=>a6 o ((hR.S b o).1 ho)⟩
 |bbf n=>
  obtain⟨t,l,a1⟩:=r;refine⟨k1.trans t,k2.trans l,?_⟩
  grind [Ga.S]
 |raw b ob=>
  obtain⟨t,a1,a2,a3,a4⟩:=r;exact⟨k1.trans t,k4.trans a1,a2,a3,fun o ho=>a4 o ((hR.S b o).1 ho)⟩
 |arr sz es=>
  obtain⟨t,l,al,a2⟩:=r;refine⟨k1.trans t,k2.trans l,al,?_⟩;rcases a2 with ⟨b1,b2,b3⟩ | ⟨b,cap,E,vs,b1,b2,b3,b4,b5,b6,b7⟩
  .simp_all
  .exact .inr ⟨b,cap,E,vs,k3.trans b1,k4.trans b2,b3,b4,b5,noL b6,fun o ho=>b7 o ((hR.S b o).1 ho)⟩
 |map sh BV=>
  obtain⟨t,b,es,ck,a1,a2,a3,a4,a5,a6⟩:=r;exact⟨k1.trans t,b,es,ck,k4.trans a1,k3.trans a2,a3,a4,fun i kv e q1 q2=>zI (a5 i kv e q1 q2),fun o ho=>a6 o ((hR.S b o).1 ho)⟩
 |mapU sh BV=>
  obtain⟨t,b,es,ck,a1,a2,a3,a4,a5,a6⟩:=r;refine⟨k1.trans t,b,es,ck,k4.trans a1,k3.trans a2,a3,Wf _ a4,fun i kv e q1 q2=>?_,fun o ho=>a6 o ((hR.S b o).1 ho)⟩
  grind [AY.ren1]
 |rom sh BV=>
  obtain⟨t,b,a1,a2⟩:=r;exact⟨k1.trans t,b,k3.trans a1,zI a2⟩
 |iter all rem Ej=>
  obtain⟨t,b,mb,Ke,seen,st,es,ck,a1,a2,a3,a4,a5,a6,a7,a8,a9,X9,da,a12,sd⟩:=r;exact⟨k1.trans t,b,mb,Ke,seen,st,es,ck,k4.trans a1,k3.trans a2,a3,(hR.S _ _).2 a4,a5,a6,a7,a8,fun i kv e q1 q2=>zI (a9 i kv e q1 q2),X9,da,a12,fun o ho=>sd o ((hR.S b o).1 ho)⟩
end
end Go.Eng
