/- Lemmas 9. -/
import Derived.Test.YtkjhcikodmiceaaGreatDoorVA08
namespace Go.Eng
variable {x:Operand}{l:List Nat}{o:Oper}{K:St->Prop}{st:St}{d:Nat}{p:Operand}{n:Nat}{cx:Cx}{st2:St}{d':Nat}{f:FF}{σ:Jj}(ops:Array Oper)(T:GW)
section
variable {cx:Cx}{dst:Option Nat}{ty:Nat}{pos:String}{after:Array Edge}{gd:Option (Nat×Bool)}{st:St}{R:List Nat}{w:Option Nat}{K:HK}
theorem IM{d:Option Nat}{l:List Nat}(h:IL d l=some f):∃d',d=some d'/\f=(d' :: l,some d'):=by
 unfold IL at h
 grind
theorem ZC{e:Nat}(hk:F6 cx true ⟨dst,.alloc e,ty,pos,after,gd⟩ st K)(hf:Fo cx ⟨dst,.alloc e,ty,pos,after,gd⟩ st=some (R,w)):CZ cx ⟨dst,.alloc e,ty,pos,after,gd⟩ st R w K:=by
 simp only[F6]at hk;have hb:Nat.beq e YZ=false:=by
  grind [Fo]
 simp only[Fo,hb]at hf;obtain⟨d,rfl,e0⟩:=IM hf;cases e0;unfold Th at hk;simp only[hb]at hk;split at hk
 .rename_i hd;split at hk
  .simp_all
  .rename_i EG;split at hk
   .rename_i ha;refine⟨_,some (d,_),hk,fun r o' e=>(by simp_all),fun st2 Hs K' h'=>?_⟩;simp only[F6,Th];rw[Hs.h d (Ag ..),hd];simp only[ha,hb];exact h'
   simp_all
 simp_all
theorem iq{e:Nat}(hk:F6 cx true ⟨dst,.box e x,ty,pos,after,gd⟩ st K)(hf:Fo cx ⟨dst,.box e x,ty,pos,after,gd⟩ st=some (R,w)):CZ cx ⟨dst,.box e x,ty,pos,after,gd⟩ st R w K:=by
 simp only[F6]at hk;obtain⟨d,rfl,e0⟩:=IM hf;cases e0;unfold gQ at hk;simp only at hk;split at hk
 .rename_i hd;split at hk
  .simp_all
  .rename_i EG;obtain⟨cs,c1,c2,c3⟩:=Of hk;split at c1
   .rename_i hm;refine⟨_,some (d,_),c1,fun r o' e=>(by simp_all),fun st2 Hs K' h'=>?_⟩;have hx:ev st2.t x=ev st.t x:=Hs.t x (by simp[Op.operands]);simp only[F6,gQ];rw[Hs.h d (Ag ..),hd,hx];simp only[hm];refine c2 _ ?_;rw[c3 st.h st2.h (fun r hr=>Hs.h r (Aj _ hr))];exact h'
   .rename_i hm;refine⟨_,some (d,_),c1,fun r o' e=>(by simp_all),fun st2 Hs K' h'=>?_⟩;have hx:ev st2.t x=ev st.t x:=Hs.t x (by simp[Op.operands]);simp only[F6,gQ];rw[Hs.h d (Ag ..),hd,hx];simp only[hm];exact c2 _ h'
 simp_all
theorem QQ{t n:Nat}{ps:Array (Nat×Operand)}(hk:F6 cx true ⟨dst,.buildSlice t n ps,ty,pos,after,gd⟩ st K)(hf:Fo cx ⟨dst,.buildSlice t n ps,ty,pos,after,gd⟩ st=some (R,w)) :
  CZ cx ⟨dst,.buildSlice t n ps,ty,pos,after,gd⟩ st R w K:=by
 simp only[F6]at hk;obtain⟨d,iD,e0⟩:=IM hf;cases e0;unfold II at hk;split at hk
 .rename_i e he;split at hk
  .rename_i h1 h2;split at hk
   .simp_all
   .rename_i k FI;split at hk
    .rename_i hb;obtain⟨es,q1,q2⟩:=TO hk;obtain⟨d',hd,v,x,q3,q4⟩:=ID q1;have hd:dst.map (Kq cx)=some d':=hd;have iD:dst.map (Kq cx)=some d:=iD;rw[iD]at hd;cases hd;refine⟨v,some (d,x),q3,fun r o' e=>(by simp_all),fun st2 Hs K' h'=>?_⟩;have hx:∀p∈ps.toList,ev st2.t p.2=ev st.t p.2:=fun p hp=>Hs.t p.2 (by
      grind [Op.operands])
     simp only[F6,II,he,h1,h2];split
     .omega
     .rw[hb];exact q2 st2.t st2.h (fun r hr=>Hs.h r (Aj _ hr)) hx _ (q4 st2.h (Hs.h d (Ag ..)) K' h')
    simp_all
  simp_all
 simp_all
theorem Sq{t:Nat}{n c:Operand}(hk:F6 cx true ⟨dst,.makeSlice t n c,ty,pos,after,gd⟩ st K)(hf:Fo cx ⟨dst,.makeSlice t n c,ty,pos,after,gd⟩ st=some (R,w)) :
  CZ cx ⟨dst,.makeSlice t n c,ty,pos,after,gd⟩ st R w K:=by
 simp only[F6]at hk;obtain⟨d,iD,e0⟩:=IM hf;cases e0;have hn:∀st2,Alike ⟨dst,.makeSlice t n c,ty,pos,after,gd⟩ (d::[]) st st2->ev st2.t n=ev st.t n/\ev st2.t c=ev st.t c:=fun st2 ha=>⟨ha.t n (by simp[Op.operands]),ha.t c (by simp[Op.operands])⟩;unfold JO at hk;split at hk
 .rename_i e a b h1 h2 h3;split at hk
  .rename_i h4;split at hk
   .rename_i h5;split at hk
    .simp_all
    .rename_i k FI;obtain⟨d',hd,v,x,q3,q4⟩:=ID hk.2;have hd:dst.map (Kq cx)=some d':=hd;have iD:dst.map (Kq cx)=some d:=iD;rw[iD]at hd;cases hd;refine⟨v,some (d,x),q3,fun r o' e=>(by simp_all),fun st2 Hs K' h'=>?_⟩;simp only[F6,JO,(hn st2 Hs).1,(hn st2 Hs).2,h1,h2,h3,h4,h5];split
     .omega
     .exact⟨hk.1,q4 st2.h (Hs.h d (Ag ..)) K' h'⟩
   simp_all
  simp_all
 simp_all
theorem VF{t:Nat}{r:Option Operand}(hk:F6 cx true ⟨dst,.makeMap t r,ty,pos,after,gd⟩ st K)(hf:Fo cx ⟨dst,.makeMap t r,ty,pos,after,gd⟩ st=some (R,w)) :
  CZ cx ⟨dst,.makeMap t r,ty,pos,after,gd⟩ st R w K:=by
 cases r with
 |some r=>exact hk.elim
 |none=>
  simp only[F6]at hk;obtain⟨d,rfl,e0⟩:=IM hf;cases e0;unfold KP at hk;simp only at hk;split at hk
  .rename_i hd;split at hk
   .rename_i h1;split at hk
    .rename_i h2;split at hk
     .rename_i h3;refine⟨_,some (d,_),hk,fun r o' e=>(by simp_all),fun st2 Hs K' h'=>?_⟩;simp only[F6,KP];rw[Hs.h d (Ag ..),hd];simp only[h1,h2,h3];exact h'
     .rename_i h3;refine⟨_,some (d,_),hk,fun r o' e=>(by simp_all),fun st2 Hs K' h'=>?_⟩;simp only[F6,KP];rw[Hs.h d (Ag ..),hd];simp only[h1,h2,h3];exact h'
    simp_all
   simp_all
  simp_all
theorem ZD{t:Nat}(hk:F6 cx true ⟨dst,.store t p x,ty,pos,after,gd⟩ st K)(hf:Fo cx ⟨dst,.store t p x,ty,pos,after,gd⟩ st=some (R,w)) :
  CZ cx ⟨dst,.store t p x,ty,pos,after,gd⟩ st R w K:=by
 simp only[F6]at hk;have hn:∀st2,Alike ⟨dst,.store t p x,ty,pos,after,gd⟩ R st st2->ev st2.t p=ev st.t p/\ev st2.t x=ev st.t x:=fun st2 ha=>⟨ha.t p (by simp[Op.operands]),ha.t x (by simp[Op.operands])⟩;unfold OS at hk;split at hk
 .simp_all
 .rename_i EG;obtain⟨cs,c1,c2,c3⟩:=Of hk;simp only[Fo]at hf;split at hf
  .rename_i r off hp;split at hf
   .cases hf
   .rename_i hm;cases hf;rw[hp]at c1;simp only at c1;split at c1
    .rename_i Ef hr;obtain⟨Js,hk'⟩:=c1;rw[hm]at hk';refine⟨_,some (r,_),hk',fun r o' e=>(by simp_all),fun st2 Hs K' h'=>?_⟩;simp only[F6,OS,(hn st2 Hs).1,(hn st2 Hs).2];refine c2 _ ?_;rw[hp];simp only[Hs.h r (Ag ..),hr,hm];exact⟨Js,h'⟩
    simp_all
  .rename_i r n sz i off hp;cases hf;rw[hp]at c1;simp only at c1;split at c1
   .rename_i HS es hr;split at c1
    .rename_i hs;obtain⟨Js,cell,e1,e2,hk'⟩:=c1;split at hk'
     .rename_i j m;refine⟨_,some (r,_),hk',fun r o' e=>(by simp_all),fun st2 Hs K' h'=>?_⟩;simp only[F6,OS,(hn st2 Hs).1,(hn st2 Hs).2];refine c2 _ ?_;rw[hp];simp only[Hs.h r (Ag ..),hr,hs];exact⟨Js,cell,e1,e2,h'⟩
     .rename_i PK;refine⟨_,some (r,_),hk',fun r o' e=>(by simp_all),fun st2 Hs K' h'=>?_⟩;simp only[F6,OS,(hn st2 Hs).1,(hn st2 Hs).2];refine c2 _ ?_;rw[hp];simp only[Hs.h r (Ag ..),hr,hs];refine⟨Js,cell,e1,e2,?_⟩;rw[c3 st.h st2.h (fun r hr=>Hs.h r (Aj _ hr))];exact h'
    simp_all
   simp_all
  simp_all
theorem Sr{t:Nat}{m k:Operand}(hk:F6 cx true ⟨dst,.mapUpdate t m k x,ty,pos,after,gd⟩ st K)(hf:Fo cx ⟨dst,.mapUpdate t m k x,ty,pos,after,gd⟩ st=some (R,w)) :
  CZ cx ⟨dst,.mapUpdate t m k x,ty,pos,after,gd⟩ st R w K:=by
 simp only[F6]at hk;have hn:∀st2,Alike ⟨dst,.mapUpdate t m k x,ty,pos,after,gd⟩ R st st2->ev st2.t m=ev st.t m/\ev st2.t k=ev st.t k/\ev st2.t x=ev st.t x:=fun st2 ha=>⟨ha.t m (by simp[Op.operands]),ha.t k (by simp[Op.operands]),ha.t x (by simp[Op.operands])⟩;simp only[Fo]at hf;split at hf
 .rename_i r hm;cases hf;unfold Hx at hk;rw[hm]at hk;simp only at hk;split at hk
  .rename_i sh BY hr;unfold Kr at hk;split at hk
   .rename_i kt e h1;split at hk
    .rename_i sh' h2;split at hk
     .rename_i h3;split at hk
      .rename_i kx h4;split at hk
       .rename_i h5;refine⟨_,some (r,_),hk,fun r o' e=>(by simp_all),fun st2 Hs K' h'=>?_⟩;obtain⟨n1,n2,n3⟩:=hn st2 Hs;simp only[F6,Hx,n1,n2,n3,hm,Hs.h r (Ag ..),hr,Kr,h1,h2,h3,h4,h5];rw[K4 (h:=st.h) (h2:=st2.h) (fun r hr=>Hs.h r (Aj _ hr))];exact h'
       simp_all
      simp_all
     simp_all
    simp_all
   simp_all
  .rename_i sh BY hr;unfold Kr at hk;split at hk
   .rename_i kt e h1;split at hk
    .rename_i sh' h2;split at hk
     .rename_i h3;split at hk
      .rename_i kx h4;split at hk
       .rename_i h5;refine⟨_,some (r,_),hk,fun r o' e=>(by simp_all),fun st2 Hs K' h'=>?_⟩;obtain⟨n1,n2,n3⟩:=hn st2 Hs;simp only[F6,Hx,n1,n2,n3,hm,Hs.h r (Ag ..),hr,Kr,h1,h2,h3,h4,h5];exact h'
       simp_all
      simp_all
     simp_all
    simp_all
   simp_all
  simp_all
 simp_all
theorem fS{A B:(AV->Prop)->Prop}(ha:Gm A)(hb:Gm B):Gm fun K=>A K\/B K:=by
 intro K hk;rcases hk with hk | hk
 .obtain⟨v,h1,h2⟩:=ha K hk<;>grind
 .obtain⟨v,h1,h2⟩:=hb K hk<;>grind
theorem T0{fn:Fn}{first cap:Array Operand}(hk:F6 cx true ⟨dst,.makeFunc fn first cap,ty,pos,after,gd⟩ st K)(hf:Fo cx ⟨dst,.makeFunc fn first cap,ty,pos,after,gd⟩ st=some (R,w)) :
  CZ cx ⟨dst,.makeFunc fn first cap,ty,pos,after,gd⟩ st R w K:=by
 simp only[F6]at hk;simp only[Fo]at hf;cases hf;unfold KO at hk;split at hk
 .rename_i f h1;refine⟨_,none,hk,fun r o' e=>(by cases e),fun st2 Hs K' h'=>?_⟩;simp only[F6,h1,KO]
  have:cap.toList.map (fun x=>rsv st2.h (ev st2.t x))=cap.toList.map (fun x=>rsv st.h (ev st.t x)):=Ce fun x hx=>by
   rw[Hs.t x (by grind [Op.operands])];exact nX fun r hr=>Hs.h r (aC (Ar.2 ⟨x,hx,rfl⟩) r hr)
  rw[this];exact h'
 simp_all
end
section
variable {cx:Cx}{dst:Option Nat}{ty:Nat}{pos:String}{after:Array Edge}{gd:Option (Nat×Bool)}{st:St}{R:List Nat}{w:Option Nat}{K:HK}
theorem cG{t:Nat}(hk:F6 cx true ⟨dst,.load t p,ty,pos,after,gd⟩ st K)(hf:Fo cx ⟨dst,.load t p,ty,pos,after,gd⟩ st=some (R,w)):CZ cx ⟨dst,.load t p,ty,pos,after,gd⟩ st R w K:=by
 simp only[F6]at hk;have hn:∀st2,Alike ⟨dst,.load t p,ty,pos,after,gd⟩ R st st2->ev st2.t p=ev st.t p:=fun st2 ha=>ha.t p (by simp[Op.operands]);simp only[Fo]at hf;unfold JN at hk;split at hf
 .grind [KX,F6,JN,CZ.pick]
 .grind [KX,F6,JN,List.mem_cons_self,CZ.pick,Alike.h]
 .rename_i r n sz i off hp;cases hf;rw[hp]at hk;simp only at hk;split at hk
  all_goals grind [KX,F6,JN,CZ.pick,Alike.h]
 simp_all
theorem XU(hk:F6 cx true ⟨dst,.assign x,ty,pos,after,gd⟩ st K)(hf:Fo cx ⟨dst,.assign x,ty,pos,after,gd⟩ st=some (R,w)):CZ cx ⟨dst,.assign x,ty,pos,after,gd⟩ st R w K:=by
 simp only[F6]at hk;have hn:∀st2,Alike ⟨dst,.assign x,ty,pos,after,gd⟩ R st st2->ev st2.t x=ev st.t x:=fun st2 ha=>ha.t x (by simp[Op.operands]);simp only[Fo]at hf;split at hf
 .cases hf
 .rename_i hx;cases hf;have same:∃y,∀(h:Nat->HO) (K:HK),Pd cx dst h (ev st.t x) K↔K y h:=by
   unfold Pd;cases dst with
   |none=>exact⟨_,fun _ _=>Iff.rfl⟩
   |some d=>
    simp only;cases G7 cx.pl.tok d with
    |some sz=>
     simp only;cases Nat.beq sz 0 with
     |true=>exact⟨_,fun _ _=>Iff.rfl⟩
     |false=>
      refine⟨ev st.t x,fun h K=>?_⟩;simp_all
    |none=>
     simp only;cases G7 cx.pl.arr d with
     |some sz=>
      refine⟨ev st.t x,fun h K=>?_⟩;simp_all
     |none=>exact⟨_,fun _ _=>Iff.rfl⟩
  obtain⟨y,same⟩:=same;exact .pick (CQ y) ((same _ _).1 hk) fun st2 ha K' h=>by grind [F6]
theorem RR{t:Nat}{lo hi mx:Option Operand}(hp:Tl cx.pl.tok dst=none)(hk:F6 cx true ⟨dst,.slice t x lo hi mx,ty,pos,after,gd⟩ st K)(hf:Fo cx ⟨dst,.slice t x lo hi mx,ty,pos,after,gd⟩ st=some (R,w)) :
  CZ cx ⟨dst,.slice t x lo hi mx,ty,pos,after,gd⟩ st R w K:=by
 simp only[F6,hp]at hk;have hn:∀st2,Alike ⟨dst,.slice t x lo hi mx,ty,pos,after,gd⟩ R st st2->ev st2.t x=ev st.t x/\CN st2.t lo=CN st.t lo/\CN st2.t hi=CN st.t hi/\CN st2.t mx=CN st.t mx:=by
  grind [Option,CN,Op.operands,Alike.t]
 simp only[Fo,hp]at hf;split at hf
 .cases hf
 .rename_i hx;cases hf;have e3:CN st.t none=some none:=rfl
  have Vt:Gm (fun K1=>Iv cx dst st.h t (ev st.t x) (CN st.t lo) (CN st.t hi) (some none) fun v _=>K1 v) /\
    ∀(h:Nat->HO) (K:HK),Iv cx dst h t (ev st.t x) (CN st.t lo) (CN st.t hi) (some none) K↔Iv cx dst st.h t (ev st.t x) (CN st.t lo) (CN st.t hi) (some none) (fun v _=>K v h):=by
   generalize ev st.t x=X at hx;unfold Iv;constructor
   .repeat' split
    all_goals first | exact Ci | exact DO (CQ _) | exact DO (DO (CQ _)) | skip
    all_goals first | (rename_i e;cases e;done) | skip
    all_goals (exfalso;exact hx _ _ rfl)
   .intro h K
    repeat' split
    all_goals simp_all
    all_goals simp_all
  grind [F6,CZ.pick]
 .rename_i y tk es hx;obtain⟨d,rfl,e0⟩:=IM hf;cases e0;rw[hx]at hk;unfold Iv at hk;split at hk
  .rename_i Ij OU sR e1 e2 e3;split at hk
   .simp_all
   .rename_i e he;split at hk
    .simp_all
    .rename_i k FI;simp only at hk;split at hk
     .grind [CN]
     .rename_i m;split at hk
      .rename some d=some _=>e5
       cases e5
       split at hk
       .rename_i un;refine⟨_,none,hk.2.2,fun r o' e=>(by cases e),fun st2 Hs K' h'=>?_⟩;obtain⟨n1,n2,n3,n4⟩:=hn st2 Hs;simp only[F6,hp];rw[n1,n2,n3,n4,hx,e1,e2,e3];unfold Iv;simp only[he];split
        .omega
        .simp only[un];exact⟨hk.1,hk.2.1,h'⟩
       rename_i un;split at hk
       .rename_i hd;refine⟨_,some (d,_),hk.2.2,fun r o' e=>(by simp_all),fun st2 Hs K' h'=>?_⟩;obtain⟨n1,n2,n3,n4⟩:=hn st2 Hs;simp only[F6,hp];rw[n1,n2,n3,n4,hx,e1,e2,e3];unfold Iv;simp only[he];split
        .omega
        .simp only[un];rw[Hs.h d (Ag ..),hd];exact⟨hk.1,hk.2.1,h'⟩
       simp_all
      simp_all
   simp_all
  simp_all
 simp_all
theorem iu{t:Nat}{lo hi mx:Option Operand}{p:Nat}(hp:Tl cx.pl.tok dst=some p)(hk:F6 cx true ⟨dst,.slice t x lo hi mx,ty,pos,after,gd⟩ st K)(hf:Fo cx ⟨dst,.slice t x lo hi mx,ty,pos,after,gd⟩ st=some (R,w)) :
  SE cx ⟨dst,.slice t x lo hi mx,ty,pos,after,gd⟩ st R w K:=by
 simp only[F6,hp]at hk;simp only[Fo,hp]at hf;obtain⟨d',r,n,hd,hx,e0⟩:=cD hf;cases e0;cases dst with
 |none=>cases hd
 |some d=>
 cases hd
 unfold UV at hk;split at hk
 .rw[hx]at hk;unfold nJ at hk;split at hk
  .rename_i d0 OU e1 e2;cases e1;split at hk
   .rename_i e he;split at hk
    .simp_all
    .rename_i k FI;simp only at hk;split at hk
     .rename_i sz es hr;split at hk
      .rename_i hd;split at hk
       .rename_i q1 q3;obtain⟨h1,hk⟩:=hk;have hr8:r<10000000/\0<Kq cx d:=by simp_all
        obtain⟨hr7,hz⟩:=hr8;refine⟨_,[(r,.dead),(Kq cx d,_)],hk,fun r' o' e=>?_,fun st2 ha K' h'=>?_⟩
        .rcases AR.1 e with e | e
         .cases e
          refine⟨.inr (.inl ⟨by omega,.inl ?_⟩),Ag ..⟩;omega
         .obtain e:=AJ.1 e;cases e;refine⟨.inr (.inl ⟨by omega,.inr ?_⟩),Aj _ (Ag ..)⟩;omega
        .have o1:CN st2.t hi=CN st.t hi:=by
          cases hi<;>grind [CN,Op.operands,Alike.t]
         simp only[F6,hp];unfold UV;rw[ha.t x (by simp[Op.operands]),o1,hx,e2];unfold nJ;simp only[he];split
         .omega
         .simp only[ha.h r (Ag ..),hr,ha.h (Kq cx d) (Aj _ (Ag ..)),hd,q1,q3];exact⟨h1,h'⟩
       simp_all
      simp_all
     simp_all
   simp_all
  simp_all
 simp_all
theorem XT{s:Operand}{Hp:Array TypeId}(hk:F6 cx true ⟨dst,.call ⟨.builtin .append,#[s,x],Hp⟩,ty,pos,after,gd⟩ st K)(hf:Fo cx ⟨dst,.call ⟨.builtin .append,#[s,x],Hp⟩,ty,pos,after,gd⟩ st=some (R,w)) :
  CZ cx ⟨dst,.call ⟨.builtin .append,#[s,x],Hp⟩,ty,pos,after,gd⟩ st R w K:=by
 have hk:Ga cx dst st.h .append Hp.toList [ev st.t s,ev st.t x] K:=hk;have hf:XS cx dst (ev st.t s) (ev st.t x)=some (R,w):=hf;have hn:∀st2,Alike ⟨dst,.call ⟨.builtin .append,#[s,x],Hp⟩,ty,pos,after,gd⟩ R st st2->ev st2.t s=ev st.t s/\ev st2.t x=ev st.t x:=fun st2 ha=>
  ⟨ha.t s (by simp[Op.operands,Call.operands]),ha.t x (by simp[Op.operands,Call.operands])⟩
 have JL:∀st2,Alike ⟨dst,.call ⟨.builtin .append,#[s,x],Hp⟩,ty,pos,after,gd⟩ R st st2->∀K' : HK,Ga cx dst st2.h .append Hp.toList [ev st.t s,ev st.t x] K'->F6 cx true ⟨dst,.call ⟨.builtin .append,#[s,x],Hp⟩,ty,pos,after,gd⟩ st2 K':=by
  intro st2 ha K' h;rw[<-(hn st2 ha).1,<-(hn st2 ha).2]at h;exact h
 generalize Hp.toList=l at hk JL
 match l,hk,JL with
 | [t,t'],hk,JL=>
  simp only[Ga]at hk JL;split at hk
  .rename_i ht;simp only[ht]at JL;unfold Ix at hk JL;split at hk
   .rename_i e he;simp only[he]at JL;split at hk
    .simp_all
    .rename_i hz;simp only[hz]at JL;split at hk
     .simp_all
     .rename_i k FI;obtain⟨es2,q1,q2⟩:=cw hk;have mD:∀d,R=d::jg (ev st.t x)->∀st2,Alike ⟨dst,.call ⟨.builtin .append,#[s,x],Hp⟩,ty,pos,after,gd⟩ R st st2->∀r n,ev st.t x=.msl r n->st2.h r=st.h r:=fun d hR st2 ha r n e=>ha.h r (by rw[hR,e];simp[jg]);unfold XS at hf;split at hf
      .rename_i hs;obtain⟨d,iD,e0⟩:=IM hf;cases e0;rw[hs]at q1 JL;simp only at q1 JL;obtain⟨d',hd,v,y,q3,q4⟩:=ID q1.2;rw[iD]at hd;cases hd;refine⟨v,some (d,y),q3,fun r o' e=>(by simp_all),fun st2 Hs K' h'=>JL st2 Hs K' ?_⟩;split
       .omega
       .exact q2 st2.h (mD d rfl st2 Hs) _ ⟨q1.1,q4 st2.h (Hs.h d (Ag ..)) K' h'⟩
      .rename_i HS es hs;obtain⟨d,iD,e0⟩:=IM hf;cases e0;rw[hs]at q1 JL;simp only at q1 JL;split at q1
       .rename_i h1;obtain⟨d',hd,v,y,q3,q4⟩:=ID q1.2;rw[iD]at hd;cases hd;refine⟨v,some (d,y),q3,fun r o' e=>(by simp_all),fun st2 Hs K' h'=>JL st2 Hs K' ?_⟩;split
        .omega
        .refine q2 st2.h (mD d rfl st2 Hs) _ ?_;simp only[h1];exact⟨q1.1,q4 st2.h (Hs.h d (Ag ..)) K' h'⟩
       simp_all
      .rename_i r HS es hs;cases hf;rw[hs]at q1 JL;simp only at q1 JL;split at q1
       .rename_i sz n hr;split at q1
        .rename_i h1 h2;refine⟨_,some (r,_),q1.2,fun r o' e=>(by simp_all),fun st2 Hs K' h'=>JL st2 Hs K' ?_⟩;split
         .omega
         .refine q2 st2.h (mD r rfl st2 Hs) _ ?_;simp only[Hs.h r (Ag ..),hr,h1,h2];exact⟨q1.1,h'⟩
        simp_all
       simp_all
      .rename_i r n hs;cases hf;rw[hs]at q1 JL;simp only at q1 JL;split at q1
       .rename_i sz es hr;split at q1
        .rename_i h1;refine⟨_,some (r,_),q1.2,fun r o' e=>(by simp_all),fun st2 Hs K' h'=>JL st2 Hs K' ?_⟩;split
         .omega
         .refine q2 st2.h (mD r rfl st2 Hs) _ ?_;simp only[Hs.h r (Ag ..),hr,h1];exact⟨q1.1,h'⟩
        simp_all
       simp_all
      simp_all
   simp_all
  simp_all
 | [],hk,_=>exact hk.elim
 | [_],hk,_=>exact hk.elim
 |_::_::_::_,hk,_=>exact hk.elim
theorem Rc(t:Nat):Gm (Kt T t):=by
 unfold Kt
 repeat' split
 all_goals first | exact Ci | exact CQ _
theorem US(ty:Nat)(ok:Bool)(BY:List (Value×AV))(kx:Value):Gm (Mu T ty ok BY kx):=by
 unfold Mu
 repeat' split
 .refine fS (Qh fun a=>DO (CQ _)) (DO ?_);intro K hk;obtain⟨v,h1,h2⟩:=Rc T _ _ hk<;>grind [Rc]
 .exact fS (Qh fun a=>DO (CQ _)) (DO (Rc T _))
 .exact Ci
theorem aZ(ty:Nat)(sh:ES)(k:AV){F:Value->(AV->Prop)->Prop}(h:∀x,Gm (F x)):Gm fun K=>Kr T ty sh k fun kx=>F kx K:=by
 unfold Kr
 repeat' split
 all_goals grind [Ci]
theorem XV{t:Nat}{m k:Operand}{ok:Bool}(hk:F6 cx true ⟨dst,.lookup t m k ok,ty,pos,after,gd⟩ st K)(hf:Fo cx ⟨dst,.lookup t m k ok,ty,pos,after,gd⟩ st=some (R,w)) :
  CZ cx ⟨dst,.lookup t m k ok,ty,pos,after,gd⟩ st R w K:=by
 simp only[F6]at hk;have hn:∀st2,Alike ⟨dst,.lookup t m k ok,ty,pos,after,gd⟩ R st st2->ev st2.t m=ev st.t m/\ev st2.t k=ev st.t k:=fun st2 ha=>⟨ha.t m (by simp[Op.operands]),ha.t k (by simp[Op.operands])⟩;simp only[Fo]at hf;unfold Np at hk;split at hf
 .rename_i sh BY hm;cases hf;rw[hm]at hk;simp only at hk;exact .pick (aZ _ _ _ _ fun _=>US _ _ _ _ _) hk fun st2 ha K' h=>by grind [F6,Np]
 .rename_i r hm;cases hf;rw[hm]at hk;simp only at hk;split at hk
  all_goals first | exact hk.elim | (rename_i e;exact .pick (aZ _ _ _ _ fun _=>US _ _ _ _ _) hk fun st2 ha K' h=>by grind [F6,Np,Alike.h])
 simp_all
theorem nF(t:Nat)(h:Nat->HO)(x:AV):Gm (RV T t h x):=by
 unfold RV
 repeat' split
 all_goals first | exact Ci | exact CQ _
theorem vd{T:GW}{t:Nat}{h h2:Nat->HO}{x:AV}(e:∀r,x=.mref r->h2 r=h r){K:AV->Prop}:RV T t h2 x K=RV T t h x K:=by
 cases x<;>first | rfl | skip
 grind [RV]
theorem ir{Hp:Array TypeId}(hk:F6 cx true ⟨dst,.call ⟨.builtin .len,#[x],Hp⟩,ty,pos,after,gd⟩ st K)(hf:Fo cx ⟨dst,.call ⟨.builtin .len,#[x],Hp⟩,ty,pos,after,gd⟩ st=some (R,w)) :
  CZ cx ⟨dst,.call ⟨.builtin .len,#[x],Hp⟩,ty,pos,after,gd⟩ st R w K:=by
 have hk:Ga cx dst st.h .len Hp.toList [ev st.t x] K:=hk;have hf:Hg cx dst (.builtin .len) st.t [ev st.t x]=some (R,w):=hf;have hn:∀st2,Alike ⟨dst,.call ⟨.builtin .len,#[x],Hp⟩,ty,pos,after,gd⟩ R st st2->ev st2.t x=ev st.t x:=fun st2 ha=>ha.t x (by simp[Op.operands,Call.operands]);have JL:∀st2,Alike ⟨dst,.call ⟨.builtin .len,#[x],Hp⟩,ty,pos,after,gd⟩ R st st2->∀K' : HK,Ga cx dst st2.h .len Hp.toList [ev st.t x] K'->F6 cx true ⟨dst,.call ⟨.builtin .len,#[x],Hp⟩,ty,pos,after,gd⟩ st2 K':=by
  intro st2 ha K' h;rw[<-hn st2 ha]at h;exact h
 generalize Hp.toList=l at hk JL
 match l,hk,JL with
 | [t],hk,JL=>
  grind [Hg,nF,Ga,vd,CZ.pick,Alike.h]
 | [],hk,_=>exact hk.elim
 |_::_::_,hk,_=>exact hk.elim
end
theorem qO(h:I1 l n=true):n∈l:=by
 induction l<;>grind [I1,DH]
theorem Zm(G:Nat->HO):∀(σ:Jj) (h:Nat->HO),Er σ=true->(fun i=>match Cq σ i with | some j=>G j | none=>h i)=Ip h (σ.map fun p=>(p.1,G p.2))
 | [],h,_=>rfl
 |(i,j)::r,h,hσ=>by
  unfold Er at hσ;simp only[Ak]at hσ;have ih:=Zm G r (AK h i (G j)) hσ.2
  grind [Ip,AK,Cq,DH]
theorem Wd(hσ:Er σ=true){h h' : Nat->HO}:Eb σ d 0 h h'=Ip h (σ.map fun p=>(p.1,(h' p.2).ren (Fr σ d 0) h')):=by
 rw[<-Zm (fun j=>(h' j).ren (Fr σ d 0) h') σ h hσ]
 grind [Eb,Nat.blt,Nat.ble_eq]
section
variable {cx:Cx}{op:Op}{dst:Option Nat}{ty:Nat}{pos:String}{after:Array Edge}{gd:Option (Nat×Bool)}{st:St}{R:List Nat}{w:Option Nat}{K:HK}
theorem CZ.toL(h:CZ cx ⟨dst,op,ty,pos,after,gd⟩ st R w K):SE cx ⟨dst,op,ty,pos,after,gd⟩ st R w K:=by
 obtain⟨v,e,h1,h2,h3⟩:=h;cases e with
 |none=>exact⟨v,[],h1,fun r o' e=>(by cases e),h3⟩
 |some p=>exact⟨v,[p],h1,fun r o' e=>by
   obtain rfl:=AJ.1 e;obtain⟨a,b⟩:=h2 r o' rfl;exact⟨by rw[a];exact .inl rfl,b⟩,h3⟩
theorem cE{c:Call}(hk:F6 cx true ⟨dst,.call c,ty,pos,after,gd⟩ st K)(hf:Fo cx ⟨dst,.call c,ty,pos,after,gd⟩ st=some (R,w)):SE cx ⟨dst,.call c,ty,pos,after,gd⟩ st R w K:=by
 obtain⟨wd,args,Hp⟩:=c;have Kc:∀st2,Alike ⟨dst,.call ⟨wd,args,Hp⟩,ty,pos,after,gd⟩ R st st2->args.toList.map (ev st2.t)=args.toList.map (ev st.t):=fun st2 ha=>
  Ce fun x hx=>ha.t x (by grind [Op.operands,Call.operands])
 cases wd with
 |invoke r m=>exact hk.elim
 |value f=>
  have hk:GJ cx true dst st (ev st.t f) (args.toList.map (ev st.t)) K:=hk;have hf:Hg cx dst (.value f) st.t (args.toList.map (ev st.t))=some (R,w):=hf;unfold Hg at hf;unfold GJ at hk;simp only at hf hk;have hn:=Kc;split at hf
  .rename_i fm;rw[fm]at hk;cases hf;obtain⟨res,h1,h2⟩:=hk;refine CZ.toL ⟨res,none,h2,fun r o' e=>(by cases e),fun st2 ha K' h'=>?_⟩;show GJ cx true dst st2 (ev st2.t f) (args.toList.map (ev st2.t)) K';rw[Kc st2 ha,ha.t f (by simp[Op.operands,Call.operands])];unfold GJ;simp only[fm];refine⟨res,?_,h'⟩
   grind [K4,Rw,Alike.h]
  .rename_i fm;rw[fm]at hk;simp only at hk;cases dst with
   |none=>simp_all
   |some d=>
    obtain⟨n,sz,es,h1,h2,h3⟩:=hk;have hf:some (Bz d 0::(ZU (ev st.t f)++Uj (args.toList.map (ev st.t))),some (Bz d 0))=some (R,w):=hf;cases hf;refine CZ.toL ⟨_,some (Bz d 0,_),h3,fun r o' e=>(by simp_all),fun st2 ha K' h'=>?_⟩;show GJ cx true (some d) st2 (ev st2.t f) (args.toList.map (ev st2.t)) K';rw[Kc st2 ha,ha.t f (by simp[Op.operands,Call.operands])];unfold GJ;simp only[fm];refine⟨n,sz,es,?_,?_,h'⟩
    all_goals grind [D6,K4,Rw,Alike.h]
  .rename_i fm;rw[fm]at hk;have hk:Sm cx 0 dst st.h (ev st.t f) (args.toList.map (ev st.t)) K:=hk;split at hf
   .rename_i r n l hl;cases hf;have Vt:=hk;unfold Sm at Vt;rw[hl]at Vt;split at Vt
    .rename_i d0 f0 r0 n0 l0 e1 e2 z1 z2;cases e2;split at Vt
     .rename_i vs fy;split at Vt
      .rename_i sz es hr;obtain⟨n',FU,h1,h2⟩:=Vt;refine CZ.toL ⟨_,some (r,_),h2,fun r o' e=>(by simp_all),fun st2 ha K' h'=>?_⟩;show GJ cx true _ st2 (ev st2.t f) (args.toList.map (ev st2.t)) K';rw[Kc st2 ha,ha.t f (by simp[Op.operands,Call.operands]),hl,e1];unfold GJ;simp only[fm];unfold Sg;simp only;unfold Sm;simp only[fy,ha.h r (Ag ..),hr];exact⟨n',FU,h1,h'⟩
      simp_all
     simp_all
    simp_all
   simp_all
  .rename_i k fm;rw[fm]at hk;cases hb:Nat.beq k 1 with
   |true=>
    have oL:Nat.beq (k+1) 2=true:=hb;have hk:Yx cx dst st (ev st.t f) (args.toList.map (ev st.t)) K:=by
     simp_all
    rw[hb]at hf;cases dst with
    |none=>exact hk.elim
    |some d=>
     obtain⟨sz,es,h1,h2,h3⟩:=hk;have hf:some (Bz d 0::(ZU (ev st.t f)++Uj (args.toList.map (ev st.t))),some (Bz d 0))=some (R,w):=hf;cases hf;refine CZ.toL ⟨_,some (Bz d 0,_),h3,fun r o' e=>(by simp_all),fun st2 ha K' h'=>?_⟩;show GJ cx true (some d) st2 (ev st2.t f) (args.toList.map (ev st2.t)) K';rw[Kc st2 ha,ha.t f (by simp[Op.operands,Call.operands])];unfold GJ;simp only[fm,oL];refine⟨sz,es,?_,?_,h'⟩
     all_goals grind [D6,K4,Rw,Alike.h]
   |false=>
    have oL:Nat.beq (k+1) 2=false:=hb;rw[hb]at hf;have Vt:(match Nat.beq (k+1) 2 with | true=>Yx cx dst st (ev st.t f) (args.toList.map (ev st.t)) K | false=>match Nat.beq (k+1) 3 with | true=>Vq cx dst st (ev st.t f) (args.toList.map (ev st.t)) K | false=>Sg cx (k+1) dst st (ev st.t f) (args.toList.map (ev st.t)) K):=hk;rw[oL]at Vt;cases hc:Nat.beq k 2 with
    |true=>
     have WA:Nat.beq (k+1) 3=true:=hc;rw[hc]at hf;simp only[WA]at Vt;have hf:lC (args.toList.map (ev st.t))=some (R,w):=hf;unfold lC at hf;unfold Vq at Vt;split at hf
     .rename_i vs fy;cases hf;split at Vt
      .rename_i l km e1 e2 z1 z2;rw[fy]at e2;cases e2;split at Vt
       .rename_i r sz es gm n e3 e4;obtain⟨⟨rfl,rfl⟩,v,FU,n',h1,h2⟩:=Vt;refine⟨_,[(1001,_),(1000,_)],h2,fun r' o' e=>?_,fun st2 ha K' h'=>?_⟩
        .rcases AR.1 e with e | e
         .cases e
          exact⟨.inr (.inl ⟨by decide,.inr aa1⟩),by simp⟩
         .obtain e:=AJ.1 e;cases e;exact⟨.inr (.inl ⟨by decide,.inl aa1⟩),by simp⟩
        show GJ cx true _ st2 (ev st2.t f) (args.toList.map (ev st2.t)) K';rw[Kc st2 ha,ha.t f (by simp[Op.operands,Call.operands]),e1];unfold GJ;simp only[fm,oL,WA];unfold Vq;simp only[fy,ha.h 1000 aa0,ha.h 1001 aa0,e3,e4];exact⟨⟨trivial,trivial⟩,v,FU,n',h1,h'⟩
       simp_all
      simp_all
     simp_all
    |false=>
    have WA:Nat.beq (k+1) 3=false:=hc;rw[hc]at hf;have iE:Sg cx (k+1) dst st (ev st.t f) (args.toList.map (ev st.t)) K:=by
     simp_all
    have uu:lA k dst (args.toList.map (ev st.t))=some (R,w):=hf;unfold lA at uu;unfold Sg at iE;cases he:Nat.beq k 3 with
    |true=>
     have oN:Nat.beq (k+1) 4=true:=he;rw[he]at uu;rw[oN]at iE;have uu:some (pW,some Xt)=some (R,w):=uu;have iE:ZH cx dst st (ev st.t f) (args.toList.map (ev st.t)) K:=iE;cases uu;unfold ZH at iE;split at iE
     .rename_i d f' caps e2 _ _ _;obtain⟨σ,H0,Hn,args',res,g1,g2,g3,g4⟩:=iE;simp only[Ak]at g2;refine⟨_,σ.map fun p=>(p.1,(Ai Hn Af p.2).ren (Fr σ d 0) (Ai Hn Af)),(Wd (h:=st.h) (h':=Ai Hn Af) (d:=d) g2.1.1)▸g4,fun r' o' e=>?_,fun st2 ha K' h'=>?_⟩
      .obtain⟨p,hp,e⟩:=Ar.1 e;cases e;exact⟨.inr (.inr rfl),qO (A0.1 g2.2 p hp)⟩
      .show GJ cx true _ st2 (ev st2.t f) (args.toList.map (ev st2.t)) K';rw[Kc st2 ha,ha.t f (by simp[Op.operands,Call.operands])];unfold GJ;simp only[fm,oL,WA];unfold Sg;simp only[oN];unfold ZH
       grind [Wd,Alike.h]
     simp_all
    |false=>
    have oN:Nat.beq (k+1) 4=false:=he;rw[he]at uu;rw[oN]at iE;have hf:eX dst (args.toList.map (ev st.t))=some (R,w):=uu;have hk:Sm cx (k+1) dst st.h (ev st.t f) (args.toList.map (ev st.t)) K:=iE;obtain⟨d,r,n,l,rfl,hl,e0⟩:=cC hf;cases e0;unfold Sm at hk;rw[hl]at hk;split at hk
    .rename_i d0 f0 r0 n0 l0 e9 e1 e2;cases e9;cases e2;split at hk
     .rename_i vs fy;split at hk
      .rename_i sz es hr;obtain⟨n',FU,h0,h1,h2⟩:=hk;have h00:=h0;simp only[Ak,Dt]at h00;refine⟨_,[(r,.dead),(Bz d 0,_)],h2,fun r' o' e=>?_,fun st2 ha K' h'=>?_⟩
       .rcases AR.1 e with e | e
        .cases e
         refine⟨.inr (.inl ⟨by grind [Bz],.inl ?_⟩),Ag ..⟩;omega
        .obtain e:=AJ.1 e;cases e;refine⟨.inr (.inl ⟨by grind [Bz],.inr ?_⟩),Aj _ (Ag ..)⟩;omega
       show GJ cx true _ st2 (ev st2.t f) (args.toList.map (ev st2.t)) K';rw[Kc st2 ha,ha.t f (by simp[Op.operands,Call.operands]),hl,e1];unfold GJ;simp only[fm,oL,WA];unfold Sg;simp only[oN];unfold Sm;simp only[fy,ha.h r (Ag ..),hr]
       have:D6 st2.h d 1=D6 st.h d 1:=by grind [D6,Alike.h]
       exact⟨n',FU,by simp_all,h1,h'⟩
      simp_all
     simp_all
    simp_all
 |builtin b=>
  refine CZ.toL ?_;have mm:∀f:Int->Int->Int,(∀(d:Option Nat) (h:Nat->HO) (Hp:List Nat) (args:List AV) (K:HK),Ga cx d h b Hp args K=(match args with | [x,y]=>qQ f x y fun v=>K v h | _=>False))->R=[]/\w=none->CZ cx ⟨dst,.call ⟨.builtin b,args,Hp⟩,ty,pos,after,gd⟩ st R w K:=by
   rintro f hb ⟨rfl,rfl⟩
   have hk:Ga cx dst st.h b Hp.toList (args.toList.map (ev st.t)) K:=hk;rw[hb]at hk;split at hk
   .rename_i x y e;refine .pick (rf f x y) hk fun st2 ha K' h=>?_;show Ga cx dst st2.h b Hp.toList (args.toList.map (ev st2.t)) K';simp_all
   simp_all
  cases b
  case max=>exact mm max (fun d h Hp args K=>by cases args with | nil=>rfl | cons x l=>cases l with | nil=>rfl | cons y l=>cases l<;>rfl) (by
   have hf:Hg cx dst (.builtin .max) st.t (args.toList.map (ev st.t))=some (R,w):=hf
   grind [Hg])
  case min=>exact mm min (fun d h Hp args K=>by cases args with | nil=>rfl | cons x l=>cases l with | nil=>rfl | cons y l=>cases l<;>rfl) (by
   have hf:Hg cx dst (.builtin .min) st.t (args.toList.map (ev st.t))=some (R,w):=hf
   grind [Hg])
  case append=>
   obtain⟨l⟩:=args
   match l,hk,hf with
   | [s,x],hk,hf=>grind [XT]
   | [],hk,hf=>cases Hp;exact hk.elim
   | [_],hk,hf=>exact hk.elim
   |_::_::_::_,hk,hf=>exact hk.elim
  case len=>
   obtain⟨l⟩:=args
   match l,hk,hf with
   | [x],hk,hf=>grind [ir]
   | [],hk,hf=>exact hk.elim
   |_::_::_,hk,hf=>exact hk.elim
  all_goals exact hk.elim
theorem bT(hc:∀c,o.op≠.call c)(hs:(∃t x lo hi mx,o.op=.slice t x lo hi mx)->Tl cx.pl.tok o.dst=none)(hk:F6 cx true o st K)(hf:Fo cx o st=some (R,w)):CZ cx o st R w K:=by
 obtain⟨dst,op,ty,pos,after,gd⟩:=o;cases op with
 |call c=>simp_all
 |alloc e=>grind [ZC]
 |box e x=>grind [iq]
 |buildSlice t n ps=>grind [QQ]
 |makeSlice t n c=>grind [Sq]
 |makeMap t r=>grind [VF]
 |store t p x=>grind [ZD]
 |mapUpdate t m k x=>grind [Sr]
 |makeFunc fn first cap=>grind [T0]
 |load t p=>grind [cG]
 |assign x=>grind [XU]
 |slice t x lo hi mx=>grind [RR]
 |lookup t x i ok=>grind [XV]
 |move x=>
  cases hf
  exact .pick (CQ _) hk fun st2 ha K' h=>by grind [F6,Op.operands,Alike.t]
 |pick c a b=>
  cases hf
  exact .pick (jE _ _ _) hk fun st2 ha K' h=>by grind [F6,Op.operands,Alike.t]
 |nilCheck x=>
  grind [nG,F6,Op.operands,CZ.pick,Alike.t]
 |binOp op t x y u=>
  simp only[Fo]at hf;split at hf
  .cases hf
  .rename_i hx;cases hf;exact .pick (jC _ _ _ _ _ _ hx) hk fun st2 ha K' h=>by grind [F6,Op.operands,Alike.t]
 |unOp op t x=>
  grind [jF,F6,Op.operands,CZ.pick,Alike.t]
 |convert s t x=>
  grind [jD,F6,Op.operands,CZ.pick,Alike.t]
 |fieldAddr s x f=>
  grind [dB,F6,Op.operands,CZ.pick,Alike.t]
 |field s x f=>
  grind [aY,F6,Op.operands,CZ.pick,Alike.t]
 |indexAddr t x i=>
  cases hf
  exact .pick (UT _ _ _ _) hk fun st2 ha K' h=>by grind [F6,Op.operands,Alike.t]
 |index t x i=>
  cases hf
  exact .pick (dC _ _ _ _) hk fun st2 ha K' h=>by grind [F6,Op.operands,Alike.t]
 |extract x i=>
  grind [Ym,F6,Op.operands,CZ.pick,Alike.t]
 |build t ps=>
  cases hf
  refine .pick (dA _ _ _ _) hk fun st2 ha K' h=>?_;have hx:∀p∈ps.toList,ev st2.t p.2=ev st.t p.2:=fun p hp=>ha.t p.2 (by
   grind [Op.operands])
  simp only[F6];have fill:∀(pl:Nat->Option (Nat×Nat)) (l:List (Nat×Operand)) (cs:List AV) (K:List AV->Prop),(∀p∈l,ev st2.t p.2=ev st.t p.2)->KJ pl cs st2.t l K=KJ pl cs st.t l K:=by
   intro pl l
   induction l with
   |nil=>intro cs K _;rfl
   |cons p l ih=>
    intro cs K hp;obtain⟨i,x⟩:=p;have h1:ev st2.t x=ev st.t x:=hp (i,x) (Ag ..);have h2:∀cs,KJ pl cs st2.t l K=KJ pl cs st.t l K:=fun cs=>ih cs K (fun p uG=>hp p (Aj _ uG));simp only[KJ,h1,h2]
  unfold QE at h⊢;simp only[fill _ _ _ _ hx];exact h
 |_=>cases hf
theorem gH(hk:F6 cx true o st K)(hf:Fo cx o st=some (R,w)):SE cx o st R w K:=by
 obtain⟨dst,op,ty,pos,after,gd⟩:=o
 by_cases h:∃c,op=.call c
 .grind [cE]
 .by_cases h2:∃t x lo hi mx,op=.slice t x lo hi mx
  .obtain⟨t,x,lo,hi,mx,rfl⟩:=h2;cases hp:Tl cx.pl.tok dst<;>grind [CZ.toL,RR,iu]
  grind [CZ.toL,bT]
end
theorem ip(h:∀x∈o.op.operands,ev st2.t x=ev st.t x):Fo cx o st2=Fo cx o st:=by
 obtain⟨dst,op,ty,pos,after,gd⟩:=o;cases op with
 |call c=>
  obtain⟨wd,args,Hp⟩:=c;have ha:args.toList.map (ev st2.t)=args.toList.map (ev st.t):=Ce fun x hx=>h x (by grind [Op.operands,Call.operands]);simp only[Fo];rw[ha];cases wd with
  |value f=>
   have hf:ev st2.t f=ev st.t f:=h f (by simp[Op.operands,Call.operands]);simp only[Hg,hf]
  |builtin b=>
   generalize args.toList.map (ev st.t)=l
   match l with
   | []=>cases b<;>rfl
   | [x]=>cases b<;>cases x<;>rfl
   | [x,y]=>cases b<;>cases x<;>rfl
   |x::_::_::_=>cases b<;>cases x<;>rfl
  |invoke r m=>rfl
 |box e x=>grind [Fo,Op.operands]
 |buildSlice t n ps=>
  grind [List.map_congr_left,Op.operands,Fo]
 |store t p x=>grind [Fo,Op.operands]
 |mapUpdate t m k x=>grind [Fo,Op.operands]
 |makeFunc fn first cap=>
  grind [List.map_congr_left,Op.operands,Fo]
 |load t p=>grind [Fo,Op.operands]
 |assign x=>grind [Fo,Op.operands]
 |binOp op t x y u=>grind [Fo,Op.operands]
 |slice t x lo hi mx=>grind [Fo,Op.operands]
 |lookup t x i ok=>grind [Fo,Op.operands]
 |_=>rfl
def Looks(o:Oper)(st st2:St):Prop:=∀d∈o.looksAt ops,st2.t d=st.t d
theorem Looks.operands{ops:Array Oper}{o:Oper}{st st2:St}(h:Looks ops o st st2):∀x∈o.op.operands,ev st2.t x=ev st.t x:=fun x hx=>by
 cases x with
 |tmp t=>exact h t (Bw _ (List.mem_filterMap.2 ⟨.tmp t,by simp_all,rfl⟩))
 |_=>rfl
theorem WV(j:Nat):LB ops.toList j=(ops[j]?).bind (·.dst):=by
 have:∀(l:List Oper) (j:Nat),LB l j=(l[j]?).bind (·.dst):=by
  intro l
  induction l with
  |nil=>grind [LB]
  |cons o l ih=>
   intro j;cases j<;>grind [LB]
 simp_all
theorem Looks.guard{ops:Array Oper}(h:Looks ops o st st2){j:Nat}{b:Bool}(hg:o.guard=some (j,b))(hd:LB ops.toList j=some d):st2.t d=st.t d:=
 h d (B7 _ (by grind [WV]))
def St.after(st:St)(o:Oper)(v:AV)(e:List (Nat×HO)):St:=st.put o.dst v (Ip st.h e)
def QA(cx:Cx)(ops:Array Oper)(o:Oper)(st:St)(f:FF)(v:AV)(e:List (Nat×HO)):Prop:=
 (∀r o',(r,o')∈e->Tb f.2 r/\r∈f.1)/\∀st2,Looks ops o st st2->(∀r∈f.1,st2.h r=st.h r)->∀K:St->Prop,K (st2.after o v e)->I7 cx true ops.toList o st2 K
theorem TX{ops:Array Oper}(h:Looks ops o st st2):NY cx ops.toList o st2=NY cx ops.toList o st:=by
 grind [NY,ip,Looks.operands,Looks.guard]
theorem Pc{ops:Array Oper}(hk:I7 cx true ops.toList o st K)(hf:NY cx ops.toList o st=some f) :
  ∃v e,QA cx ops o st f v e/\K (st.after o v e):=by
 obtain⟨R,w⟩:=f;have skip:R=[]/\w=none->K (st.put o.dst (.v undef) st.h)->(∀st2,Looks ops o st st2->∀K:St->Prop,K (st2.put o.dst (.v undef) st2.h)->I7 cx true ops.toList o st2 K)->∃v e,QA cx ops o st (R,w) v e/\K (st.after o v e):=by
  rintro⟨rfl,rfl⟩ h1 h2
  exact⟨.v undef,[],⟨fun r o' e=>(by cases e),fun st2 hl _ K h=>h2 st2 hl K h⟩,h1⟩
 have run:Fo cx o st=some (R,w)->F6 cx true o st (fun v h=>K (st.put o.dst v h))->(∀st2,Looks ops o st st2->∀K:St->Prop,F6 cx true o st2 (fun v h=>K (st2.put o.dst v h))->I7 cx true ops.toList o st2 K)->∃v e,QA cx ops o st (R,w) v e/\K (st.after o v e):=by
  intro hf hk h2;obtain⟨v,e,q1,q2,q3⟩:=gH hk hf;exact⟨v,e,⟨q2,fun st2 hl hh K h=>h2 st2 hl K (q3 st2 ⟨hl.operands,hh⟩ _ h)⟩,q1⟩
 unfold I7 at hk;unfold NY at hf;cases hg:o.guard with
 |none=>
  rw[hg]at hk hf;exact run hf hk (fun st2 hl K h=>by unfold I7;rw[hg];exact h)
 |some p=>
  obtain⟨j,want⟩:=p;rw[hg]at hk hf;simp only at hk hf;cases hd:LB ops.toList j with
  |none=>simp_all
  |some d=>
   rw[hd]at hk hf;simp only at hk hf;have he:∀st2,Looks ops o st st2->st2.t d=st.t d:=fun st2 hl=>hl.guard hg hd;generalize hx:st.t d=x at hk hf he;split at hk
   .exact run hf hk (fun st2 hl K h=>by unfold I7;simp only[hg,hd,he st2 hl];exact h)
   .exact run hf hk (fun st2 hl K h=>by unfold I7;simp only[hg,hd,he st2 hl];exact h)
   all_goals grind [I7]
def wO(cx:Cx)(ops:Array Oper)(FT:Nat->FF)(i:Nat)(K:St->Prop)(st:St):Prop:=
 match ops[i]? with
 |none=>K st
 |some o=>NY cx ops.toList o st=some (FT i)/\I7 cx true ops.toList o st K
def YN(cx:Cx)(ops:Array Oper)(FT:Nat->FF)(K:St->Prop):Nat->Array Bool->St->Prop
 |0,listed,st=>Region.ready .any ops listed=[]/\K st
 |fuel+1,listed,st=>
  (Region.ready .any ops listed=[]->K st)/\∀i∈Region.ready .any ops listed,wO cx ops FT i (YN cx ops FT K fuel (listed.setIfInBounds i true)) st
theorem j8(t:Nat->AV)(h:d'≠d)(v v' : AV):JY (JY t d v) d' v'=JY (JY t d' v') d v:=by
 grind [JY,DH]
theorem iH(t:Nat->HO)(h:d'≠d)(v v' : HO):AK (AK t d v) d' v'=AK (AK t d' v') d v:=by
 grind [AK,DH]
theorem aB(h:n∈l):I1 l n=true:=by
 induction l<;>grind [I1,Nat.beq_refl]
theorem aE(h:I1 l n=true):n∈l:=by
 induction l<;>grind [I1,DH]
theorem aS{x:Nat}(h:aQ l x=true):∀r,Tb (some x) r->r∉l:=by
 intro r hc hr;unfold aQ at h
 by_cases hx:x=Xt
 .subst hx;rw[Nat.beq_refl,cond_true]at h;cases l with
  |nil=>cases hr
  |cons a l=>cases h
 rw[DH hx,GX]at h;simp only[Ak,HU,EO,Dt]at h;rcases hc with rfl | ⟨h1,h2⟩ | hc<;>grind [aB]
theorem ib{a b:FF}(h:TF a b=true):(∀r,Tb a.2 r->r∉b.1)/\∀r,Tb b.2 r->r∉a.1:=by
 obtain⟨a1,a2⟩:=a;obtain⟨b1,b2⟩:=b;simp only[TF,Ak]at h;refine⟨fun r e=>?_,fun r e=>?_⟩
 .cases a2 with
  |none=>exact e.elim
  |some x=>grind [aS]
 .cases b2 with
  |none=>exact e.elim
  |some x=>grind [aS]
section
variable {cx:Cx}{ops:Array Oper}{FT:Nat->FF}
theorem RX{oi oj:Oper}(h:∀d,oi.dst=some d->d∉oj.looksAt ops)(st:St)(v:AV)(e:List (Nat×HO)):Looks ops oj st (st.after oi v e):=by
 intro d hd;cases hdst:oi.dst with
 |none=>grind [St.after,St.put]
 |some d'=>
  have:d≠d':=fun q=>h d' hdst (q▸hd)
  simp[St.after,St.put,hdst,JY,DH this]
theorem Looks.symm{o:Oper}{st st2:St}(h:Looks ops o st st2):Looks ops o st2 st:=fun d hd=>(h d hd).symm
theorem fc{o:Oper}{v:AV}{e:List (Nat×HO)}:(st.after o v e).h=Ip st.h e:=by
 unfold St.after St.put;grind
theorem QL{r:Nat}:∀{e:List (Nat×HO)} {h:Nat->HO},(∀o',(r,o')∉e)->Ip h e r=h r
 | [],_,_=>rfl
 |p::e,h,hr=>by
  have:r≠p.1:=fun q=>hr p.2 (by simp_all)
  show Ip (AK h p.1 p.2) e r=h r;rw[QL fun o' ho=>hr o' (Aj _ ho),BT _ _ _ _ this]
theorem Zn{r:Nat}{o:HO}:∀{e:List (Nat×HO)} {h:Nat->HO},(∀r' o',(r',o')∈e->r'≠r)->Ip (AK h r o) e=AK (Ip h e) r o
 | [],_,_=>rfl
 |p::e,h,hr=>by
  show Ip (AK (AK h r o) p.1 p.2) e=AK (Ip (AK h p.1 p.2) e) r o;rw[iH h (hr p.1 p.2 (Ag ..)),Zn fun r' o' ho=>hr r' o' (Aj _ ho)]
theorem Ws:∀{e e' : List (Nat×HO)} {h:Nat->HO},(∀r o r' o',(r,o)∈e->(r',o')∈e'->r'≠r)->Ip (Ip h e) e'=Ip (Ip h e') e
 | [],_,_,_=>rfl
 |p::e,e',h,hd=>by
  show Ip (Ip (AK h p.1 p.2) e) e'=Ip (AK (Ip h e') p.1 p.2) e;rw[<-Zn fun r' o' ho=>hd p.1 p.2 r' o' (Ag ..) ho,Ws fun r o r' o' h1 h2=>hd r o r' o' (Aj _ h1) h2]
theorem bR{oi oj:Oper}{v v' : AV}{e e' : List (Nat×HO)}(h1:∀d,oi.dst=some d->oj.dst≠some d)(h2:∀r o r' o',(r,o)∈e->(r',o')∈e'->r'≠r) :
  (st.after oi v e).after oj v' e'=(st.after oj v' e').after oi v e:=by
 have hh:Ip (Ip st.h e) e'=Ip (Ip st.h e') e:=Ws h2;have key:∀o:Oper,∀v e,∀st:St,st.after o v e=⟨match o.dst with | none=>st.t | some d=>JY st.t d v,Ip st.h e⟩:=fun o v e st=>by
  grind [St.after,St.put]
 grind [j8]
theorem bP{i:Nat}{oi:Oper}{v:AV}{e:List (Nat×HO)}(hi:ops[i]?=some oi)(D:Nat->Prop)(hD:∀j,D j->∃oj,ops[j]?=some oj/\∃ed∈oj.after,Region.binds .any ed=true/\(ed.on=i\/D ed.on)) :
  ∀(fuel:Nat) (listed:Array Bool) (st:St),
   (∀j oj,ops[j]?=some oj->j≠i->listed.getD j true=false->¬D j->oi.apart ops oj=true/\TF (FT i) (FT j)=true) ->
   i∈Region.ready .any ops listed->(∀j,D j->listed.getD j true=false)->NY cx ops.toList oi st=some (FT i)->QA cx ops oi st (FT i) v e ->
   YN cx ops FT K fuel (listed.setIfInBounds i true) (st.after oi v e)->YN cx ops FT K (fuel+1) listed st:=by
 have here:∀(fuel:Nat) (listed:Array Bool) (st:St),NY cx ops.toList oi st=some (FT i)->QA cx ops oi st (FT i) v e ->
   YN cx ops FT K fuel (listed.setIfInBounds i true) (st.after oi v e)->wO cx ops FT i (YN cx ops FT K fuel (listed.setIfInBounds i true)) st:=by
  intro fuel listed st hf hy H;unfold wO;rw[hi];exact⟨hf,hy.2 st (fun _ _=>rfl) (fun _ _=>rfl) _ H⟩
 intro fuel
 induction fuel with
 |zero=>
  intro listed st _ hr _ hf hy H;refine⟨fun h=>(by simp_all),fun j hj=>?_⟩
  by_cases GC:j=i
  .simp_all
  .have:=ready_mono hj GC
   rw[H.1]at this;simp_all
 |succ fuel ih=>
  intro listed st Af hr hDl hf hy H;refine⟨fun h=>(by simp_all),fun j hj=>?_⟩
  by_cases GC:j=i
  .simp_all
  .have h1:=H.2 j (ready_mono hj GC);obtain⟨AcV,oj,uD,GB⟩:=mem_ready.1 hj;have Ahx:∀k,listed.getD k true=false->listed.getD k false=true->False:=fun k h0 h1=>by
    grind
   have hnD:¬D j:=fun hdj=>by
    grind [mem_ready]
   obtain⟨hap,hdj⟩:=Af j oj uD GC AcV hnD;obtain⟨a1,a2,a3⟩:=Oper.apart_spec hap;obtain⟨d1,d2⟩:=ib hdj;unfold wO at h1⊢;rw[uD]at h1⊢;obtain⟨hfj,hkj⟩:=h1;have hlj:=RX (ops:=ops) a1 st v e;obtain⟨vj,ej,hyj,hK⟩:=Pc hkj hfj;have he1:∀r o',(r,o')∈e->r∉(FT j).1:=fun r o' q=>d1 r (hy.1 r o' q).1;have oN:∀r o',(r,o')∈ej->r∉(FT i).1:=fun r o' q=>d2 r (hyj.1 r o' q).1;refine⟨by grind [TX],hyj.2 st hlj.symm (fun r X7=>?_) _ ?_⟩
   .rw[fc,QL (fun o' q=>he1 r o' q X7)]
   .have hli:=RX (ops:=ops) a3 st vj ej;refine ih (listed.setIfInBounds j true) (st.after oj vj ej) (fun k ok hk hki wD PK=>?_) (ready_mono hr (Ne.symm GC)) (fun k hk=>?_) (by grind [TX]) ⟨hy.1,fun st2 hl hh K' h'=>?_⟩ ?_
    .by_cases yD:j=k
     .simp_all
     .rw[getD_set_ne true yD]at wD;grind
    .by_cases yD:j=k
     all_goals simp_all
    .refine hy.2 st2 (fun d hd=>(hl d hd).trans (hli d hd)) (fun r X7=>?_) K' h';rw[hh r X7,fc,QL (fun o' q=>oN r o' q X7)]
    .rw[Array.setIfInBounds_comm _ _ (Ne.symm GC)]at hK;rw[<-bR a2 (fun r o r' o' q q' e2=>oN r' o' q' (by rw[e2];exact(hy.1 r o q).2))];exact hK
def tc(cx:Cx)(ops:Array Oper)(K:St->Prop):List Oper->List FF->St->Prop
 | [],[],st=>K st
 |o::r,f::fs,st=>NY cx ops.toList o st=some f/\∃v e,QA cx ops o st f v e/\tc cx ops K r fs (st.after o v e)
 |_,_,_=>False
theorem Tg{K:St->Prop}:∀(l:List Oper) (acc:List FF) (st:St),YT cx ops l acc st K->∃fs,TG ops (acc.reverse++fs)=true/\tc cx ops K l fs st
 | [],acc,st,h=>⟨[],by simpa using h.1,h.2⟩
 |o::r,acc,st,h=>by
  unfold YT at h;split at h
  .rename_i f hf;obtain⟨v,e,h1,h2⟩:=Pc h hf;obtain⟨fs,q1,q2⟩:=Tg r _ _ h2;exact⟨f::fs,by simp_all,hf,v,e,h1,q2⟩
  simp_all
theorem X2{o:Oper}{i:Nat}{D:List Nat}(h:PG o i D=true):∃ed∈o.after,Region.binds .any ed=true/\(ed.on=i\/ed.on∈D):=by
 grind [PG,Nat.eq_of_beq_eq_true,aE]
theorem Vl{i:Nat}{D:List Nat}:∀(l:List Oper) (k:Nat),Vk i D k l=true->∀j o,l[j]?=some o->k+j∈D->PG o i D=true
 | [],_,_,_,_,h,_=>by simp_all
 |o::l,k,hs,j,o',h,hm=>by
  simp only[Vk,Ak]at hs;cases j with
  |zero=>
   grind [aB]
  |succ j=>exact Vl l (k+1) hs.2 j o' (by simp_all) (by grind)
theorem V7{oi:Oper}{fi:FF}{D:List Nat}:∀(l:List Oper) (fs:List FF) (k:Nat),IH ops oi fi D k l fs=true->l.length=fs.length/\∀j o f,l[j]?=some o->fs[j]?=some f->k+j∉D->oi.apart ops o=true/\TF fi f=true
 | [],[],_,_=>⟨rfl,fun _ _ _ h=>by simp_all⟩
 | [],_::_,_,h=>by grind [IH]
 |_::_,[],_,h=>by grind [IH]
 |o::l,f::fs,k,h=>by
  simp only[IH,Ak,HU]at h;obtain⟨h1,h2⟩:=V7 l fs (k+1) h.2<;>grind [aE]
theorem YO{K:St->Prop}:∀(l:List Oper) (fs:List FF) (k:Nat) (listed:Array Bool) (st:St),(∀j,l[j]?=ops[k+j]?)->(∀j f,fs[j]?=some f->FT (k+j)=f)->listed.size=ops.size ->
  (∀j,j<ops.size->listed.getD j true=decide (j<k))->Mr ops ops.toList k l fs=true->tc cx ops K l fs st->YN cx ops FT K l.length listed st
 | [],[],k,listed,st,hl,_,hs,hL,_,h=>by
  refine⟨?_,h⟩;apply L7.2;intro j hj;obtain⟨h1,o,ho,_⟩:=mem_ready.1 hj;have ET:=(BZ.1 ho).1;rw[hL j ET]at h1;have yy:k<=j:=by simp_all
  have:=hl (j-k)
  simp_all
 | [],_::_,_,_,_,_,_,_,_,h,_=>by grind [Mr]
 |_::_,[],_,_,_,_,_,_,_,h,_=>by grind [Mr]
 |o::l,f::fs,k,listed,st,hl,hF,hs,hL,hg,h=>by
  simp only[Mr,Ak]at hg;obtain⟨⟨⟨⟨g1,g2⟩,g3⟩,g4⟩,g5⟩:=hg;obtain⟨hf,v,e,hy,hp⟩:=h;have h0:ops[k]?=some o:=by simpa using(hl 0).symm
  have hk:=(BZ.1 h0).1;have hFk:FT k=f:=by simpa using hF 0 f rfl
  have Sv : ∀j,l[j]?=ops[k+1+j]?:=fun j=>by have:=hl (j+1);grind
  have xR : ∀j f,fs[j]?=some f->FT (k+1+j)=f:=fun j f' hj=>by have:=hF (j+1) f' (by simp_all);grind
  obtain⟨CL,hap⟩:=V7 l fs (k+1) g4;have qb:∀j,j∈QK k [] 0 ops.toList->k<j/\j<ops.size:=fun j hj=>by
   simp_all
  refine bP h0 (fun j=>j∈QK k [] 0 ops.toList) (fun j hj=>?_) l.length listed st (fun j oj uD yD wD hnD=>?_) ?_ (fun j hj=>?_) (by simp_all) (by rw[hFk];exact hy) ?_
  .have ET:=(qb j hj).2
   have:=Vl ops.toList 0 g2 j ops[j] (by simp_all) (by simp_all)
   grind [X2]
  .have ET:=(BZ.1 uD).1;rw[hL j ET]at wD;have yy:k<j:=by grind
   have e1:l[j-(k+1)]?=some oj:=by grind
   grind
  .grind [mem_ready,Nat.blt_eq]
  .grind
  .refine YO l fs (k+1) _ _ Sv xR (by simp_all) (fun j hj=>?_) g5 hp
   by_cases yD:j=k
   .simp_all
   .rw[getD_set_ne true (Ne.symm yD),hL j hj]
    grind
theorem gA(h:YT cx ops ops.toList [] st K):Region.noSelect ops=true/\∃FT,YN cx ops FT K ops.size (Array.replicate ops.size false) st:=by
 obtain⟨fs,h1,h2⟩:=Tg _ _ _ h;simp only[TG,List.reverse_nil,GD,Ak]at h1;refine⟨h1.1,fun j=>fs.getD j default,?_⟩
 have:=YO (FT:=fun j=>fs.getD j default) ops.toList fs 0 (Array.replicate ops.size false) st aa0 (fun j f hj=>by simp_all) aa0 (fun j hj=>by simp_all) h1.2 h2
 omega
end
theorem Ya:∀{σ:Jj},Hc σ=true->∀i j,Cq σ i=some j↔Ik σ j=some i
 | [],_,i,j=>by simp[Cq,Ik]
 |(a,b)::r,h,i,j=>by
  simp only[Hc,Ak]at h;obtain⟨h1,h2⟩:=h;have ih:=Ya h2
  grind [Cq,Ik,Nat.beq_refl,DH]
theorem nv:∀{σ:Jj},Er σ=true->Hc σ=true
 | [],_=>rfl
 |(a,b)::r,h=>by
  simp only[Er,Ak]at h;simp only[Hc,Ak];exact⟨h.1.1.1,nv h.2⟩
theorem Yp(h:Er σ=true):∀i j,Cq σ i=some j↔Ik σ j=some i:=Ya (nv h)
theorem W3:∀{σ:Jj},Er σ=true->∀{i j},Cq σ i=some j->1000<=j/\j<2000
 | [],_,i,j,h=>by grind [Cq]
 |(a,b)::r,h,i,j,hf=>by
  simp only[Er,Ak,ER,Dt]at h;unfold Cq at hf
  by_cases e1:a=i
  .simp_all
  .simp only[DH e1,GX]at hf;exact W3 h.2 hf
theorem Qm(f:Nat->Option Nat)(h:Nat->HO):∀(σ:Jj) (j:Nat),Ai (Yo f h σ) Af j=match Ik σ j with | some i=>(h i).ren f h | none=>.free
 | [],j=>rfl
 |(a,b)::r,j=>by
  unfold Yo Ai Ik
  by_cases e:b=j
  .simp_all
  .simp only[DH e,DH (Ne.symm e),GX];exact Qm f h r j
structure F9(f:Nat->Option Nat)(h h2:Nat->HO)(g g2:Gh)(w:World):Prop where
 ids:∀r r',f r=some r'->AC h r->g2.tk r'=g.tk r/\g2.ln r'=g.ln r/\g2.ρ r'=g.ρ r/\g2.own r'=g.own r/\AC h2 r'
 S:∀b o,g2.S b o↔g.S b o
 objs:∀r,DV g w (AC h) r (h r)
section
variable {f:Nat->Option Nat}{h h2:Nat->HO}{g g2:Gh}{w:World}
theorem F9.keeps(hR:F9 f h h2 g g2 w):Fa g w g2 w:=fun b o hs=>⟨(hR.S b o).2 hs,rfl,fun _ _ e=>e⟩
theorem F9.noU(hR:F9 f h h2 g g2 w){av:AV}{x:Value}(r:Bc g w FN av x):Bc g2 w (AC h2) av x:=r.mono hR.keeps (fun _ h=>h.elim) (fun _ h=>h.elim)
theorem Bc.ren0(hR:F9 f h h2 g g2 w){av:AV}{x:Value}(r:Bc g w (AC h) av x):Bc g2 w (AC h2) (ren0 f h av) x:=by
 have down:Bc g2 w (AC h2) (Eng.str0 h av) x:=hR.noU (Bc.str0 hR.objs r);cases av with
 |v y=>exact down
 |slice tk es=>
  cases tk with
  |none=>exact down
  |full sz=>exact down
  |id i sz=>
   simp only[Eng.ren0];split
   .rename_i i' e;cases r<;>grind [tok,Bc.slice_none,F9.ids,F9.noU]
   .exact hR.noU r.slice_none
  |ver i sz v=>
   simp only[Eng.ren0];split
   .rename_i i' e;cases r<;>grind [ver,Bc.slice_none,F9.ids,F9.noU]
   .exact hR.noU r.slice_none
 |msl i n=>
  simp only[Eng.ren0];split
  .rename_i i' e;cases r<;>grind [msl,F9.ids]
  grind [junk]
 |agg cs=>exact down
 |tup cs=>exact down
 |cptr cs=>exact down
 |ref i off=>
  simp only[Eng.ren0];split
  .rename_i i' e;cases r<;>grind [ref,F9.ids]
  omega
 |eref i n sz k off=>
  simp only[Eng.ren0];split
  .rename_i i' e;cases r<;>grind [eref,F9.ids]
  grind [junk]
 |mref i=>
  simp only[Eng.ren0];split
  .rename_i i' e;cases r<;>grind [mref,F9.ids]
  omega
 |cmap sh BY=>exact down
 |clo i cs=>exact down
 |junk=>exact down
theorem Bc.ren1(hR:F9 f h h2 g g2 w){av:AV}{x:Value}(r:Bc g w (AC h) av x):Bc g2 w (AC h2) (ren1 f h av) x:=by
 cases av with
 |agg cs=>
  cases r with
  |agg _ _ vs hs h1 hr=>
   exact .agg _ _ vs (by simp_all) h1 fun i av x q1 q2=>by
    grind [ren0]
 |clo i cs=>
  cases r with
  |clo _ _ _ vs hs hr=>
   exact .clo _ _ _ vs (by simp_all) fun i av x q1 q2=>by
    grind [ren0]
 |_=>exact r.ren0 hR
theorem Bc.ren(hR:F9 f h h2 g g2 w){av:AV}{x:Value}(r:Bc g w (AC h) av x):Bc g2 w (AC h2) (ren f h av) x:=by
 cases av with
 |tup cs=>
  cases r with
  |tup _ _ vs hs hr=>
   exact .tup _ _ vs (by simp_all) fun i av x q1 q2=>by
    grind [ren1]
 |_=>exact r.ren1 hR
theorem MU(f:Nat->Option Nat)(h:Nat->HO)(o:HO):(o.ren f h).live↔o.live:=by cases o<;>exact Iff.rfl
theorem MV(f:Nat->Option Nat)(h:Nat->HO)(o:HO):o.ren f h≠.free↔o≠.free:=by cases o<;>simp[HO.ren]
theorem DV.ren(hR:F9 f h h2 g g2 w){i j:Nat}(bD:f i=some j)(hu:AC h i){o:HO}(r:DV g w (AC h) i o):DV g2 w (AC h2) j (o.ren f h):=by
 obtain⟨k1,k2,k3,k4,k5⟩:=hR.ids i j bD hu;have noL:∀{cs:List AV} {vs:List Value},Cg g w FN cs vs->Cg g2 w FN cs vs:=fun hr=>hr.mono hR.keeps (fun _ h=>h) (fun _ h=>h.elim);have no1:∀{av:AV} {x:Value},Bc g w FN av x->Bc g2 w FN av x:=fun hr=>hr.mono hR.keeps (fun _ h=>h) (fun _ h=>h.elim);cases o with
 |free=>trivial
 |dead=>trivial
 |cells cs=>
  obtain⟨t,b,E,vs,a1,a2,a3,a4,a5⟩:=r;refine⟨k1.trans t,b,E,vs,k4.trans a1,k3.trans a2,a3,⟨by simp[a4.1],a4.2.1,fun i av x q1 q2=>?_⟩,fun o ho=>a5 o ((hR.S b o).1 ho)⟩;rw[BK]at q1;obtain⟨a,q3,rfl⟩:=B3.1 q1;exact(a4.2.2 i a x q3 q2).ren1 hR
 |ro cs=>
  obtain⟨t,b,a1,a2⟩:=r;exact⟨k1.trans t,b,k3.trans a1,no1 a2⟩
 |tok sz n=>
  obtain⟨t,l,a,cap,a1,a2⟩:=r;refine⟨k1.trans t,k2.trans l,a,cap,k3.trans a1,?_⟩
  grind [F9.S]
 |var sz v n=>
  obtain⟨t,l,a,cap,a1,a2⟩:=r;refine⟨k1.trans t,k2.trans l,a,cap,k3.trans a1,?_⟩
  grind [F9.S]
 |vox v=>exact⟨k1.trans r.1,k2.trans r.2⟩
 |hol sz es i c av=>
  obtain⟨t,l,al,b,cap,E,vs,b1,b2,b3,b4,b5,b6,b7,b8,x,b9,Wc⟩:=r;exact⟨k1.trans t,k2.trans l,al,b,cap,E,vs,k3.trans b1,k4.trans b2,b3,b4,b5,noL b6,fun o ho=>b7 o ((hR.S b o).1 ho),b8,x,b9,Wc.ren1 hR⟩
 |bld x=>
  obtain⟨t,b,p,v,a1,a2,a3,a4,a5,a6⟩:=r;exact⟨k1.trans t,b,p,v,k4.trans a1,k3.trans a2,a3,a4,a5.ren1 hR,fun o ho=>a6 o ((hR.S b o).1 ho)⟩
 |bbf n=>
  obtain⟨t,l,a1⟩:=r;refine⟨k1.trans t,k2.trans l,?_⟩
  grind [F9.S]
 |raw b ob=>
  obtain⟨t,a1,a2,a3,a4⟩:=r;exact⟨k1.trans t,k4.trans a1,a2,a3,fun o ho=>a4 o ((hR.S b o).1 ho)⟩
 |arr sz es=>
  obtain⟨t,l,al,a2⟩:=r;refine⟨k1.trans t,k2.trans l,al,?_⟩;rcases a2 with ⟨b1,b2,b3⟩ | ⟨b,cap,E,vs,b1,b2,b3,b4,b5,b6,b7⟩
  .simp_all
  .exact .inr ⟨b,cap,E,vs,k3.trans b1,k4.trans b2,b3,b4,b5,noL b6,fun o ho=>b7 o ((hR.S b o).1 ho)⟩
 |map sh BY=>
  obtain⟨t,b,es,ck,a1,a2,a3,a4,a5,a6⟩:=r;exact⟨k1.trans t,b,es,ck,k4.trans a1,k3.trans a2,a3,a4,fun i kv e q1 q2=>no1 (a5 i kv e q1 q2),fun o ho=>a6 o ((hR.S b o).1 ho)⟩
 |mapU sh BY=>
  obtain⟨t,b,es,ck,a1,a2,a3,a4,a5,a6⟩:=r;refine⟨k1.trans t,b,es,ck,k4.trans a1,k3.trans a2,a3,WP _ a4,fun i kv e q1 q2=>?_,fun o ho=>a6 o ((hR.S b o).1 ho)⟩
  grind [Bc.ren1]
 |rom sh BY=>
  obtain⟨t,b,a1,a2⟩:=r;exact⟨k1.trans t,b,k3.trans a1,no1 a2⟩
 |iter all rem Ef=>
  obtain⟨t,b,mb,Kl,seen,st,es,ck,a1,a2,a3,a4,a5,a6,a7,a8,a9,YM,dU,a12,te⟩:=r;exact⟨k1.trans t,b,mb,Kl,seen,st,es,ck,k4.trans a1,k3.trans a2,a3,(hR.S _ _).2 a4,a5,a6,a7,a8,fun i kv e q1 q2=>no1 (a9 i kv e q1 q2),YM,dU,a12,fun o ho=>te o ((hR.S b o).1 ho)⟩
end
end Go.Eng
