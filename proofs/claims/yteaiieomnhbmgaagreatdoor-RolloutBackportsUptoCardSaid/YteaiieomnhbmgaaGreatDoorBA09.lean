/- Lemmas 9. -/
import Derived.Test.YteaiieomnhbmgaaGreatDoorBA08
namespace Go.Eng
variable {x:Operand}{l:List Nat}{o:Oper}{K:St->Prop}{st:St}{d:Nat}{p:Operand}{n:Nat}{cx:Cx}{st2:St}{d':Nat}{f:Ft}{σ:Jk}(ops:Array Oper)(T:GF)
section
variable {cx:Cx}{dst:Option Nat}{ty:Nat}{pos:String}{after:Array Edge}{gd:Option (Nat×Bool)}{st:St}{R:List Nat}{w:Option Nat}{K:HK}
theorem IN{d:Option Nat}{l:List Nat}(h:IM d l=some f):∃d',d=some d'/\f=(d' :: l,some d'):=by
 unfold IM at h
 grind
theorem aG{e:Nat}(hk:FS cx true ⟨dst,.alloc e,ty,pos,after,gd⟩ st K)(hf:E9 cx ⟨dst,.alloc e,ty,pos,after,gd⟩ st=some (R,w)):Df cx ⟨dst,.alloc e,ty,pos,after,gd⟩ st R w K:=by
 simp only[FS]at hk;have hb:Nat.beq e ZY=false:=by
  grind [E9]
 simp only[E9,hb]at hf;obtain⟨d,rfl,e0⟩:=IN hf;cases e0;unfold TE at hk;simp only[hb]at hk;split at hk
 .rename_i hd;split at hk
  .simp_all
  .rename_i Ek;split at hk
   .rename_i ha;refine⟨_,some (d,_),hk,fun r o' e=>(by simp_all),fun st2 Hb K' h'=>?_⟩;simp only[FS,TE];rw[Hb.h d (Af ..),hd];simp only[ha,hb];exact h'
   simp_all
 simp_all
theorem jC{e:Nat}(hk:FS cx true ⟨dst,.box e x,ty,pos,after,gd⟩ st K)(hf:E9 cx ⟨dst,.box e x,ty,pos,after,gd⟩ st=some (R,w)):Df cx ⟨dst,.box e x,ty,pos,after,gd⟩ st R w K:=by
 simp only[FS]at hk;obtain⟨d,rfl,e0⟩:=IN hf;cases e0;unfold je at hk;simp only at hk;split at hk
 .rename_i hd;split at hk
  .simp_all
  .rename_i Ek;obtain⟨cs,c1,c2,c3⟩:=Oh hk;split at c1
   .rename_i hm;refine⟨_,some (d,_),c1,fun r o' e=>(by simp_all),fun st2 Hb K' h'=>?_⟩;have hx:ev st2.t x=ev st.t x:=Hb.t x (by simp[Op.operands]);simp only[FS,je];rw[Hb.h d (Af ..),hd,hx];simp only[hm];refine c2 _ ?_;rw[c3 st.h st2.h (fun r hr=>Hb.h r (Ao _ hr))];exact h'
   .rename_i hm;refine⟨_,some (d,_),c1,fun r o' e=>(by simp_all),fun st2 Hb K' h'=>?_⟩;have hx:ev st2.t x=ev st.t x:=Hb.t x (by simp[Op.operands]);simp only[FS,je];rw[Hb.h d (Af ..),hd,hx];simp only[hm];exact c2 _ h'
 simp_all
theorem QP{t n:Nat}{ps:Array (Nat×Operand)}(hk:FS cx true ⟨dst,.buildSlice t n ps,ty,pos,after,gd⟩ st K)(hf:E9 cx ⟨dst,.buildSlice t n ps,ty,pos,after,gd⟩ st=some (R,w)) :
  Df cx ⟨dst,.buildSlice t n ps,ty,pos,after,gd⟩ st R w K:=by
 simp only[FS]at hk;obtain⟨d,jI,e0⟩:=IN hf;cases e0;unfold IJ at hk;split at hk
 .rename_i e he;split at hk
  .rename_i h1 h2;split at hk
   .simp_all
   .rename_i k Fg;split at hk
    .rename_i hb;obtain⟨es,q1,q2⟩:=Ue hk;obtain⟨d',hd,v,x,q3,q4⟩:=IA q1;have hd:dst.map (KL cx)=some d':=hd;have jI:dst.map (KL cx)=some d:=jI;rw[jI]at hd;cases hd;refine⟨v,some (d,x),q3,fun r o' e=>(by simp_all),fun st2 Hb K' h'=>?_⟩;have hx:∀p∈ps.toList,ev st2.t p.2=ev st.t p.2:=fun p hp=>Hb.t p.2 (by
      grind [Op.operands])
     simp only[FS,IJ,he,h1,h2];split
     .omega
     .rw[hb];exact q2 st2.t st2.h (fun r hr=>Hb.h r (Ao _ hr)) hx _ (q4 st2.h (Hb.h d (Af ..)) K' h')
    simp_all
  simp_all
 simp_all
theorem SG{t:Nat}{n c:Operand}(hk:FS cx true ⟨dst,.makeSlice t n c,ty,pos,after,gd⟩ st K)(hf:E9 cx ⟨dst,.makeSlice t n c,ty,pos,after,gd⟩ st=some (R,w)) :
  Df cx ⟨dst,.makeSlice t n c,ty,pos,after,gd⟩ st R w K:=by
 simp only[FS]at hk;obtain⟨d,jI,e0⟩:=IN hf;cases e0;have hn:∀st2,Alike ⟨dst,.makeSlice t n c,ty,pos,after,gd⟩ (d::[]) st st2->ev st2.t n=ev st.t n/\ev st2.t c=ev st.t c:=fun st2 ha=>⟨ha.t n (by simp[Op.operands]),ha.t c (by simp[Op.operands])⟩;unfold JU at hk;split at hk
 .rename_i e a b h1 h2 h3;split at hk
  .rename_i h4;split at hk
   .rename_i h5;split at hk
    .simp_all
    .rename_i k Fg;obtain⟨d',hd,v,x,q3,q4⟩:=IA hk.2;have hd:dst.map (KL cx)=some d':=hd;have jI:dst.map (KL cx)=some d:=jI;rw[jI]at hd;cases hd;refine⟨v,some (d,x),q3,fun r o' e=>(by simp_all),fun st2 Hb K' h'=>?_⟩;simp only[FS,JU,(hn st2 Hb).1,(hn st2 Hb).2,h1,h2,h3,h4,h5];split
     .omega
     .exact⟨hk.1,q4 st2.h (Hb.h d (Af ..)) K' h'⟩
   simp_all
  simp_all
 simp_all
theorem Wb{t:Nat}{r:Option Operand}(hk:FS cx true ⟨dst,.makeMap t r,ty,pos,after,gd⟩ st K)(hf:E9 cx ⟨dst,.makeMap t r,ty,pos,after,gd⟩ st=some (R,w)) :
  Df cx ⟨dst,.makeMap t r,ty,pos,after,gd⟩ st R w K:=by
 cases r with
 |some r=>exact hk.elim
 |none=>
  simp only[FS]at hk;obtain⟨d,rfl,e0⟩:=IN hf;cases e0;unfold Ld at hk;simp only at hk;split at hk
  .rename_i hd;split at hk
   .rename_i h1;split at hk
    .rename_i h2;split at hk
     .rename_i h3;refine⟨_,some (d,_),hk,fun r o' e=>(by simp_all),fun st2 Hb K' h'=>?_⟩;simp only[FS,Ld];rw[Hb.h d (Af ..),hd];simp only[h1,h2,h3];exact h'
     .rename_i h3;refine⟨_,some (d,_),hk,fun r o' e=>(by simp_all),fun st2 Hb K' h'=>?_⟩;simp only[FS,Ld];rw[Hb.h d (Af ..),hd];simp only[h1,h2,h3];exact h'
    simp_all
   simp_all
  simp_all
theorem aH{t:Nat}(hk:FS cx true ⟨dst,.store t p x,ty,pos,after,gd⟩ st K)(hf:E9 cx ⟨dst,.store t p x,ty,pos,after,gd⟩ st=some (R,w)) :
  Df cx ⟨dst,.store t p x,ty,pos,after,gd⟩ st R w K:=by
 simp only[FS]at hk;have hn:∀st2,Alike ⟨dst,.store t p x,ty,pos,after,gd⟩ R st st2->ev st2.t p=ev st.t p/\ev st2.t x=ev st.t x:=fun st2 ha=>⟨ha.t p (by simp[Op.operands]),ha.t x (by simp[Op.operands])⟩;unfold OT at hk;split at hk
 .simp_all
 .rename_i Ek;obtain⟨cs,c1,c2,c3⟩:=Oh hk;simp only[E9]at hf;split at hf
  .rename_i r off hp;split at hf
   .cases hf
   .rename_i hm;cases hf;rw[hp]at c1;simp only at c1;split at c1
    .rename_i Ei hr;obtain⟨Jr,hk'⟩:=c1;rw[hm]at hk';refine⟨_,some (r,_),hk',fun r o' e=>(by simp_all),fun st2 Hb K' h'=>?_⟩;simp only[FS,OT,(hn st2 Hb).1,(hn st2 Hb).2];refine c2 _ ?_;rw[hp];simp only[Hb.h r (Af ..),hr,hm];exact⟨Jr,h'⟩
    simp_all
  .rename_i r n sz i off hp;cases hf;rw[hp]at c1;simp only at c1;split at c1
   .rename_i HE es hr;split at c1
    .rename_i hs;obtain⟨Jr,cell,e1,e2,hk'⟩:=c1;split at hk'
     .rename_i j m;refine⟨_,some (r,_),hk',fun r o' e=>(by simp_all),fun st2 Hb K' h'=>?_⟩;simp only[FS,OT,(hn st2 Hb).1,(hn st2 Hb).2];refine c2 _ ?_;rw[hp];simp only[Hb.h r (Af ..),hr,hs];exact⟨Jr,cell,e1,e2,h'⟩
     .rename_i OX;refine⟨_,some (r,_),hk',fun r o' e=>(by simp_all),fun st2 Hb K' h'=>?_⟩;simp only[FS,OT,(hn st2 Hb).1,(hn st2 Hb).2];refine c2 _ ?_;rw[hp];simp only[Hb.h r (Af ..),hr,hs];refine⟨Jr,cell,e1,e2,?_⟩;rw[c3 st.h st2.h (fun r hr=>Hb.h r (Ao _ hr))];exact h'
    simp_all
   simp_all
  simp_all
theorem SH{t:Nat}{m k:Operand}(hk:FS cx true ⟨dst,.mapUpdate t m k x,ty,pos,after,gd⟩ st K)(hf:E9 cx ⟨dst,.mapUpdate t m k x,ty,pos,after,gd⟩ st=some (R,w)) :
  Df cx ⟨dst,.mapUpdate t m k x,ty,pos,after,gd⟩ st R w K:=by
 simp only[FS]at hk;have hn:∀st2,Alike ⟨dst,.mapUpdate t m k x,ty,pos,after,gd⟩ R st st2->ev st2.t m=ev st.t m/\ev st2.t k=ev st.t k/\ev st2.t x=ev st.t x:=fun st2 ha=>⟨ha.t m (by simp[Op.operands]),ha.t k (by simp[Op.operands]),ha.t x (by simp[Op.operands])⟩;simp only[E9]at hf;split at hf
 .rename_i r hm;cases hf;unfold Hj at hk;rw[hm]at hk;simp only at hk;split at hk
  .rename_i sh B1 hr;unfold KN at hk;split at hk
   .rename_i kt e h1;split at hk
    .rename_i sh' h2;split at hk
     .rename_i h3;split at hk
      .rename_i kx h4;split at hk
       .rename_i h5;refine⟨_,some (r,_),hk,fun r o' e=>(by simp_all),fun st2 Hb K' h'=>?_⟩;obtain⟨n1,n2,n3⟩:=hn st2 Hb;simp only[FS,Hj,n1,n2,n3,hm,Hb.h r (Af ..),hr,KN,h1,h2,h3,h4,h5];rw[Lr (h:=st.h) (h2:=st2.h) (fun r hr=>Hb.h r (Ao _ hr))];exact h'
       simp_all
      simp_all
     simp_all
    simp_all
   simp_all
  .rename_i sh B1 hr;unfold KN at hk;split at hk
   .rename_i kt e h1;split at hk
    .rename_i sh' h2;split at hk
     .rename_i h3;split at hk
      .rename_i kx h4;split at hk
       .rename_i h5;refine⟨_,some (r,_),hk,fun r o' e=>(by simp_all),fun st2 Hb K' h'=>?_⟩;obtain⟨n1,n2,n3⟩:=hn st2 Hb;simp only[FS,Hj,n1,n2,n3,hm,Hb.h r (Af ..),hr,KN,h1,h2,h3,h4,h5];exact h'
       simp_all
      simp_all
     simp_all
    simp_all
   simp_all
  simp_all
 simp_all
theorem hJ{A B:(AV->Prop)->Prop}(ha:Ga A)(hb:Ga B):Ga fun K=>A K\/B K:=by
 intro K hk;rcases hk with hk | hk
 .obtain⟨v,h1,h2⟩:=ha K hk<;>grind
 .obtain⟨v,h1,h2⟩:=hb K hk<;>grind
theorem Un{fn:Fn}{first cap:Array Operand}(hk:FS cx true ⟨dst,.makeFunc fn first cap,ty,pos,after,gd⟩ st K)(hf:E9 cx ⟨dst,.makeFunc fn first cap,ty,pos,after,gd⟩ st=some (R,w)) :
  Df cx ⟨dst,.makeFunc fn first cap,ty,pos,after,gd⟩ st R w K:=by
 simp only[FS]at hk;simp only[E9]at hf;cases hf;unfold Lc at hk;split at hk
 .rename_i f h1;refine⟨_,none,hk,fun r o' e=>(by cases e),fun st2 Hb K' h'=>?_⟩;simp only[FS,h1,Lc]
  have:cap.toList.map (fun x=>rsv st2.h (ev st2.t x))=cap.toList.map (fun x=>rsv st.h (ev st.t x)):=BZ fun x hx=>by
   rw[Hb.t x (by grind [Op.operands])];exact pz fun r hr=>Hb.h r (bx (Ax.2 ⟨x,hx,rfl⟩) r hr)
  rw[this];exact h'
 simp_all
end
section
variable {cx:Cx}{dst:Option Nat}{ty:Nat}{pos:String}{after:Array Edge}{gd:Option (Nat×Bool)}{st:St}{R:List Nat}{w:Option Nat}{K:HK}
theorem dI{t:Nat}(hk:FS cx true ⟨dst,.load t p,ty,pos,after,gd⟩ st K)(hf:E9 cx ⟨dst,.load t p,ty,pos,after,gd⟩ st=some (R,w)):Df cx ⟨dst,.load t p,ty,pos,after,gd⟩ st R w K:=by
 simp only[FS]at hk;have hn:∀st2,Alike ⟨dst,.load t p,ty,pos,after,gd⟩ R st st2->ev st2.t p=ev st.t p:=fun st2 ha=>ha.t p (by simp[Op.operands]);simp only[E9]at hf;unfold JT at hk;split at hf
 .grind [Lo,FS,JT,Df.pick]
 .grind [Lo,FS,JT,List.mem_cons_self,Df.pick,Alike.h]
 .rename_i r n sz i off hp;cases hf;rw[hp]at hk;simp only at hk;split at hk
  all_goals grind [Lo,FS,JT,Df.pick,Alike.h]
 simp_all
theorem YG(hk:FS cx true ⟨dst,.assign x,ty,pos,after,gd⟩ st K)(hf:E9 cx ⟨dst,.assign x,ty,pos,after,gd⟩ st=some (R,w)):Df cx ⟨dst,.assign x,ty,pos,after,gd⟩ st R w K:=by
 simp only[FS]at hk;have hn:∀st2,Alike ⟨dst,.assign x,ty,pos,after,gd⟩ R st st2->ev st2.t x=ev st.t x:=fun st2 ha=>ha.t x (by simp[Op.operands]);simp only[E9]at hf;split at hf
 .cases hf
 .rename_i hx;cases hf;have same:∃y,∀(h:Nat->HO) (K:HK),Pg cx dst h (ev st.t x) K↔K y h:=by
   unfold Pg;cases dst with
   |none=>exact⟨_,fun _ _=>Iff.rfl⟩
   |some d=>
    simp only;cases GT cx.pl.tok d with
    |some sz=>
     simp only;cases Nat.beq sz 0 with
     |true=>exact⟨_,fun _ _=>Iff.rfl⟩
     |false=>
      refine⟨ev st.t x,fun h K=>?_⟩;simp_all
    |none=>
     simp only;cases GT cx.pl.arr d with
     |some sz=>
      refine⟨ev st.t x,fun h K=>?_⟩;simp_all
     |none=>exact⟨_,fun _ _=>Iff.rfl⟩
  obtain⟨y,same⟩:=same;exact .pick (CW y) ((same _ _).1 hk) fun st2 ha K' h=>by grind [FS]
theorem RZ{t:Nat}{lo hi mx:Option Operand}(hp:TH cx.pl.tok dst=none)(hk:FS cx true ⟨dst,.slice t x lo hi mx,ty,pos,after,gd⟩ st K)(hf:E9 cx ⟨dst,.slice t x lo hi mx,ty,pos,after,gd⟩ st=some (R,w)) :
  Df cx ⟨dst,.slice t x lo hi mx,ty,pos,after,gd⟩ st R w K:=by
 simp only[FS,hp]at hk;have hn:∀st2,Alike ⟨dst,.slice t x lo hi mx,ty,pos,after,gd⟩ R st st2->ev st2.t x=ev st.t x/\CU st2.t lo=CU st.t lo/\CU st2.t hi=CU st.t hi/\CU st2.t mx=CU st.t mx:=by
  grind [Option,CU,Op.operands,Alike.t]
 simp only[E9,hp]at hf;split at hf
 .cases hf
 .rename_i hx;cases hf;have e3:CU st.t none=some none:=rfl
  have Qx:Ga (fun K1=>Iu cx dst st.h t (ev st.t x) (CU st.t lo) (CU st.t hi) (some none) fun v _=>K1 v) /\
    ∀(h:Nat->HO) (K:HK),Iu cx dst h t (ev st.t x) (CU st.t lo) (CU st.t hi) (some none) K↔Iu cx dst st.h t (ev st.t x) (CU st.t lo) (CU st.t hi) (some none) (fun v _=>K v h):=by
   generalize ev st.t x=X at hx;unfold Iu;constructor
   .repeat' split
    all_goals first | exact Ct | exact DO (CW _) | exact DO (DO (CW _)) | skip
    all_goals first | (rename_i e;cases e;done) | skip
    all_goals (exfalso;exact hx _ _ rfl)
   .intro h K
    repeat' split
    all_goals simp_all
    all_goals simp_all
  grind [FS,Df.pick]
 .rename_i y tk es hx;obtain⟨d,rfl,e0⟩:=IN hf;cases e0;rw[hx]at hk;unfold Iu at hk;split at hk
  .rename_i Ie OW u6 e1 e2 e3;split at hk
   .simp_all
   .rename_i e he;split at hk
    .simp_all
    .rename_i k Fg;simp only at hk;split at hk
     .grind [CU]
     .rename_i m;split at hk
      .rename some d=some _=>e5
       cases e5
       split at hk
       .rename_i wE;refine⟨_,none,hk.2.2,fun r o' e=>(by cases e),fun st2 Hb K' h'=>?_⟩;obtain⟨n1,n2,n3,n4⟩:=hn st2 Hb;simp only[FS,hp];rw[n1,n2,n3,n4,hx,e1,e2,e3];unfold Iu;simp only[he];split
        .omega
        .simp only[wE];exact⟨hk.1,hk.2.1,h'⟩
       rename_i wE;split at hk
       .rename_i hd;refine⟨_,some (d,_),hk.2.2,fun r o' e=>(by simp_all),fun st2 Hb K' h'=>?_⟩;obtain⟨n1,n2,n3,n4⟩:=hn st2 Hb;simp only[FS,hp];rw[n1,n2,n3,n4,hx,e1,e2,e3];unfold Iu;simp only[he];split
        .omega
        .simp only[wE];rw[Hb.h d (Af ..),hd];exact⟨hk.1,hk.2.1,h'⟩
       simp_all
      simp_all
   simp_all
  simp_all
 simp_all
theorem jE{t:Nat}{lo hi mx:Option Operand}{p:Nat}(hp:TH cx.pl.tok dst=some p)(hk:FS cx true ⟨dst,.slice t x lo hi mx,ty,pos,after,gd⟩ st K)(hf:E9 cx ⟨dst,.slice t x lo hi mx,ty,pos,after,gd⟩ st=some (R,w)) :
  SZ cx ⟨dst,.slice t x lo hi mx,ty,pos,after,gd⟩ st R w K:=by
 simp only[FS,hp]at hk;simp only[E9,hp]at hf;obtain⟨d',r,n,hd,hx,e0⟩:=dG hf;cases e0;cases dst with
 |none=>cases hd
 |some d=>
 cases hd
 unfold Vi at hk;split at hk
 .rw[hx]at hk;unfold pe at hk;split at hk
  .rename_i d0 OW e1 e2;cases e1;split at hk
   .rename_i e he;split at hk
    .simp_all
    .rename_i k Fg;simp only at hk;split at hk
     .rename_i sz es hr;split at hk
      .rename_i hd;split at hk
       .rename_i q1 q3;obtain⟨h1,hk⟩:=hk;have hr8:r<10000000/\0<KL cx d:=by simp_all
        obtain⟨hr7,hz⟩:=hr8;refine⟨_,[(r,.dead),(KL cx d,_)],hk,fun r' o' e=>?_,fun st2 ha K' h'=>?_⟩
        .rcases AU.1 e with e | e
         .cases e
          refine⟨.inr (.inl ⟨by omega,.inl ?_⟩),Af ..⟩;omega
         .obtain e:=AK.1 e;cases e;refine⟨.inr (.inl ⟨by omega,.inr ?_⟩),Ao _ (Af ..)⟩;omega
        .have o1:CU st2.t hi=CU st.t hi:=by
          cases hi<;>grind [CU,Op.operands,Alike.t]
         simp only[FS,hp];unfold Vi;rw[ha.t x (by simp[Op.operands]),o1,hx,e2];unfold pe;simp only[he];split
         .omega
         .simp only[ha.h r (Af ..),hr,ha.h (KL cx d) (Ao _ (Af ..)),hd,q1,q3];exact⟨h1,h'⟩
       simp_all
      simp_all
     simp_all
   simp_all
  simp_all
 simp_all
theorem YF{s:Operand}{G7:Array TypeId}(hk:FS cx true ⟨dst,.call ⟨.builtin .append,#[s,x],G7⟩,ty,pos,after,gd⟩ st K)(hf:E9 cx ⟨dst,.call ⟨.builtin .append,#[s,x],G7⟩,ty,pos,after,gd⟩ st=some (R,w)) :
  Df cx ⟨dst,.call ⟨.builtin .append,#[s,x],G7⟩,ty,pos,after,gd⟩ st R w K:=by
 have hk:FY cx dst st.h .append G7.toList [ev st.t s,ev st.t x] K:=hk;have hf:YE cx dst (ev st.t s) (ev st.t x)=some (R,w):=hf;have hn:∀st2,Alike ⟨dst,.call ⟨.builtin .append,#[s,x],G7⟩,ty,pos,after,gd⟩ R st st2->ev st2.t s=ev st.t s/\ev st2.t x=ev st.t x:=fun st2 ha=>
  ⟨ha.t s (by simp[Op.operands,Call.operands]),ha.t x (by simp[Op.operands,Call.operands])⟩
 have JO:∀st2,Alike ⟨dst,.call ⟨.builtin .append,#[s,x],G7⟩,ty,pos,after,gd⟩ R st st2->∀K' : HK,FY cx dst st2.h .append G7.toList [ev st.t s,ev st.t x] K'->FS cx true ⟨dst,.call ⟨.builtin .append,#[s,x],G7⟩,ty,pos,after,gd⟩ st2 K':=by
  intro st2 ha K' h;rw[<-(hn st2 ha).1,<-(hn st2 ha).2]at h;exact h
 generalize G7.toList=l at hk JO
 match l,hk,JO with
 | [t,t'],hk,JO=>
  simp only[FY]at hk JO;split at hk
  .rename_i ht;simp only[ht]at JO;unfold Ix at hk JO;split at hk
   .rename_i e he;simp only[he]at JO;split at hk
    .simp_all
    .rename_i hz;simp only[hz]at JO;split at hk
     .simp_all
     .rename_i k Fg;obtain⟨es2,q1,q2⟩:=dA hk;have y0:∀d,R=d::kc (ev st.t x)->∀st2,Alike ⟨dst,.call ⟨.builtin .append,#[s,x],G7⟩,ty,pos,after,gd⟩ R st st2->∀r n,ev st.t x=.msl r n->st2.h r=st.h r:=fun d hR st2 ha r n e=>ha.h r (by rw[hR,e];simp[kc]);unfold YE at hf;split at hf
      .rename_i hs;obtain⟨d,jI,e0⟩:=IN hf;cases e0;rw[hs]at q1 JO;simp only at q1 JO;obtain⟨d',hd,v,y,q3,q4⟩:=IA q1.2;rw[jI]at hd;cases hd;refine⟨v,some (d,y),q3,fun r o' e=>(by simp_all),fun st2 Hb K' h'=>JO st2 Hb K' ?_⟩;split
       .omega
       .exact q2 st2.h (y0 d rfl st2 Hb) _ ⟨q1.1,q4 st2.h (Hb.h d (Af ..)) K' h'⟩
      .rename_i HE es hs;obtain⟨d,jI,e0⟩:=IN hf;cases e0;rw[hs]at q1 JO;simp only at q1 JO;split at q1
       .rename_i h1;obtain⟨d',hd,v,y,q3,q4⟩:=IA q1.2;rw[jI]at hd;cases hd;refine⟨v,some (d,y),q3,fun r o' e=>(by simp_all),fun st2 Hb K' h'=>JO st2 Hb K' ?_⟩;split
        .omega
        .refine q2 st2.h (y0 d rfl st2 Hb) _ ?_;simp only[h1];exact⟨q1.1,q4 st2.h (Hb.h d (Af ..)) K' h'⟩
       simp_all
      .rename_i r HE es hs;cases hf;rw[hs]at q1 JO;simp only at q1 JO;split at q1
       .rename_i sz n hr;split at q1
        .rename_i h1 h2;refine⟨_,some (r,_),q1.2,fun r o' e=>(by simp_all),fun st2 Hb K' h'=>JO st2 Hb K' ?_⟩;split
         .omega
         .refine q2 st2.h (y0 r rfl st2 Hb) _ ?_;simp only[Hb.h r (Af ..),hr,h1,h2];exact⟨q1.1,h'⟩
        simp_all
       simp_all
      .rename_i r n hs;cases hf;rw[hs]at q1 JO;simp only at q1 JO;split at q1
       .rename_i sz es hr;split at q1
        .rename_i h1;refine⟨_,some (r,_),q1.2,fun r o' e=>(by simp_all),fun st2 Hb K' h'=>JO st2 Hb K' ?_⟩;split
         .omega
         .refine q2 st2.h (y0 r rfl st2 Hb) _ ?_;simp only[Hb.h r (Af ..),hr,h1];exact⟨q1.1,h'⟩
        simp_all
       simp_all
      simp_all
   simp_all
  simp_all
 | [],hk,_=>exact hk.elim
 | [_],hk,_=>exact hk.elim
 |_::_::_::_,hk,_=>exact hk.elim
theorem Ri(t:Nat):Ga (KQ T t):=by
 unfold KQ
 repeat' split
 all_goals first | exact Ct | exact CW _
theorem Vf(ty:Nat)(ok:Bool)(B1:List (Value×AV))(kx:Value):Ga (MN T ty ok B1 kx):=by
 unfold MN
 repeat' split
 .refine hJ (Qd fun a=>DO (CW _)) (DO ?_);intro K hk;obtain⟨v,h1,h2⟩:=Ri T _ _ hk<;>grind [Ri]
 .exact hJ (Qd fun a=>DO (CW _)) (DO (Ri T _))
 .exact Ct
theorem ca(ty:Nat)(sh:EU)(k:AV){F:Value->(AV->Prop)->Prop}(h:∀x,Ga (F x)):Ga fun K=>KN T ty sh k fun kx=>F kx K:=by
 unfold KN
 repeat' split
 all_goals grind [Ct]
theorem YH{t:Nat}{m k:Operand}{ok:Bool}(hk:FS cx true ⟨dst,.lookup t m k ok,ty,pos,after,gd⟩ st K)(hf:E9 cx ⟨dst,.lookup t m k ok,ty,pos,after,gd⟩ st=some (R,w)) :
  Df cx ⟨dst,.lookup t m k ok,ty,pos,after,gd⟩ st R w K:=by
 simp only[FS]at hk;have hn:∀st2,Alike ⟨dst,.lookup t m k ok,ty,pos,after,gd⟩ R st st2->ev st2.t m=ev st.t m/\ev st2.t k=ev st.t k:=fun st2 ha=>⟨ha.t m (by simp[Op.operands]),ha.t k (by simp[Op.operands])⟩;simp only[E9]at hf;unfold Nt at hk;split at hf
 .rename_i sh B1 hm;cases hf;rw[hm]at hk;simp only at hk;exact .pick (ca _ _ _ _ fun _=>Vf _ _ _ _ _) hk fun st2 ha K' h=>by grind [FS,Nt]
 .rename_i r hm;cases hf;rw[hm]at hk;simp only at hk;split at hk
  all_goals first | exact hk.elim | (rename_i e;exact .pick (ca _ _ _ _ fun _=>Vf _ _ _ _ _) hk fun st2 ha K' h=>by grind [FS,Nt,Alike.h])
 simp_all
theorem pc(t:Nat)(h:Nat->HO)(x:AV):Ga (Sg T t h x):=by
 unfold Sg
 repeat' split
 all_goals first | exact Ct | exact CW _
theorem xl{T:GF}{t:Nat}{h h2:Nat->HO}{x:AV}(e:∀r,x=.mref r->h2 r=h r){K:AV->Prop}:Sg T t h2 x K=Sg T t h x K:=by
 cases x<;>first | rfl | skip
 grind [Sg]
theorem jD{G7:Array TypeId}(hk:FS cx true ⟨dst,.call ⟨.builtin .len,#[x],G7⟩,ty,pos,after,gd⟩ st K)(hf:E9 cx ⟨dst,.call ⟨.builtin .len,#[x],G7⟩,ty,pos,after,gd⟩ st=some (R,w)) :
  Df cx ⟨dst,.call ⟨.builtin .len,#[x],G7⟩,ty,pos,after,gd⟩ st R w K:=by
 have hk:FY cx dst st.h .len G7.toList [ev st.t x] K:=hk;have hf:G5 cx dst (.builtin .len) st.t [ev st.t x]=some (R,w):=hf;have hn:∀st2,Alike ⟨dst,.call ⟨.builtin .len,#[x],G7⟩,ty,pos,after,gd⟩ R st st2->ev st2.t x=ev st.t x:=fun st2 ha=>ha.t x (by simp[Op.operands,Call.operands]);have JO:∀st2,Alike ⟨dst,.call ⟨.builtin .len,#[x],G7⟩,ty,pos,after,gd⟩ R st st2->∀K' : HK,FY cx dst st2.h .len G7.toList [ev st.t x] K'->FS cx true ⟨dst,.call ⟨.builtin .len,#[x],G7⟩,ty,pos,after,gd⟩ st2 K':=by
  intro st2 ha K' h;rw[<-hn st2 ha]at h;exact h
 generalize G7.toList=l at hk JO
 match l,hk,JO with
 | [t],hk,JO=>
  grind [G5,pc,FY,xl,Df.pick,Alike.h]
 | [],hk,_=>exact hk.elim
 |_::_::_,hk,_=>exact hk.elim
end
theorem sG(h:I0 l n=true):n∈l:=by
 induction l<;>grind [I0,DF]
theorem aj(G:Nat->HO):∀(σ:Jk) (h:Nat->HO),Er σ=true->(fun i=>match Cy σ i with | some j=>G j | none=>h i)=Ip h (σ.map fun p=>(p.1,G p.2))
 | [],h,_=>rfl
 |(i,j)::r,h,hσ=>by
  unfold Er at hσ;simp only[Am]at hσ;have ih:=aj G r (AL h i (G j)) hσ.2
  grind [Ip,AL,Cy,DF]
theorem WH(hσ:Er σ=true){h h' : Nat->HO}:D8 σ d 0 h h'=Ip h (σ.map fun p=>(p.1,(h' p.2).ren (Fb σ d 0) h')):=by
 rw[<-aj (fun j=>(h' j).ren (Fb σ d 0) h') σ h hσ]
 grind [D8,Nat.blt,Nat.ble_eq]
section
variable {cx:Cx}{op:Op}{dst:Option Nat}{ty:Nat}{pos:String}{after:Array Edge}{gd:Option (Nat×Bool)}{st:St}{R:List Nat}{w:Option Nat}{K:HK}
theorem Df.toL(h:Df cx ⟨dst,op,ty,pos,after,gd⟩ st R w K):SZ cx ⟨dst,op,ty,pos,after,gd⟩ st R w K:=by
 obtain⟨v,e,h1,h2,h3⟩:=h;cases e with
 |none=>exact⟨v,[],h1,fun r o' e=>(by cases e),h3⟩
 |some p=>exact⟨v,[p],h1,fun r o' e=>by
   obtain rfl:=AK.1 e;obtain⟨a,b⟩:=h2 r o' rfl;exact⟨by rw[a];exact .inl rfl,b⟩,h3⟩
theorem dH{c:Call}(hk:FS cx true ⟨dst,.call c,ty,pos,after,gd⟩ st K)(hf:E9 cx ⟨dst,.call c,ty,pos,after,gd⟩ st=some (R,w)):SZ cx ⟨dst,.call c,ty,pos,after,gd⟩ st R w K:=by
 obtain⟨yI,args,G7⟩:=c;have Ku:∀st2,Alike ⟨dst,.call ⟨yI,args,G7⟩,ty,pos,after,gd⟩ R st st2->args.toList.map (ev st2.t)=args.toList.map (ev st.t):=fun st2 ha=>
  BZ fun x hx=>ha.t x (by grind [Op.operands,Call.operands])
 cases yI with
 |invoke r m=>exact hk.elim
 |value f=>
  have hk:Gp cx true dst st (ev st.t f) (args.toList.map (ev st.t)) K:=hk;have hf:G5 cx dst (.value f) st.t (args.toList.map (ev st.t))=some (R,w):=hf;unfold G5 at hf;unfold Gp at hk;simp only at hf hk;have hn:=Ku;split at hf
  .rename_i gC;rw[gC]at hk;cases hf;obtain⟨res,h1,h2⟩:=hk;refine Df.toL ⟨res,none,h2,fun r o' e=>(by cases e),fun st2 ha K' h'=>?_⟩;show Gp cx true dst st2 (ev st2.t f) (args.toList.map (ev st2.t)) K';rw[Ku st2 ha,ha.t f (by simp[Op.operands,Call.operands])];unfold Gp;simp only[gC];refine⟨res,?_,h'⟩
   grind [Lr,RA,Alike.h]
  .rename_i gC;rw[gC]at hk;simp only at hk;cases dst with
   |none=>simp_all
   |some d=>
    obtain⟨n,sz,es,h1,h2,h3⟩:=hk;have hf:some (Bz d 0::(aW (ev st.t f)++UC (args.toList.map (ev st.t))),some (Bz d 0))=some (R,w):=hf;cases hf;refine Df.toL ⟨_,some (Bz d 0,_),h3,fun r o' e=>(by simp_all),fun st2 ha K' h'=>?_⟩;show Gp cx true (some d) st2 (ev st2.t f) (args.toList.map (ev st2.t)) K';rw[Ku st2 ha,ha.t f (by simp[Op.operands,Call.operands])];unfold Gp;simp only[gC];refine⟨n,sz,es,?_,?_,h'⟩
    all_goals grind [D3,Lr,RA,Alike.h]
  .rename_i gC;rw[gC]at hk;have hk:SA cx 0 dst st.h (ev st.t f) (args.toList.map (ev st.t)) K:=hk;split at hf
   .rename_i r n l hl;cases hf;have Qx:=hk;unfold SA at Qx;rw[hl]at Qx;split at Qx
    .rename_i d0 f0 r0 n0 l0 e1 e2 z1 z2;cases e2;split at Qx
     .rename_i vs gG;split at Qx
      .rename_i sz es hr;obtain⟨n',FG,h1,h2⟩:=Qx;refine Df.toL ⟨_,some (r,_),h2,fun r o' e=>(by simp_all),fun st2 ha K' h'=>?_⟩;show Gp cx true _ st2 (ev st2.t f) (args.toList.map (ev st2.t)) K';rw[Ku st2 ha,ha.t f (by simp[Op.operands,Call.operands]),hl,e1];unfold Gp;simp only[gC];unfold Sw;simp only;unfold SA;simp only[gG,ha.h r (Af ..),hr];exact⟨n',FG,h1,h'⟩
      simp_all
     simp_all
    simp_all
   simp_all
  .rename_i k gC;rw[gC]at hk;cases hb:Nat.beq k 1 with
   |true=>
    have dK:Nat.beq (k+1) 2=true:=hb;have hk:Zp cx dst st (ev st.t f) (args.toList.map (ev st.t)) K:=by
     simp_all
    rw[hb]at hf;cases dst with
    |none=>exact hk.elim
    |some d=>
     obtain⟨sz,es,h1,h2,h3⟩:=hk;have hf:some (Bz d 0::(aW (ev st.t f)++UC (args.toList.map (ev st.t))),some (Bz d 0))=some (R,w):=hf;cases hf;refine Df.toL ⟨_,some (Bz d 0,_),h3,fun r o' e=>(by simp_all),fun st2 ha K' h'=>?_⟩;show Gp cx true (some d) st2 (ev st2.t f) (args.toList.map (ev st2.t)) K';rw[Ku st2 ha,ha.t f (by simp[Op.operands,Call.operands])];unfold Gp;simp only[gC,dK];refine⟨sz,es,?_,?_,h'⟩
     all_goals grind [D3,Lr,RA,Alike.h]
   |false=>
    have dK:Nat.beq (k+1) 2=false:=hb;rw[hb]at hf;have Qx:(match Nat.beq (k+1) 2 with | true=>Zp cx dst st (ev st.t f) (args.toList.map (ev st.t)) K | false=>match Nat.beq (k+1) 3 with | true=>VN cx dst st (ev st.t f) (args.toList.map (ev st.t)) K | false=>Sw cx (k+1) dst st (ev st.t f) (args.toList.map (ev st.t)) K):=hk;rw[dK]at Qx;cases hc:Nat.beq k 2 with
    |true=>
     have nu:Nat.beq (k+1) 3=true:=hc;rw[hc]at hf;simp only[nu]at Qx;have hf:mV (args.toList.map (ev st.t))=some (R,w):=hf;unfold mV at hf;unfold VN at Qx;split at hf
     .rename_i vs gG;cases hf;split at Qx
      .rename_i l lD e1 e2 z1 z2;rw[gG]at e2;cases e2;split at Qx
       .rename_i r sz es iv n e3 e4;obtain⟨⟨rfl,rfl⟩,v,FG,n',h1,h2⟩:=Qx;refine⟨_,[(1001,_),(1000,_)],h2,fun r' o' e=>?_,fun st2 ha K' h'=>?_⟩
        .rcases AU.1 e with e | e
         .cases e
          exact⟨.inr (.inl ⟨by decide,.inr Cl⟩),by simp⟩
         .obtain e:=AK.1 e;cases e;exact⟨.inr (.inl ⟨by decide,.inl Cl⟩),by simp⟩
        show Gp cx true _ st2 (ev st2.t f) (args.toList.map (ev st2.t)) K';rw[Ku st2 ha,ha.t f (by simp[Op.operands,Call.operands]),e1];unfold Gp;simp only[gC,dK,nu];unfold VN;simp only[gG,ha.h 1000 B0,ha.h 1001 B0,e3,e4];exact⟨⟨trivial,trivial⟩,v,FG,n',h1,h'⟩
       simp_all
      simp_all
     simp_all
    |false=>
    have nu:Nat.beq (k+1) 3=false:=hc;rw[hc]at hf;have jL:Sw cx (k+1) dst st (ev st.t f) (args.toList.map (ev st.t)) K:=by
     simp_all
    have uJ:mT k dst (args.toList.map (ev st.t))=some (R,w):=hf;unfold mT at uJ;unfold Sw at jL;cases he:Nat.beq k 3 with
    |true=>
     have qB:Nat.beq (k+1) 4=true:=he;rw[he]at uJ;rw[qB]at jL;have uJ:some (rI,some Ya)=some (R,w):=uJ;have jL:aL cx dst st (ev st.t f) (args.toList.map (ev st.t)) K:=jL;cases uJ;unfold aL at jL;split at jL
     .rename_i d f' caps e2 _ _ _;obtain⟨σ,H0,Hn,args',res,g1,g2,g3,g4⟩:=jL;simp only[Am]at g2;refine⟨_,σ.map fun p=>(p.1,(Ai Hn Ac p.2).ren (Fb σ d 0) (Ai Hn Ac)),(WH (h:=st.h) (h':=Ai Hn Ac) (d:=d) g2.1.1)▸g4,fun r' o' e=>?_,fun st2 ha K' h'=>?_⟩
      .obtain⟨p,hp,e⟩:=Ax.1 e;cases e;exact⟨.inr (.inr rfl),sG (A3.1 g2.2 p hp)⟩
      .show Gp cx true _ st2 (ev st2.t f) (args.toList.map (ev st2.t)) K';rw[Ku st2 ha,ha.t f (by simp[Op.operands,Call.operands])];unfold Gp;simp only[gC,dK,nu];unfold Sw;simp only[qB];unfold aL
       grind [WH,Alike.h]
     simp_all
    |false=>
    have qB:Nat.beq (k+1) 4=false:=he;rw[he]at uJ;rw[qB]at jL;have hf:gn dst (args.toList.map (ev st.t))=some (R,w):=uJ;have hk:SA cx (k+1) dst st.h (ev st.t f) (args.toList.map (ev st.t)) K:=jL;obtain⟨d,r,n,l,rfl,hl,e0⟩:=dF hf;cases e0;unfold SA at hk;rw[hl]at hk;split at hk
    .rename_i d0 f0 r0 n0 l0 e9 e1 e2;cases e9;cases e2;split at hk
     .rename_i vs gG;split at hk
      .rename_i sz es hr;obtain⟨n',FG,h0,h1,h2⟩:=hk;have h00:=h0;simp only[Am,Dx]at h00;refine⟨_,[(r,.dead),(Bz d 0,_)],h2,fun r' o' e=>?_,fun st2 ha K' h'=>?_⟩
       .rcases AU.1 e with e | e
        .cases e
         refine⟨.inr (.inl ⟨by grind [Bz],.inl ?_⟩),Af ..⟩;omega
        .obtain e:=AK.1 e;cases e;refine⟨.inr (.inl ⟨by grind [Bz],.inr ?_⟩),Ao _ (Af ..)⟩;omega
       show Gp cx true _ st2 (ev st2.t f) (args.toList.map (ev st2.t)) K';rw[Ku st2 ha,ha.t f (by simp[Op.operands,Call.operands]),hl,e1];unfold Gp;simp only[gC,dK,nu];unfold Sw;simp only[qB];unfold SA;simp only[gG,ha.h r (Af ..),hr]
       have:D3 st2.h d 1=D3 st.h d 1:=by grind [D3,Alike.h]
       exact⟨n',FG,by simp_all,h1,h'⟩
      simp_all
     simp_all
    simp_all
 |builtin b=>
  refine Df.toL ?_;have mm:∀f:Int->Int->Int,(∀(d:Option Nat) (h:Nat->HO) (G7:List Nat) (args:List AV) (K:HK),FY cx d h b G7 args K=(match args with | [x,y]=>sI f x y fun v=>K v h | _=>False))->R=[]/\w=none->Df cx ⟨dst,.call ⟨.builtin b,args,G7⟩,ty,pos,after,gd⟩ st R w K:=by
   rintro f hb ⟨rfl,rfl⟩
   have hk:FY cx dst st.h b G7.toList (args.toList.map (ev st.t)) K:=hk;rw[hb]at hk;split at hk
   .rename_i x y e;refine .pick (s9 f x y) hk fun st2 ha K' h=>?_;show FY cx dst st2.h b G7.toList (args.toList.map (ev st2.t)) K';simp_all
   simp_all
  cases b
  case max=>exact mm max (fun d h G7 args K=>by cases args with | nil=>rfl | cons x l=>cases l with | nil=>rfl | cons y l=>cases l<;>rfl) (by
   have hf:G5 cx dst (.builtin .max) st.t (args.toList.map (ev st.t))=some (R,w):=hf
   grind [G5])
  case min=>exact mm min (fun d h G7 args K=>by cases args with | nil=>rfl | cons x l=>cases l with | nil=>rfl | cons y l=>cases l<;>rfl) (by
   have hf:G5 cx dst (.builtin .min) st.t (args.toList.map (ev st.t))=some (R,w):=hf
   grind [G5])
  case append=>
   obtain⟨l⟩:=args
   match l,hk,hf with
   | [s,x],hk,hf=>grind [YF]
   | [],hk,hf=>cases G7;exact hk.elim
   | [_],hk,hf=>exact hk.elim
   |_::_::_::_,hk,hf=>exact hk.elim
  case len=>
   obtain⟨l⟩:=args
   match l,hk,hf with
   | [x],hk,hf=>grind [jD]
   | [],hk,hf=>exact hk.elim
   |_::_::_,hk,hf=>exact hk.elim
  all_goals exact hk.elim
theorem db(hc:∀c,o.op≠.call c)(hs:(∃t x lo hi mx,o.op=.slice t x lo hi mx)->TH cx.pl.tok o.dst=none)(hk:FS cx true o st K)(hf:E9 cx o st=some (R,w)):Df cx o st R w K:=by
 obtain⟨dst,op,ty,pos,after,gd⟩:=o;cases op with
 |call c=>simp_all
 |alloc e=>grind [aG]
 |box e x=>grind [jC]
 |buildSlice t n ps=>grind [QP]
 |makeSlice t n c=>grind [SG]
 |makeMap t r=>grind [Wb]
 |store t p x=>grind [aH]
 |mapUpdate t m k x=>grind [SH]
 |makeFunc fn first cap=>grind [Un]
 |load t p=>grind [dI]
 |assign x=>grind [YG]
 |slice t x lo hi mx=>grind [RZ]
 |lookup t x i ok=>grind [YH]
 |move x=>
  cases hf
  exact .pick (CW _) hk fun st2 ha K' h=>by grind [FS,Op.operands,Alike.t]
 |pick c a b=>
  cases hf
  exact .pick (kN _ _ _) hk fun st2 ha K' h=>by grind [FS,Op.operands,Alike.t]
 |nilCheck x=>
  grind [pd,FS,Op.operands,Df.pick,Alike.t]
 |binOp op t x y u=>
  simp only[E9]at hf;split at hf
  .cases hf
  .rename_i hx;cases hf;exact .pick (kL _ _ _ _ _ _ hx) hk fun st2 ha K' h=>by grind [FS,Op.operands,Alike.t]
 |unOp op t x=>
  grind [kO,FS,Op.operands,Df.pick,Alike.t]
 |convert s t x=>
  grind [kM,FS,Op.operands,Df.pick,Alike.t]
 |fieldAddr s x f=>
  grind [fe,FS,Op.operands,Df.pick,Alike.t]
 |field s x f=>
  grind [bZ,FS,Op.operands,Df.pick,Alike.t]
 |indexAddr t x i=>
  cases hf
  exact .pick (Vg _ _ _ _) hk fun st2 ha K' h=>by grind [FS,Op.operands,Alike.t]
 |index t x i=>
  cases hf
  exact .pick (ff _ _ _ _) hk fun st2 ha K' h=>by grind [FS,Op.operands,Alike.t]
 |extract x i=>
  grind [Zb,FS,Op.operands,Df.pick,Alike.t]
 |build t ps=>
  cases hf
  refine .pick (fc _ _ _ _) hk fun st2 ha K' h=>?_;have hx:∀p∈ps.toList,ev st2.t p.2=ev st.t p.2:=fun p hp=>ha.t p.2 (by
   grind [Op.operands])
  simp only[FS];have fill:∀(pl:Nat->Option (Nat×Nat)) (l:List (Nat×Operand)) (cs:List AV) (K:List AV->Prop),(∀p∈l,ev st2.t p.2=ev st.t p.2)->K8 pl cs st2.t l K=K8 pl cs st.t l K:=by
   intro pl l
   induction l with
   |nil=>intro cs K _;rfl
   |cons p l ih=>
    intro cs K hp;obtain⟨i,x⟩:=p;have h1:ev st2.t x=ev st.t x:=hp (i,x) (Af ..);have h2:∀cs,K8 pl cs st2.t l K=K8 pl cs st.t l K:=fun cs=>ih cs K (fun p qH=>hp p (Ao _ qH));simp only[K8,h1,h2]
  unfold QF at h⊢;simp only[fill _ _ _ _ hx];exact h
 |_=>cases hf
theorem iX(hk:FS cx true o st K)(hf:E9 cx o st=some (R,w)):SZ cx o st R w K:=by
 obtain⟨dst,op,ty,pos,after,gd⟩:=o
 by_cases h:∃c,op=.call c
 .grind [dH]
 .by_cases h2:∃t x lo hi mx,op=.slice t x lo hi mx
  .obtain⟨t,x,lo,hi,mx,rfl⟩:=h2;cases hp:TH cx.pl.tok dst<;>grind [Df.toL,RZ,jE]
  grind [Df.toL,db]
end
theorem jB(h:∀x∈o.op.operands,ev st2.t x=ev st.t x):E9 cx o st2=E9 cx o st:=by
 obtain⟨dst,op,ty,pos,after,gd⟩:=o;cases op with
 |call c=>
  obtain⟨yI,args,G7⟩:=c;have ha:args.toList.map (ev st2.t)=args.toList.map (ev st.t):=BZ fun x hx=>h x (by grind [Op.operands,Call.operands]);simp only[E9];rw[ha];cases yI with
  |value f=>
   have hf:ev st2.t f=ev st.t f:=h f (by simp[Op.operands,Call.operands]);simp only[G5,hf]
  |builtin b=>
   generalize args.toList.map (ev st.t)=l
   match l with
   | []=>cases b<;>rfl
   | [x]=>cases b<;>cases x<;>rfl
   | [x,y]=>cases b<;>cases x<;>rfl
   |x::_::_::_=>cases b<;>cases x<;>rfl
  |invoke r m=>rfl
 |box e x=>grind [E9,Op.operands]
 |buildSlice t n ps=>
  grind [List.map_congr_left,Op.operands,E9]
 |store t p x=>grind [E9,Op.operands]
 |mapUpdate t m k x=>grind [E9,Op.operands]
 |makeFunc fn first cap=>
  grind [List.map_congr_left,Op.operands,E9]
 |load t p=>grind [E9,Op.operands]
 |assign x=>grind [E9,Op.operands]
 |binOp op t x y u=>grind [E9,Op.operands]
 |slice t x lo hi mx=>grind [E9,Op.operands]
 |lookup t x i ok=>grind [E9,Op.operands]
 |_=>rfl
def Looks(o:Oper)(st st2:St):Prop:=∀d∈o.looksAt ops,st2.t d=st.t d
theorem Looks.operands{ops:Array Oper}{o:Oper}{st st2:St}(h:Looks ops o st st2):∀x∈o.op.operands,ev st2.t x=ev st.t x:=fun x hx=>by
 cases x with
 |tmp t=>exact h t (Cv _ (List.mem_filterMap.2 ⟨.tmp t,by simp_all,rfl⟩))
 |_=>rfl
theorem Xw(j:Nat):LP ops.toList j=(ops[j]?).bind (·.dst):=by
 have:∀(l:List Oper) (j:Nat),LP l j=(l[j]?).bind (·.dst):=by
  intro l
  induction l with
  |nil=>grind [LP]
  |cons o l ih=>
   intro j;cases j<;>grind [LP]
 simp_all
theorem Looks.guard{ops:Array Oper}(h:Looks ops o st st2){j:Nat}{b:Bool}(hg:o.guard=some (j,b))(hd:LP ops.toList j=some d):st2.t d=st.t d:=
 h d (CE _ (by grind [Xw]))
def St.after(st:St)(o:Oper)(v:AV)(e:List (Nat×HO)):St:=st.put o.dst v (Ip st.h e)
def QA(cx:Cx)(ops:Array Oper)(o:Oper)(st:St)(f:Ft)(v:AV)(e:List (Nat×HO)):Prop:=
 (∀r o',(r,o')∈e->Tu f.2 r/\r∈f.1)/\∀st2,Looks ops o st st2->(∀r∈f.1,st2.h r=st.h r)->∀K:St->Prop,K (st2.after o v e)->I7 cx true ops.toList o st2 K
theorem Ul{ops:Array Oper}(h:Looks ops o st st2):NX cx ops.toList o st2=NX cx ops.toList o st:=by
 grind [NX,jB,Looks.operands,Looks.guard]
theorem Pe{ops:Array Oper}(hk:I7 cx true ops.toList o st K)(hf:NX cx ops.toList o st=some f) :
  ∃v e,QA cx ops o st f v e/\K (st.after o v e):=by
 obtain⟨R,w⟩:=f;have skip:R=[]/\w=none->K (st.put o.dst (.v undef) st.h)->(∀st2,Looks ops o st st2->∀K:St->Prop,K (st2.put o.dst (.v undef) st2.h)->I7 cx true ops.toList o st2 K)->∃v e,QA cx ops o st (R,w) v e/\K (st.after o v e):=by
  rintro⟨rfl,rfl⟩ h1 h2
  exact⟨.v undef,[],⟨fun r o' e=>(by cases e),fun st2 hl _ K h=>h2 st2 hl K h⟩,h1⟩
 have run:E9 cx o st=some (R,w)->FS cx true o st (fun v h=>K (st.put o.dst v h))->(∀st2,Looks ops o st st2->∀K:St->Prop,FS cx true o st2 (fun v h=>K (st2.put o.dst v h))->I7 cx true ops.toList o st2 K)->∃v e,QA cx ops o st (R,w) v e/\K (st.after o v e):=by
  intro hf hk h2;obtain⟨v,e,q1,q2,q3⟩:=iX hk hf;exact⟨v,e,⟨q2,fun st2 hl hh K h=>h2 st2 hl K (q3 st2 ⟨hl.operands,hh⟩ _ h)⟩,q1⟩
 unfold I7 at hk;unfold NX at hf;cases hg:o.guard with
 |none=>
  rw[hg]at hk hf;exact run hf hk (fun st2 hl K h=>by unfold I7;rw[hg];exact h)
 |some p=>
  obtain⟨j,want⟩:=p;rw[hg]at hk hf;simp only at hk hf;cases hd:LP ops.toList j with
  |none=>simp_all
  |some d=>
   rw[hd]at hk hf;simp only at hk hf;have he:∀st2,Looks ops o st st2->st2.t d=st.t d:=fun st2 hl=>hl.guard hg hd;generalize hx:st.t d=x at hk hf he;split at hk
   .exact run hf hk (fun st2 hl K h=>by unfold I7;simp only[hg,hd,he st2 hl];exact h)
   .exact run hf hk (fun st2 hl K h=>by unfold I7;simp only[hg,hd,he st2 hl];exact h)
   all_goals grind [I7]
def zi(cx:Cx)(ops:Array Oper)(FT:Nat->Ft)(i:Nat)(K:St->Prop)(st:St):Prop:=
 match ops[i]? with
 |none=>K st
 |some o=>NX cx ops.toList o st=some (FT i)/\I7 cx true ops.toList o st K
def ZN(cx:Cx)(ops:Array Oper)(FT:Nat->Ft)(K:St->Prop):Nat->Array Bool->St->Prop
 |0,listed,st=>Region.ready .any ops listed=[]/\K st
 |fuel+1,listed,st=>
  (Region.ready .any ops listed=[]->K st)/\∀i∈Region.ready .any ops listed,zi cx ops FT i (ZN cx ops FT K fuel (listed.setIfInBounds i true)) st
theorem lp(t:Nat->AV)(h:d'≠d)(v v' : AV):Ka (Ka t d v) d' v'=Ka (Ka t d' v') d v:=by
 grind [Ka,DF]
theorem jO(t:Nat->HO)(h:d'≠d)(v v' : HO):AL (AL t d v) d' v'=AL (AL t d' v') d v:=by
 grind [AL,DF]
theorem bw(h:n∈l):I0 l n=true:=by
 induction l<;>grind [I0,Nat.beq_refl]
theorem bA(h:I0 l n=true):n∈l:=by
 induction l<;>grind [I0,DF]
theorem bQ{x:Nat}(h:bO l x=true):∀r,Tu (some x) r->r∉l:=by
 intro r hc hr;unfold bO at h
 by_cases hx:x=Ya
 .subst hx;rw[Nat.beq_refl,cond_true]at h;cases l with
  |nil=>cases hr
  |cons a l=>cases h
 rw[DF hx,F1]at h;simp only[Am,Kb,EO,Dx]at h;rcases hc with rfl | ⟨h1,h2⟩ | hc<;>grind [bw]
theorem js{a b:Ft}(h:T4 a b=true):(∀r,Tu a.2 r->r∉b.1)/\∀r,Tu b.2 r->r∉a.1:=by
 obtain⟨a1,a2⟩:=a;obtain⟨b1,b2⟩:=b;simp only[T4,Am]at h;refine⟨fun r e=>?_,fun r e=>?_⟩
 .cases a2 with
  |none=>exact e.elim
  |some x=>grind [bQ]
 .cases b2 with
  |none=>exact e.elim
  |some x=>grind [bQ]
section
variable {cx:Cx}{ops:Array Oper}{FT:Nat->Ft}
theorem Si{oi oj:Oper}(h:∀d,oi.dst=some d->d∉oj.looksAt ops)(st:St)(v:AV)(e:List (Nat×HO)):Looks ops oj st (st.after oi v e):=by
 intro d hd;cases hdst:oi.dst with
 |none=>grind [St.after,St.put]
 |some d'=>
  have:d≠d':=fun q=>h d' hdst (q▸hd)
  simp[St.after,St.put,hdst,Ka,DF this]
theorem Looks.symm{o:Oper}{st st2:St}(h:Looks ops o st st2):Looks ops o st2 st:=fun d hd=>(h d hd).symm
theorem gx{o:Oper}{v:AV}{e:List (Nat×HO)}:(st.after o v e).h=Ip st.h e:=by
 unfold St.after St.put;grind
theorem QM{r:Nat}:∀{e:List (Nat×HO)} {h:Nat->HO},(∀o',(r,o')∉e)->Ip h e r=h r
 | [],_,_=>rfl
 |p::e,h,hr=>by
  have:r≠p.1:=fun q=>hr p.2 (by simp_all)
  show Ip (AL h p.1 p.2) e r=h r;rw[QM fun o' ho=>hr o' (Ao _ ho),BW _ _ _ _ this]
theorem am{r:Nat}{o:HO}:∀{e:List (Nat×HO)} {h:Nat->HO},(∀r' o',(r',o')∈e->r'≠r)->Ip (AL h r o) e=AL (Ip h e) r o
 | [],_,_=>rfl
 |p::e,h,hr=>by
  show Ip (AL (AL h r o) p.1 p.2) e=AL (Ip (AL h p.1 p.2) e) r o;rw[jO h (hr p.1 p.2 (Af ..)),am fun r' o' ho=>hr r' o' (Ao _ ho)]
theorem WU:∀{e e' : List (Nat×HO)} {h:Nat->HO},(∀r o r' o',(r,o)∈e->(r',o')∈e'->r'≠r)->Ip (Ip h e) e'=Ip (Ip h e') e
 | [],_,_,_=>rfl
 |p::e,e',h,hd=>by
  show Ip (Ip (AL h p.1 p.2) e) e'=Ip (AL (Ip h e') p.1 p.2) e;rw[<-am fun r' o' ho=>hd p.1 p.2 r' o' (Af ..) ho,WU fun r o r' o' h1 h2=>hd r o r' o' (Ao _ h1) h2]
theorem c9{oi oj:Oper}{v v' : AV}{e e' : List (Nat×HO)}(h1:∀d,oi.dst=some d->oj.dst≠some d)(h2:∀r o r' o',(r,o)∈e->(r',o')∈e'->r'≠r) :
  (st.after oi v e).after oj v' e'=(st.after oj v' e').after oi v e:=by
 have hh:Ip (Ip st.h e) e'=Ip (Ip st.h e') e:=WU h2;have key:∀o:Oper,∀v e,∀st:St,st.after o v e=⟨match o.dst with | none=>st.t | some d=>Ka st.t d v,Ip st.h e⟩:=fun o v e st=>by
  grind [St.after,St.put]
 grind [lp]
theorem cY{i:Nat}{oi:Oper}{v:AV}{e:List (Nat×HO)}(hi:ops[i]?=some oi)(D:Nat->Prop)(hD:∀j,D j->∃oj,ops[j]?=some oj/\∃ed∈oj.after,Region.binds .any ed=true/\(ed.on=i\/D ed.on)) :
  ∀(fuel:Nat) (listed:Array Bool) (st:St),
   (∀j oj,ops[j]?=some oj->j≠i->listed.getD j true=false->¬D j->oi.apart ops oj=true/\T4 (FT i) (FT j)=true) ->
   i∈Region.ready .any ops listed->(∀j,D j->listed.getD j true=false)->NX cx ops.toList oi st=some (FT i)->QA cx ops oi st (FT i) v e ->
   ZN cx ops FT K fuel (listed.setIfInBounds i true) (st.after oi v e)->ZN cx ops FT K (fuel+1) listed st:=by
 have here:∀(fuel:Nat) (listed:Array Bool) (st:St),NX cx ops.toList oi st=some (FT i)->QA cx ops oi st (FT i) v e ->
   ZN cx ops FT K fuel (listed.setIfInBounds i true) (st.after oi v e)->zi cx ops FT i (ZN cx ops FT K fuel (listed.setIfInBounds i true)) st:=by
  intro fuel listed st hf hy H;unfold zi;rw[hi];exact⟨hf,hy.2 st (fun _ _=>rfl) (fun _ _=>rfl) _ H⟩
 intro fuel
 induction fuel with
 |zero=>
  intro listed st _ hr _ hf hy H;refine⟨fun h=>(by simp_all),fun j hj=>?_⟩
  by_cases FI:j=i
  .simp_all
  .have:=ready_mono hj FI
   rw[H.1]at this;simp_all
 |succ fuel ih=>
  intro listed st Ac hr hDl hf hy H;refine⟨fun h=>(by simp_all),fun j hj=>?_⟩
  by_cases FI:j=i
  .simp_all
  .have h1:=H.2 j (ready_mono hj FI);obtain⟨Afb,oj,wS,Gd⟩:=mem_ready.1 hj;have Ajd:∀k,listed.getD k true=false->listed.getD k false=true->False:=fun k h0 h1=>by
    grind
   have hnD:¬D j:=fun hdj=>by
    grind [mem_ready]
   obtain⟨hap,hdj⟩:=Ac j oj wS FI Afb hnD;obtain⟨a1,a2,a3⟩:=Oper.apart_spec hap;obtain⟨d1,d2⟩:=js hdj;unfold zi at h1⊢;rw[wS]at h1⊢;obtain⟨hfj,hkj⟩:=h1;have hlj:=Si (ops:=ops) a1 st v e;obtain⟨vj,ej,hyj,hK⟩:=Pe hkj hfj;have he1:∀r o',(r,o')∈e->r∉(FT j).1:=fun r o' q=>d1 r (hy.1 r o' q).1;have qB:∀r o',(r,o')∈ej->r∉(FT i).1:=fun r o' q=>d2 r (hyj.1 r o' q).1;refine⟨by grind [Ul],hyj.2 st hlj.symm (fun r r9=>?_) _ ?_⟩
   .rw[gx,QM (fun o' q=>he1 r o' q r9)]
   .have hli:=Si (ops:=ops) a3 st vj ej;refine ih (listed.setIfInBounds j true) (st.after oj vj ej) (fun k ok hk hki yY OX=>?_) (ready_mono hr (Ne.symm FI)) (fun k hk=>?_) (by grind [Ul]) ⟨hy.1,fun st2 hl hh K' h'=>?_⟩ ?_
    .by_cases hjk:j=k
     .simp_all
     .rw[getD_set_ne true hjk]at yY;grind
    .by_cases hjk:j=k
     all_goals simp_all
    .refine hy.2 st2 (fun d hd=>(hl d hd).trans (hli d hd)) (fun r r9=>?_) K' h';rw[hh r r9,gx,QM (fun o' q=>qB r o' q r9)]
    .rw[Array.setIfInBounds_comm _ _ (Ne.symm FI)]at hK;rw[<-c9 a2 (fun r o r' o' q q' e2=>qB r' o' q' (by rw[e2];exact(hy.1 r o q).2))];exact hK
def vD(cx:Cx)(ops:Array Oper)(K:St->Prop):List Oper->List Ft->St->Prop
 | [],[],st=>K st
 |o::r,f::fs,st=>NX cx ops.toList o st=some f/\∃v e,QA cx ops o st f v e/\vD cx ops K r fs (st.after o v e)
 |_,_,_=>False
theorem TB{K:St->Prop}:∀(l:List Oper) (acc:List Ft) (st:St),ZT cx ops l acc st K->∃fs,T5 ops (acc.reverse++fs)=true/\vD cx ops K l fs st
 | [],acc,st,h=>⟨[],by simpa using h.1,h.2⟩
 |o::r,acc,st,h=>by
  unfold ZT at h;split at h
  .rename_i f hf;obtain⟨v,e,h1,h2⟩:=Pe h hf;obtain⟨fs,q1,q2⟩:=TB r _ _ h2;exact⟨f::fs,by simp_all,hf,v,e,h1,q2⟩
  simp_all
theorem YJ{o:Oper}{i:Nat}{D:List Nat}(h:PK o i D=true):∃ed∈o.after,Region.binds .any ed=true/\(ed.on=i\/ed.on∈D):=by
 grind [PK,Nat.eq_of_beq_eq_true,bA]
theorem VF{i:Nat}{D:List Nat}:∀(l:List Oper) (k:Nat),VE i D k l=true->∀j o,l[j]?=some o->k+j∈D->PK o i D=true
 | [],_,_,_,_,h,_=>by simp_all
 |o::l,k,hs,j,o',h,hm=>by
  simp only[VE,Am]at hs;cases j with
  |zero=>
   grind [bw]
  |succ j=>exact VF l (k+1) hs.2 j o' (by simp_all) (by grind)
theorem WC{oi:Oper}{fi:Ft}{D:List Nat}:∀(l:List Oper) (fs:List Ft) (k:Nat),II ops oi fi D k l fs=true->l.length=fs.length/\∀j o f,l[j]?=some o->fs[j]?=some f->k+j∉D->oi.apart ops o=true/\T4 fi f=true
 | [],[],_,_=>⟨rfl,fun _ _ _ h=>by simp_all⟩
 | [],_::_,_,h=>by grind [II]
 |_::_,[],_,h=>by grind [II]
 |o::l,f::fs,k,h=>by
  simp only[II,Am,Kb]at h;obtain⟨h1,h2⟩:=WC l fs (k+1) h.2<;>grind [bA]
theorem ZO{K:St->Prop}:∀(l:List Oper) (fs:List Ft) (k:Nat) (listed:Array Bool) (st:St),(∀j,l[j]?=ops[k+j]?)->(∀j f,fs[j]?=some f->FT (k+j)=f)->listed.size=ops.size ->
  (∀j,j<ops.size->listed.getD j true=decide (j<k))->MI ops ops.toList k l fs=true->vD cx ops K l fs st->ZN cx ops FT K l.length listed st
 | [],[],k,listed,st,hl,_,hs,hL,_,h=>by
  refine⟨?_,h⟩;apply Mf.2;intro j hj;obtain⟨h1,o,ho,_⟩:=mem_ready.1 hj;have E3:=(Cu.1 ho).1;rw[hL j E3]at h1;have hge:k<=j:=by simp_all
  have:=hl (j-k)
  simp_all
 | [],_::_,_,_,_,_,_,_,_,h,_=>by grind [MI]
 |_::_,[],_,_,_,_,_,_,_,h,_=>by grind [MI]
 |o::l,f::fs,k,listed,st,hl,hF,hs,hL,hg,h=>by
  simp only[MI,Am]at hg;obtain⟨⟨⟨⟨g1,g2⟩,g3⟩,g4⟩,g5⟩:=hg;obtain⟨hf,v,e,hy,hp⟩:=h;have h0:ops[k]?=some o:=by simpa using(hl 0).symm
  have hk:=(Cu.1 h0).1;have hFk:FT k=f:=by simpa using hF 0 f rfl
  have SL : ∀j,l[j]?=ops[k+1+j]?:=fun j=>by have:=hl (j+1);grind
  have z7 : ∀j f,fs[j]?=some f->FT (k+1+j)=f:=fun j f' hj=>by have:=hF (j+1) f' (by simp_all);grind
  obtain⟨Dd,hap⟩:=WC l fs (k+1) g4;have rP:∀j,j∈QK k [] 0 ops.toList->k<j/\j<ops.size:=fun j hj=>by
   simp_all
  refine cY h0 (fun j=>j∈QK k [] 0 ops.toList) (fun j hj=>?_) l.length listed st (fun j oj wS hjk yY hnD=>?_) ?_ (fun j hj=>?_) (by simp_all) (by rw[hFk];exact hy) ?_
  .have E3:=(rP j hj).2
   have:=VF ops.toList 0 g2 j ops[j] (by simp_all) (by simp_all)
   grind [YJ]
  .have E3:=(Cu.1 wS).1;rw[hL j E3]at yY;have hge:k<j:=by grind
   have e1:l[j-(k+1)]?=some oj:=by grind
   grind
  .grind [mem_ready,Nat.blt_eq]
  .grind
  .refine ZO l fs (k+1) _ _ SL z7 (by simp_all) (fun j hj=>?_) g5 hp
   by_cases hjk:j=k
   .simp_all
   .rw[getD_set_ne true (Ne.symm hjk),hL j hj]
    grind
theorem iT(h:ZT cx ops ops.toList [] st K):Region.noSelect ops=true/\∃FT,ZN cx ops FT K ops.size (Array.replicate ops.size false) st:=by
 obtain⟨fs,h1,h2⟩:=TB _ _ _ h;simp only[T5,List.reverse_nil,Wu,Am]at h1;refine⟨h1.1,fun j=>fs.getD j default,?_⟩
 have:=ZO (FT:=fun j=>fs.getD j default) ops.toList fs 0 (Array.replicate ops.size false) st B0 (fun j f hj=>by simp_all) B0 (fun j hj=>by simp_all) h1.2 h2
 omega
end
theorem YV:∀{σ:Jk},GX σ=true->∀i j,Cy σ i=some j↔If σ j=some i
 | [],_,i,j=>by simp[Cy,If]
 |(a,b)::r,h,i,j=>by
  simp only[GX,Am]at h;obtain⟨h1,h2⟩:=h;have ih:=YV h2
  grind [Cy,If,Nat.beq_refl,DF]
theorem oV:∀{σ:Jk},Er σ=true->GX σ=true
 | [],_=>rfl
 |(a,b)::r,h=>by
  simp only[Er,Am]at h;simp only[GX,Am];exact⟨h.1.1.1,oV h.2⟩
theorem Zg(h:Er σ=true):∀i j,Cy σ i=some j↔If σ j=some i:=YV (oV h)
theorem XF:∀{σ:Jk},Er σ=true->∀{i j},Cy σ i=some j->1000<=j/\j<2000
 | [],_,i,j,h=>by grind [Cy]
 |(a,b)::r,h,i,j,hf=>by
  simp only[Er,Am,ES,Dx]at h;unfold Cy at hf
  by_cases e1:a=i
  .simp_all
  .simp only[DF e1,F1]at hf;exact XF h.2 hf
theorem Qh(f:Nat->Option Nat)(h:Nat->HO):∀(σ:Jk) (j:Nat),Ai (Zf f h σ) Ac j=match If σ j with | some i=>(h i).ren f h | none=>.free
 | [],j=>rfl
 |(a,b)::r,j=>by
  unfold Zf Ai If
  by_cases e:b=j
  .simp_all
  .simp only[DF e,DF (Ne.symm e),F1];exact Qh f h r j
structure FX(f:Nat->Option Nat)(h h2:Nat->HO)(g g2:Gh)(w:World):Prop where
 ids:∀r r',f r=some r'->AI h r->g2.tk r'=g.tk r/\g2.ln r'=g.ln r/\g2.ρ r'=g.ρ r/\g2.own r'=g.own r/\AI h2 r'
 S:∀b o,g2.S b o↔g.S b o
 objs:∀r,DR g w (AI h) r (h r)
section
variable {f:Nat->Option Nat}{h h2:Nat->HO}{g g2:Gh}{w:World}
theorem FX.keeps(hR:FX f h h2 g g2 w):Eu g w g2 w:=fun b o hs=>⟨(hR.S b o).2 hs,rfl,fun _ _ e=>e⟩
theorem FX.noU(hR:FX f h h2 g g2 w){av:AV}{x:Value}(r:Ba g w Fp av x):Ba g2 w (AI h2) av x:=r.mono hR.keeps (fun _ h=>h.elim) (fun _ h=>h.elim)
theorem Ba.ren0(hR:FX f h h2 g g2 w){av:AV}{x:Value}(r:Ba g w (AI h) av x):Ba g2 w (AI h2) (ren0 f h av) x:=by
 have down:Ba g2 w (AI h2) (Eng.str0 h av) x:=hR.noU (Ba.str0 hR.objs r);cases av with
 |v y=>exact down
 |slice tk es=>
  cases tk with
  |none=>exact down
  |full sz=>exact down
  |id i sz=>
   simp only[Eng.ren0];split
   .rename_i i' e;cases r<;>grind [tok,Ba.slice_none,FX.ids,FX.noU]
   .exact hR.noU r.slice_none
  |ver i sz v=>
   simp only[Eng.ren0];split
   .rename_i i' e;cases r<;>grind [ver,Ba.slice_none,FX.ids,FX.noU]
   .exact hR.noU r.slice_none
 |msl i n=>
  simp only[Eng.ren0];split
  .rename_i i' e;cases r<;>grind [msl,FX.ids]
  grind [junk]
 |agg cs=>exact down
 |tup cs=>exact down
 |cptr cs=>exact down
 |ref i off=>
  simp only[Eng.ren0];split
  .rename_i i' e;cases r<;>grind [ref,FX.ids]
  omega
 |eref i n sz k off=>
  simp only[Eng.ren0];split
  .rename_i i' e;cases r<;>grind [eref,FX.ids]
  grind [junk]
 |mref i=>
  simp only[Eng.ren0];split
  .rename_i i' e;cases r<;>grind [mref,FX.ids]
  omega
 |cmap sh B1=>exact down
 |clo i cs=>exact down
 |junk=>exact down
theorem Ba.ren1(hR:FX f h h2 g g2 w){av:AV}{x:Value}(r:Ba g w (AI h) av x):Ba g2 w (AI h2) (ren1 f h av) x:=by
 cases av with
 |agg cs=>
  cases r with
  |agg _ _ vs hs h1 hr=>
   exact .agg _ _ vs (by simp_all) h1 fun i av x q1 q2=>by
    grind [ren0]
 |clo i cs=>
  cases r with
  |clo _ _ _ vs hs hr=>
   exact .clo _ _ _ vs (by simp_all) fun i av x q1 q2=>by
    grind [ren0]
 |_=>exact r.ren0 hR
theorem Ba.ren(hR:FX f h h2 g g2 w){av:AV}{x:Value}(r:Ba g w (AI h) av x):Ba g2 w (AI h2) (ren f h av) x:=by
 cases av with
 |tup cs=>
  cases r with
  |tup _ _ vs hs hr=>
   exact .tup _ _ vs (by simp_all) fun i av x q1 q2=>by
    grind [ren1]
 |_=>exact r.ren1 hR
theorem M6(f:Nat->Option Nat)(h:Nat->HO)(o:HO):(o.ren f h).live↔o.live:=by cases o<;>exact Iff.rfl
theorem M7(f:Nat->Option Nat)(h:Nat->HO)(o:HO):o.ren f h≠.free↔o≠.free:=by cases o<;>simp[HO.ren]
theorem DR.ren(hR:FX f h h2 g g2 w){i j:Nat}(aO:f i=some j)(hu:AI h i){o:HO}(r:DR g w (AI h) i o):DR g2 w (AI h2) j (o.ren f h):=by
 obtain⟨k1,k2,k3,k4,k5⟩:=hR.ids i j aO hu;have noL:∀{cs:List AV} {vs:List Value},Cs g w Fp cs vs->Cs g2 w Fp cs vs:=fun hr=>hr.mono hR.keeps (fun _ h=>h) (fun _ h=>h.elim);have no1:∀{av:AV} {x:Value},Ba g w Fp av x->Ba g2 w Fp av x:=fun hr=>hr.mono hR.keeps (fun _ h=>h) (fun _ h=>h.elim);cases o with
 |free=>trivial
 |dead=>trivial
 |cells cs=>
  obtain⟨t,b,E,vs,a1,a2,a3,a4,a5⟩:=r;refine⟨k1.trans t,b,E,vs,k4.trans a1,k3.trans a2,a3,⟨by simp[a4.1],a4.2.1,fun i av x q1 q2=>?_⟩,fun o ho=>a5 o ((hR.S b o).1 ho)⟩;rw[BH]at q1;obtain⟨a,q3,rfl⟩:=Cr.1 q1;exact(a4.2.2 i a x q3 q2).ren1 hR
 |ro cs=>
  obtain⟨t,b,a1,a2⟩:=r;exact⟨k1.trans t,b,k3.trans a1,no1 a2⟩
 |tok sz n=>
  obtain⟨t,l,a,cap,a1,a2⟩:=r;refine⟨k1.trans t,k2.trans l,a,cap,k3.trans a1,?_⟩
  grind [FX.S]
 |var sz v n=>
  obtain⟨t,l,a,cap,a1,a2⟩:=r;refine⟨k1.trans t,k2.trans l,a,cap,k3.trans a1,?_⟩
  grind [FX.S]
 |vox v=>exact⟨k1.trans r.1,k2.trans r.2⟩
 |hol sz es i c av=>
  obtain⟨t,l,al,b,cap,E,vs,b1,b2,b3,b4,b5,b6,b7,b8,x,b9,VQ⟩:=r;exact⟨k1.trans t,k2.trans l,al,b,cap,E,vs,k3.trans b1,k4.trans b2,b3,b4,b5,noL b6,fun o ho=>b7 o ((hR.S b o).1 ho),b8,x,b9,VQ.ren1 hR⟩
 |bld x=>
  obtain⟨t,b,p,v,a1,a2,a3,a4,a5,a6⟩:=r;exact⟨k1.trans t,b,p,v,k4.trans a1,k3.trans a2,a3,a4,a5.ren1 hR,fun o ho=>a6 o ((hR.S b o).1 ho)⟩
 |bbf n=>
  obtain⟨t,l,a1⟩:=r;refine⟨k1.trans t,k2.trans l,?_⟩
  grind [FX.S]
 |raw b ob=>
  obtain⟨t,a1,a2,a3,a4⟩:=r;exact⟨k1.trans t,k4.trans a1,a2,a3,fun o ho=>a4 o ((hR.S b o).1 ho)⟩
 |arr sz es=>
  obtain⟨t,l,al,a2⟩:=r;refine⟨k1.trans t,k2.trans l,al,?_⟩;rcases a2 with ⟨b1,b2,b3⟩ | ⟨b,cap,E,vs,b1,b2,b3,b4,b5,b6,b7⟩
  .simp_all
  .exact .inr ⟨b,cap,E,vs,k3.trans b1,k4.trans b2,b3,b4,b5,noL b6,fun o ho=>b7 o ((hR.S b o).1 ho)⟩
 |map sh B1=>
  obtain⟨t,b,es,ck,a1,a2,a3,a4,a5,a6⟩:=r;exact⟨k1.trans t,b,es,ck,k4.trans a1,k3.trans a2,a3,a4,fun i kv e q1 q2=>no1 (a5 i kv e q1 q2),fun o ho=>a6 o ((hR.S b o).1 ho)⟩
 |mapU sh B1=>
  obtain⟨t,b,es,ck,a1,a2,a3,a4,a5,a6⟩:=r;refine⟨k1.trans t,b,es,ck,k4.trans a1,k3.trans a2,a3,Xq _ a4,fun i kv e q1 q2=>?_,fun o ho=>a6 o ((hR.S b o).1 ho)⟩
  grind [Ba.ren1]
 |rom sh B1=>
  obtain⟨t,b,a1,a2⟩:=r;exact⟨k1.trans t,b,k3.trans a1,no1 a2⟩
 |iter all rem Ei=>
  obtain⟨t,b,mb,KE,seen,st,es,ck,a1,a2,a3,a4,a5,a6,a7,a8,a9,ZM,fO,a12,vF⟩:=r;exact⟨k1.trans t,b,mb,KE,seen,st,es,ck,k4.trans a1,k3.trans a2,a3,(hR.S _ _).2 a4,a5,a6,a7,a8,fun i kv e q1 q2=>no1 (a9 i kv e q1 q2),ZM,fO,a12,fun o ho=>vF o ((hR.S b o).1 ho)⟩
end
end Go.Eng
