/- Lemmas 10. -/
import Derived.Test.YtkjhcikodmiceaaGreatDoorUA09
namespace Go.Eng
variable {x:Operand}{l:List Nat}{o:Oper}{K:St->Prop}{st:St}{d:Nat}{p:Operand}{n:Nat}{cx:Cx}{st2:St}{d':Nat}{f:ET}{σ:Ia}(ops:Array Oper)(T:FY)
section
variable {cx:Cx}{dst:Option Nat}{ty:Nat}{pos:String}{after:Array Edge}{gd:Option (Nat×Bool)}{st:St}{R:List Nat}{w:Option Nat}{K:HK}
theorem HE{d:Option Nat}{l:List Nat}(h:HD d l=some f):∃d',d=some d'/\f=(d' :: l,some d'):=by
 unfold HD at h
 grind
theorem WM{e:Nat}(hk:Fg cx true ⟨dst,.alloc e,ty,pos,after,gd⟩ st K)(hf:Ey cx ⟨dst,.alloc e,ty,pos,after,gd⟩ st=some (R,w)):Cs cx ⟨dst,.alloc e,ty,pos,after,gd⟩ st R w K:=by
 simp only[Fg]at hk;have hb:Nat.beq e Wi=false:=by
  grind [Ey]
 simp only[Ey,hb]at hf;obtain⟨d,rfl,e0⟩:=HE hf;cases e0;unfold QS at hk;simp only[hb]at hk;split at hk
 .rename_i hd;split at hk
  .simp_all
  .rename_i DT;split at hk
   .rename_i ha;refine⟨_,some (d,_),hk,fun r o' e=>(by simp_all),fun st2 Gz K' h'=>?_⟩;simp only[Fg,QS];rw[Gz.h d (Ad ..),hd];simp only[ha,hb];exact h'
   simp_all
 simp_all
theorem ce{e:Nat}(hk:Fg cx true ⟨dst,.box e x,ty,pos,after,gd⟩ st K)(hf:Ey cx ⟨dst,.box e x,ty,pos,after,gd⟩ st=some (R,w)):Cs cx ⟨dst,.box e x,ty,pos,after,gd⟩ st R w K:=by
 simp only[Fg]at hk;obtain⟨d,rfl,e0⟩:=HE hf;cases e0;unfold bJ at hk;simp only at hk;split at hk
 .rename_i hd;split at hk
  .simp_all
  .rename_i DT;obtain⟨cs,c1,c2,c3⟩:=ML hk;split at c1
   .rename_i hm;refine⟨_,some (d,_),c1,fun r o' e=>(by simp_all),fun st2 Gz K' h'=>?_⟩;have hx:ev st2.t x=ev st.t x:=Gz.t x (by simp[Op.operands]);simp only[Fg,bJ];rw[Gz.h d (Ad ..),hd,hx];simp only[hm];refine c2 _ ?_;rw[c3 st.h st2.h (fun r hr=>Gz.h r (Af _ hr))];exact h'
   .rename_i hm;refine⟨_,some (d,_),c1,fun r o' e=>(by simp_all),fun st2 Gz K' h'=>?_⟩;have hx:ev st2.t x=ev st.t x:=Gz.t x (by simp[Op.operands]);simp only[Fg,bJ];rw[Gz.h d (Ad ..),hd,hx];simp only[hm];exact c2 _ h'
 simp_all
theorem OP{t n:Nat}{ps:Array (Nat×Operand)}(hk:Fg cx true ⟨dst,.buildSlice t n ps,ty,pos,after,gd⟩ st K)(hf:Ey cx ⟨dst,.buildSlice t n ps,ty,pos,after,gd⟩ st=some (R,w)) :
  Cs cx ⟨dst,.buildSlice t n ps,ty,pos,after,gd⟩ st R w K:=by
 simp only[Fg]at hk;obtain⟨d,cr,e0⟩:=HE hf;cases e0;unfold HB at hk;split at hk
 .rename_i e he;split at hk
  .rename_i h1 h2;split at hk
   .simp_all
   .rename_i k Fi;split at hk
    .rename_i hb;obtain⟨es,q1,q2⟩:=Rv hk;obtain⟨d',hd,v,x,q3,q4⟩:=Hx q1;have hd:dst.map (I8 cx)=some d':=hd;have cr:dst.map (I8 cx)=some d:=cr;rw[cr]at hd;cases hd;refine⟨v,some (d,x),q3,fun r o' e=>(by simp_all),fun st2 Gz K' h'=>?_⟩;have hx:∀p∈ps.toList,ev st2.t p.2=ev st.t p.2:=fun p hp=>Gz.t p.2 (by
      grind [Op.operands])
     simp only[Fg,HB,he,h1,h2];split
     .omega
     .rw[hb];exact q2 st2.t st2.h (fun r hr=>Gz.h r (Af _ hr)) hx _ (q4 st2.h (Gz.h d (Ad ..)) K' h')
    simp_all
  simp_all
 simp_all
theorem Qm{t:Nat}{n c:Operand}(hk:Fg cx true ⟨dst,.makeSlice t n c,ty,pos,after,gd⟩ st K)(hf:Ey cx ⟨dst,.makeSlice t n c,ty,pos,after,gd⟩ st=some (R,w)) :
  Cs cx ⟨dst,.makeSlice t n c,ty,pos,after,gd⟩ st R w K:=by
 simp only[Fg]at hk;obtain⟨d,cr,e0⟩:=HE hf;cases e0;have hn:∀st2,Alike ⟨dst,.makeSlice t n c,ty,pos,after,gd⟩ (d::[]) st st2->ev st2.t n=ev st.t n/\ev st2.t c=ev st.t c:=fun st2 ha=>⟨ha.t n (by simp[Op.operands]),ha.t c (by simp[Op.operands])⟩;unfold IA at hk;split at hk
 .rename_i e a b h1 h2 h3;split at hk
  .rename_i h4;split at hk
   .rename_i h5;split at hk
    .simp_all
    .rename_i k Fi;obtain⟨d',hd,v,x,q3,q4⟩:=Hx hk.2;have hd:dst.map (I8 cx)=some d':=hd;have cr:dst.map (I8 cx)=some d:=cr;rw[cr]at hd;cases hd;refine⟨v,some (d,x),q3,fun r o' e=>(by simp_all),fun st2 Gz K' h'=>?_⟩;simp only[Fg,IA,(hn st2 Gz).1,(hn st2 Gz).2,h1,h2,h3,h4,h5];split
     .omega
     .exact⟨hk.1,q4 st2.h (Gz.h d (Ad ..)) K' h'⟩
   simp_all
  simp_all
 simp_all
theorem To{t:Nat}{r:Option Operand}(hk:Fg cx true ⟨dst,.makeMap t r,ty,pos,after,gd⟩ st K)(hf:Ey cx ⟨dst,.makeMap t r,ty,pos,after,gd⟩ st=some (R,w)) :
  Cs cx ⟨dst,.makeMap t r,ty,pos,after,gd⟩ st R w K:=by
 cases r with
 |some r=>exact hk.elim
 |none=>
  simp only[Fg]at hk;obtain⟨d,rfl,e0⟩:=HE hf;cases e0;unfold JC at hk;simp only at hk;split at hk
  .rename_i hd;split at hk
   .rename_i h1;split at hk
    .rename_i h2;split at hk
     .rename_i h3;refine⟨_,some (d,_),hk,fun r o' e=>(by simp_all),fun st2 Gz K' h'=>?_⟩;simp only[Fg,JC];rw[Gz.h d (Ad ..),hd];simp only[h1,h2,h3];exact h'
     .rename_i h3;refine⟨_,some (d,_),hk,fun r o' e=>(by simp_all),fun st2 Gz K' h'=>?_⟩;simp only[Fg,JC];rw[Gz.h d (Ad ..),hd];simp only[h1,h2,h3];exact h'
    simp_all
   simp_all
  simp_all
theorem WN{t:Nat}(hk:Fg cx true ⟨dst,.store t p x,ty,pos,after,gd⟩ st K)(hf:Ey cx ⟨dst,.store t p x,ty,pos,after,gd⟩ st=some (R,w)) :
  Cs cx ⟨dst,.store t p x,ty,pos,after,gd⟩ st R w K:=by
 simp only[Fg]at hk;have hn:∀st2,Alike ⟨dst,.store t p x,ty,pos,after,gd⟩ R st st2->ev st2.t p=ev st.t p/\ev st2.t x=ev st.t x:=fun st2 ha=>⟨ha.t p (by simp[Op.operands]),ha.t x (by simp[Op.operands])⟩;unfold Nb at hk;split at hk
 .simp_all
 .rename_i DT;obtain⟨cs,c1,c2,c3⟩:=ML hk;simp only[Ey]at hf;split at hf
  .rename_i r off hp;split at hf
   .cases hf
   .rename_i hm;cases hf;rw[hp]at c1;simp only at c1;split at c1
    .rename_i DD hr;obtain⟨Il,hk'⟩:=c1;rw[hm]at hk';refine⟨_,some (r,_),hk',fun r o' e=>(by simp_all),fun st2 Gz K' h'=>?_⟩;simp only[Fg,Nb,(hn st2 Gz).1,(hn st2 Gz).2];refine c2 _ ?_;rw[hp];simp only[Gz.h r (Ad ..),hr,hm];exact⟨Il,h'⟩
    simp_all
  .rename_i r n sz i off hp;cases hf;rw[hp]at c1;simp only at c1;split at c1
   .rename_i GW es hr;split at c1
    .rename_i hs;obtain⟨Il,cell,e1,e2,hk'⟩:=c1;split at hk'
     .rename_i j m;refine⟨_,some (r,_),hk',fun r o' e=>(by simp_all),fun st2 Gz K' h'=>?_⟩;simp only[Fg,Nb,(hn st2 Gz).1,(hn st2 Gz).2];refine c2 _ ?_;rw[hp];simp only[Gz.h r (Ad ..),hr,hs];exact⟨Il,cell,e1,e2,h'⟩
     .rename_i NW;refine⟨_,some (r,_),hk',fun r o' e=>(by simp_all),fun st2 Gz K' h'=>?_⟩;simp only[Fg,Nb,(hn st2 Gz).1,(hn st2 Gz).2];refine c2 _ ?_;rw[hp];simp only[Gz.h r (Ad ..),hr,hs];refine⟨Il,cell,e1,e2,?_⟩;rw[c3 st.h st2.h (fun r hr=>Gz.h r (Af _ hr))];exact h'
    simp_all
   simp_all
  simp_all
theorem Qn{t:Nat}{m k:Operand}(hk:Fg cx true ⟨dst,.mapUpdate t m k x,ty,pos,after,gd⟩ st K)(hf:Ey cx ⟨dst,.mapUpdate t m k x,ty,pos,after,gd⟩ st=some (R,w)) :
  Cs cx ⟨dst,.mapUpdate t m k x,ty,pos,after,gd⟩ st R w K:=by
 simp only[Fg]at hk;have hn:∀st2,Alike ⟨dst,.mapUpdate t m k x,ty,pos,after,gd⟩ R st st2->ev st2.t m=ev st.t m/\ev st2.t k=ev st.t k/\ev st2.t x=ev st.t x:=fun st2 ha=>⟨ha.t m (by simp[Op.operands]),ha.t k (by simp[Op.operands]),ha.t x (by simp[Op.operands])⟩;simp only[Ey]at hf;split at hf
 .rename_i r hm;cases hf;unfold GD at hk;rw[hm]at hk;simp only at hk;split at hk
  .rename_i sh BF hr;unfold Ja at hk;split at hk
   .rename_i kt e h1;split at hk
    .rename_i yC h2;split at hk
     .rename_i h3;split at hk
      .rename_i kx h4;split at hk
       .rename_i h5;refine⟨_,some (r,_),hk,fun r o' e=>(by simp_all),fun st2 Gz K' h'=>?_⟩;obtain⟨n1,n2,n3⟩:=hn st2 Gz;simp only[Fg,GD,n1,n2,n3,hm,Gz.h r (Ad ..),hr,Ja,h1,h2,h3,h4,h5];rw[JM (h:=st.h) (h2:=st2.h) (fun r hr=>Gz.h r (Af _ hr))];exact h'
       simp_all
      simp_all
     simp_all
    simp_all
   simp_all
  .rename_i sh BF hr;unfold Ja at hk;split at hk
   .rename_i kt e h1;split at hk
    .rename_i yC h2;split at hk
     .rename_i h3;split at hk
      .rename_i kx h4;split at hk
       .rename_i h5;refine⟨_,some (r,_),hk,fun r o' e=>(by simp_all),fun st2 Gz K' h'=>?_⟩;obtain⟨n1,n2,n3⟩:=hn st2 Gz;simp only[Fg,GD,n1,n2,n3,hm,Gz.h r (Ad ..),hr,Ja,h1,h2,h3,h4,h5];exact h'
       simp_all
      simp_all
     simp_all
    simp_all
   simp_all
  simp_all
 simp_all
theorem aQ{A B:(AV->Prop)->Prop}(ha:Fw A)(hb:Fw B):Fw fun K=>A K\/B K:=by
 intro K hk;rcases hk with hk | hk
 .obtain⟨v,h1,h2⟩:=ha K hk<;>grind
 .obtain⟨v,h1,h2⟩:=hb K hk<;>grind
theorem RD{fn:Fn}{first cap:Array Operand}(hk:Fg cx true ⟨dst,.makeFunc fn first cap,ty,pos,after,gd⟩ st K)(hf:Ey cx ⟨dst,.makeFunc fn first cap,ty,pos,after,gd⟩ st=some (R,w)) :
  Cs cx ⟨dst,.makeFunc fn first cap,ty,pos,after,gd⟩ st R w K:=by
 simp only[Fg]at hk;simp only[Ey]at hf;cases hf;unfold JB at hk;split at hk
 .rename_i f h1;refine⟨_,none,hk,fun r o' e=>(by cases e),fun st2 Gz K' h'=>?_⟩;simp only[Fg,h1,JB]
  have:cap.toList.map (fun x=>rsv st2.h (ev st2.t x))=cap.toList.map (fun x=>rsv st.h (ev st.t x)):=BK fun x hx=>by
   rw[Gz.t x (by grind [Op.operands])];exact iN fun r hr=>Gz.h r (Xq (Ak.2 ⟨x,hx,rfl⟩) r hr)
  rw[this];exact h'
 simp_all
end
section
variable {cx:Cx}{dst:Option Nat}{ty:Nat}{pos:String}{after:Array Edge}{gd:Option (Nat×Bool)}{st:St}{R:List Nat}{w:Option Nat}{K:HK}
theorem YK{t:Nat}(hk:Fg cx true ⟨dst,.load t p,ty,pos,after,gd⟩ st K)(hf:Ey cx ⟨dst,.load t p,ty,pos,after,gd⟩ st=some (R,w)):Cs cx ⟨dst,.load t p,ty,pos,after,gd⟩ st R w K:=by
 simp only[Fg]at hk;have hn:∀st2,Alike ⟨dst,.load t p,ty,pos,after,gd⟩ R st st2->ev st2.t p=ev st.t p:=fun st2 ha=>ha.t p (by simp[Op.operands]);simp only[Ey]at hf;unfold Iz at hk;split at hf
 .grind [JI,Fg,Iz,Cs.pick]
 .grind [JI,Fg,Iz,List.mem_cons_self,Cs.pick,Alike.h]
 .rename_i r n sz i off hp;cases hf;rw[hp]at hk;simp only at hk;split at hk
  all_goals grind [JI,Fg,Iz,Cs.pick,Alike.h]
 simp_all
theorem Vi(hk:Fg cx true ⟨dst,.assign x,ty,pos,after,gd⟩ st K)(hf:Ey cx ⟨dst,.assign x,ty,pos,after,gd⟩ st=some (R,w)):Cs cx ⟨dst,.assign x,ty,pos,after,gd⟩ st R w K:=by
 simp only[Fg]at hk;have hn:∀st2,Alike ⟨dst,.assign x,ty,pos,after,gd⟩ R st st2->ev st2.t x=ev st.t x:=fun st2 ha=>ha.t x (by simp[Op.operands]);simp only[Ey]at hf;split at hf
 .cases hf
 .rename_i hx;cases hf;have same:∃y,∀(h:Nat->HO) (K:HK),Ns cx dst h (ev st.t x) K↔K y h:=by
   unfold Ns;cases dst with
   |none=>exact⟨_,fun _ _=>Iff.rfl⟩
   |some d=>
    simp only;cases Gf cx.pl.tok d with
    |some sz=>
     simp only;cases Nat.beq sz 0 with
     |true=>exact⟨_,fun _ _=>Iff.rfl⟩
     |false=>
      refine⟨ev st.t x,fun h K=>?_⟩;simp_all
    |none=>
     simp only;cases Gf cx.pl.arr d with
     |some sz=>
      refine⟨ev st.t x,fun h K=>?_⟩;simp_all
     |none=>exact⟨_,fun _ _=>Iff.rfl⟩
  obtain⟨y,same⟩:=same;exact .pick (Ch y) ((same _ _).1 hk) fun st2 ha K' h=>by grind [Fg]
theorem PO{t:Nat}{lo hi mx:Option Operand}(hp:QW cx.pl.tok dst=none)(hk:Fg cx true ⟨dst,.slice t x lo hi mx,ty,pos,after,gd⟩ st K)(hf:Ey cx ⟨dst,.slice t x lo hi mx,ty,pos,after,gd⟩ st=some (R,w)) :
  Cs cx ⟨dst,.slice t x lo hi mx,ty,pos,after,gd⟩ st R w K:=by
 simp only[Fg,hp]at hk;have hn:∀st2,Alike ⟨dst,.slice t x lo hi mx,ty,pos,after,gd⟩ R st st2->ev st2.t x=ev st.t x/\Ce st2.t lo=Ce st.t lo/\Ce st2.t hi=Ce st.t hi/\Ce st2.t mx=Ce st.t mx:=by
  grind [Option,Ce,Op.operands,Alike.t]
 simp only[Ey,hp]at hf;split at hf
 .cases hf
 .rename_i hx;cases hf;have e3:Ce st.t none=some none:=rfl
  have Vn:Fw (fun K1=>Hr cx dst st.h t (ev st.t x) (Ce st.t lo) (Ce st.t hi) (some none) fun v _=>K1 v) /\
    ∀(h:Nat->HO) (K:HK),Hr cx dst h t (ev st.t x) (Ce st.t lo) (Ce st.t hi) (some none) K↔Hr cx dst st.h t (ev st.t x) (Ce st.t lo) (Ce st.t hi) (some none) (fun v _=>K v h):=by
   generalize ev st.t x=X at hx;unfold Hr;constructor
   .repeat' split
    all_goals first | exact BV | exact Da (Ch _) | exact Da (Da (Ch _)) | skip
    all_goals first | (rename_i e;cases e;done) | skip
    all_goals (exfalso;exact hx _ _ rfl)
   .intro h K
    repeat' split
    all_goals simp_all
    all_goals simp_all
  grind [Fg,Cs.pick]
 .rename_i y tk es hx;obtain⟨d,rfl,e0⟩:=HE hf;cases e0;rw[hx]at hk;unfold Hr at hk;split at hk
  .rename_i Hh Ng mX e1 e2 e3;split at hk
   .simp_all
   .rename_i e he;split at hk
    .simp_all
    .rename_i k Fi;simp only at hk;split at hk
     .grind [Ce]
     .rename_i m;split at hk
      .rename some d=some _=>e5
       cases e5
       split at hk
       .rename_i oe;refine⟨_,none,hk.2.2,fun r o' e=>(by cases e),fun st2 Gz K' h'=>?_⟩;obtain⟨n1,n2,n3,n4⟩:=hn st2 Gz;simp only[Fg,hp];rw[n1,n2,n3,n4,hx,e1,e2,e3];unfold Hr;simp only[he];split
        .omega
        .simp only[oe];exact⟨hk.1,hk.2.1,h'⟩
       rename_i oe;split at hk
       .rename_i hd;refine⟨_,some (d,_),hk.2.2,fun r o' e=>(by simp_all),fun st2 Gz K' h'=>?_⟩;obtain⟨n1,n2,n3,n4⟩:=hn st2 Gz;simp only[Fg,hp];rw[n1,n2,n3,n4,hx,e1,e2,e3];unfold Hr;simp only[he];split
        .omega
        .simp only[oe];rw[Gz.h d (Ad ..),hd];exact⟨hk.1,hk.2.1,h'⟩
       simp_all
      simp_all
   simp_all
  simp_all
 simp_all
theorem cg{t:Nat}{lo hi mx:Option Operand}{p:Nat}(hp:QW cx.pl.tok dst=some p)(hk:Fg cx true ⟨dst,.slice t x lo hi mx,ty,pos,after,gd⟩ st K)(hf:Ey cx ⟨dst,.slice t x lo hi mx,ty,pos,after,gd⟩ st=some (R,w)) :
  Qy cx ⟨dst,.slice t x lo hi mx,ty,pos,after,gd⟩ st R w K:=by
 simp only[Fg,hp]at hk;simp only[Ey,hp]at hf;obtain⟨d',r,n,hd,hx,e0⟩:=YI hf;cases e0;cases dst with
 |none=>cases hd
 |some d=>
 cases hd
 unfold SA at hk;split at hk
 .rw[hx]at hk;unfold iz at hk;split at hk
  .rename_i d0 Ng e1 e2;cases e1;split at hk
   .rename_i e he;split at hk
    .simp_all
    .rename_i k Fi;simp only at hk;split at hk
     .rename_i sz es hr;split at hk
      .rename_i hd;split at hk
       .rename_i q1 q3;obtain⟨h1,hk⟩:=hk;have hr8:r<10000000/\0<I8 cx d:=by simp_all
        obtain⟨hr7,hz⟩:=hr8;refine⟨_,[(r,.dead),(I8 cx d,_)],hk,fun r' o' e=>?_,fun st2 ha K' h'=>?_⟩
        .rcases AA.1 e with e | e
         .cases e
          refine⟨.inr (.inl ⟨by omega,.inl ?_⟩),Ad ..⟩;omega
         .obtain e:=AB.1 e;cases e;refine⟨.inr (.inl ⟨by omega,.inr ?_⟩),Af _ (Ad ..)⟩;omega
        .have o1:Ce st2.t hi=Ce st.t hi:=by
          cases hi<;>grind [Ce,Op.operands,Alike.t]
         simp only[Fg,hp];unfold SA;rw[ha.t x (by simp[Op.operands]),o1,hx,e2];unfold iz;simp only[he];split
         .omega
         .simp only[ha.h r (Ad ..),hr,ha.h (I8 cx d) (Af _ (Ad ..)),hd,q1,q3];exact⟨h1,h'⟩
       simp_all
      simp_all
     simp_all
   simp_all
  simp_all
 simp_all
theorem Vh{s:Operand}{Gw:Array TypeId}(hk:Fg cx true ⟨dst,.call ⟨.builtin .append,#[s,x],Gw⟩,ty,pos,after,gd⟩ st K)(hf:Ey cx ⟨dst,.call ⟨.builtin .append,#[s,x],Gw⟩,ty,pos,after,gd⟩ st=some (R,w)) :
  Cs cx ⟨dst,.call ⟨.builtin .append,#[s,x],Gw⟩,ty,pos,after,gd⟩ st R w K:=by
 have hk:Fl cx dst st.h .append Gw.toList [ev st.t s,ev st.t x] K:=hk;have hf:Vg cx dst (ev st.t s) (ev st.t x)=some (R,w):=hf;have hn:∀st2,Alike ⟨dst,.call ⟨.builtin .append,#[s,x],Gw⟩,ty,pos,after,gd⟩ R st st2->ev st2.t s=ev st.t s/\ev st2.t x=ev st.t x:=fun st2 ha=>
  ⟨ha.t s (by simp[Op.operands,Call.operands]),ha.t x (by simp[Op.operands,Call.operands])⟩
 have La:∀st2,Alike ⟨dst,.call ⟨.builtin .append,#[s,x],Gw⟩,ty,pos,after,gd⟩ R st st2->∀K' : HK,Fl cx dst st2.h .append Gw.toList [ev st.t s,ev st.t x] K'->Fg cx true ⟨dst,.call ⟨.builtin .append,#[s,x],Gw⟩,ty,pos,after,gd⟩ st2 K':=by
  intro st2 ha K' h;rw[<-(hn st2 ha).1,<-(hn st2 ha).2]at h;exact h
 generalize Gw.toList=l at hk La
 match l,hk,La with
 | [t,t'],hk,La=>
  simp only[Fl]at hk La;split at hk
  .rename_i ht;simp only[ht]at La;unfold Hs at hk La;split at hk
   .rename_i e he;simp only[he]at La;split at hk
    .simp_all
    .rename_i hz;simp only[hz]at La;split at hk
     .simp_all
     .rename_i k Fi;obtain⟨es2,q1,q2⟩:=YA hk;have gD:∀d,R=d::cW (ev st.t x)->∀st2,Alike ⟨dst,.call ⟨.builtin .append,#[s,x],Gw⟩,ty,pos,after,gd⟩ R st st2->∀r n,ev st.t x=.msl r n->st2.h r=st.h r:=fun d hR st2 ha r n e=>ha.h r (by rw[hR,e];simp[cW]);unfold Vg at hf;split at hf
      .rename_i hs;obtain⟨d,cr,e0⟩:=HE hf;cases e0;rw[hs]at q1 La;simp only at q1 La;obtain⟨d',hd,v,y,q3,q4⟩:=Hx q1.2;rw[cr]at hd;cases hd;refine⟨v,some (d,y),q3,fun r o' e=>(by simp_all),fun st2 Gz K' h'=>La st2 Gz K' ?_⟩;split
       .omega
       .exact q2 st2.h (gD d rfl st2 Gz) _ ⟨q1.1,q4 st2.h (Gz.h d (Ad ..)) K' h'⟩
      .rename_i GW es hs;obtain⟨d,cr,e0⟩:=HE hf;cases e0;rw[hs]at q1 La;simp only at q1 La;split at q1
       .rename_i h1;obtain⟨d',hd,v,y,q3,q4⟩:=Hx q1.2;rw[cr]at hd;cases hd;refine⟨v,some (d,y),q3,fun r o' e=>(by simp_all),fun st2 Gz K' h'=>La st2 Gz K' ?_⟩;split
        .omega
        .refine q2 st2.h (gD d rfl st2 Gz) _ ?_;simp only[h1];exact⟨q1.1,q4 st2.h (Gz.h d (Ad ..)) K' h'⟩
       simp_all
      .rename_i r GW es hs;cases hf;rw[hs]at q1 La;simp only at q1 La;split at q1
       .rename_i sz n hr;split at q1
        .rename_i h1 h2;refine⟨_,some (r,_),q1.2,fun r o' e=>(by simp_all),fun st2 Gz K' h'=>La st2 Gz K' ?_⟩;split
         .omega
         .refine q2 st2.h (gD r rfl st2 Gz) _ ?_;simp only[Gz.h r (Ad ..),hr,h1,h2];exact⟨q1.1,h'⟩
        simp_all
       simp_all
      .rename_i r n hs;cases hf;rw[hs]at q1 La;simp only at q1 La;split at q1
       .rename_i sz es hr;split at q1
        .rename_i h1;refine⟨_,some (r,_),q1.2,fun r o' e=>(by simp_all),fun st2 Gz K' h'=>La st2 Gz K' ?_⟩;split
         .omega
         .refine q2 st2.h (gD r rfl st2 Gz) _ ?_;simp only[Gz.h r (Ad ..),hr,h1];exact⟨q1.1,h'⟩
        simp_all
       simp_all
      simp_all
   simp_all
  simp_all
 | [],hk,_=>exact hk.elim
 | [_],hk,_=>exact hk.elim
 |_::_::_::_,hk,_=>exact hk.elim
theorem Pd(t:Nat):Fw (Je T t):=by
 unfold Je
 repeat' split
 all_goals first | exact BV | exact Ch _
theorem Sx(ty:Nat)(ok:Bool)(BF:List (Value×AV))(kx:Value):Fw (K6 T ty ok BF kx):=by
 unfold K6
 repeat' split
 .refine aQ (Oh fun a=>Da (Ch _)) (Da ?_);intro K hk;obtain⟨v,h1,h2⟩:=Pd T _ _ hk<;>grind [Pd]
 .exact aQ (Oh fun a=>Da (Ch _)) (Da (Pd T _))
 .exact BV
theorem XL(ty:Nat)(sh:D7)(k:AV){F:Value->(AV->Prop)->Prop}(h:∀x,Fw (F x)):Fw fun K=>Ja T ty sh k fun kx=>F kx K:=by
 unfold Ja
 repeat' split
 all_goals grind [BV]
theorem Vj{t:Nat}{m k:Operand}{ok:Bool}(hk:Fg cx true ⟨dst,.lookup t m k ok,ty,pos,after,gd⟩ st K)(hf:Ey cx ⟨dst,.lookup t m k ok,ty,pos,after,gd⟩ st=some (R,w)) :
  Cs cx ⟨dst,.lookup t m k ok,ty,pos,after,gd⟩ st R w K:=by
 simp only[Fg]at hk;have hn:∀st2,Alike ⟨dst,.lookup t m k ok,ty,pos,after,gd⟩ R st st2->ev st2.t m=ev st.t m/\ev st2.t k=ev st.t k:=fun st2 ha=>⟨ha.t m (by simp[Op.operands]),ha.t k (by simp[Op.operands])⟩;simp only[Ey]at hf;unfold LW at hk;split at hf
 .rename_i sh BF hm;cases hf;rw[hm]at hk;simp only at hk;exact .pick (XL _ _ _ _ fun _=>Sx _ _ _ _ _) hk fun st2 ha K' h=>by grind [Fg,LW]
 .rename_i r hm;cases hf;rw[hm]at hk;simp only at hk;split at hk
  all_goals first | exact hk.elim | (rename_i e;exact .pick (XL _ _ _ _ fun _=>Sx _ _ _ _ _) hk fun st2 ha K' h=>by grind [Fg,LW,Alike.h])
 simp_all
theorem iw(t:Nat)(h:Nat->HO)(x:AV):Fw (PS T t h x):=by
 unfold PS
 repeat' split
 all_goals first | exact BV | exact Ch _
theorem oV{T:FY}{t:Nat}{h h2:Nat->HO}{x:AV}(e:∀r,x=.mref r->h2 r=h r){K:AV->Prop}:PS T t h2 x K=PS T t h x K:=by
 cases x<;>first | rfl | skip
 grind [PS]
theorem cf{Gw:Array TypeId}(hk:Fg cx true ⟨dst,.call ⟨.builtin .len,#[x],Gw⟩,ty,pos,after,gd⟩ st K)(hf:Ey cx ⟨dst,.call ⟨.builtin .len,#[x],Gw⟩,ty,pos,after,gd⟩ st=some (R,w)) :
  Cs cx ⟨dst,.call ⟨.builtin .len,#[x],Gw⟩,ty,pos,after,gd⟩ st R w K:=by
 have hk:Fl cx dst st.h .len Gw.toList [ev st.t x] K:=hk;have hf:Gp cx dst (.builtin .len) st.t [ev st.t x]=some (R,w):=hf;have hn:∀st2,Alike ⟨dst,.call ⟨.builtin .len,#[x],Gw⟩,ty,pos,after,gd⟩ R st st2->ev st2.t x=ev st.t x:=fun st2 ha=>ha.t x (by simp[Op.operands,Call.operands]);have La:∀st2,Alike ⟨dst,.call ⟨.builtin .len,#[x],Gw⟩,ty,pos,after,gd⟩ R st st2->∀K' : HK,Fl cx dst st2.h .len Gw.toList [ev st.t x] K'->Fg cx true ⟨dst,.call ⟨.builtin .len,#[x],Gw⟩,ty,pos,after,gd⟩ st2 K':=by
  intro st2 ha K' h;rw[<-hn st2 ha]at h;exact h
 generalize Gw.toList=l at hk La
 match l,hk,La with
 | [t],hk,La=>
  grind [Gp,iw,Fl,oV,Cs.pick,Alike.h]
 | [],hk,_=>exact hk.elim
 |_::_::_,hk,_=>exact hk.elim
end
theorem lj(h:HR l n=true):n∈l:=by
 induction l<;>grind [HR,CX]
theorem Ww(G:Nat->HO):∀(σ:Ia) (h:Nat->HO),DM σ=true->(fun i=>match BY σ i with | some j=>G j | none=>h i)=Hm h (σ.map fun p=>(p.1,G p.2))
 | [],h,_=>rfl
 |(i,j)::r,h,hσ=>by
  unfold DM at hσ;simp only[Ag]at hσ;have ih:=Ww G r (Az h i (G j)) hσ.2
  grind [Hm,Az,BY,CX]
theorem TR(hσ:DM σ=true){h h' : Nat->HO}:Dx σ d 0 h h'=Hm h (σ.map fun p=>(p.1,(h' p.2).ren (ED σ d 0) h')):=by
 rw[<-Ww (fun j=>(h' j).ren (ED σ d 0) h') σ h hσ]
 grind [Dx,Nat.blt,Nat.ble_eq]
section
variable {cx:Cx}{op:Op}{dst:Option Nat}{ty:Nat}{pos:String}{after:Array Edge}{gd:Option (Nat×Bool)}{st:St}{R:List Nat}{w:Option Nat}{K:HK}
theorem Cs.toL(h:Cs cx ⟨dst,op,ty,pos,after,gd⟩ st R w K):Qy cx ⟨dst,op,ty,pos,after,gd⟩ st R w K:=by
 obtain⟨v,e,h1,h2,h3⟩:=h;cases e with
 |none=>exact⟨v,[],h1,fun r o' e=>(by cases e),h3⟩
 |some p=>exact⟨v,[p],h1,fun r o' e=>by
   obtain rfl:=AB.1 e;obtain⟨a,b⟩:=h2 r o' rfl;exact⟨by rw[a];exact .inl rfl,b⟩,h3⟩
theorem YJ{c:Call}(hk:Fg cx true ⟨dst,.call c,ty,pos,after,gd⟩ st K)(hf:Ey cx ⟨dst,.call c,ty,pos,after,gd⟩ st=some (R,w)):Qy cx ⟨dst,.call c,ty,pos,after,gd⟩ st R w K:=by
 obtain⟨pF,args,Gw⟩:=c;have H6:∀st2,Alike ⟨dst,.call ⟨pF,args,Gw⟩,ty,pos,after,gd⟩ R st st2->args.toList.map (ev st2.t)=args.toList.map (ev st.t):=fun st2 ha=>
  BK fun x hx=>ha.t x (by grind [Op.operands,Call.operands])
 cases pF with
 |invoke r m=>exact hk.elim
 |value f=>
  have hk:FM cx true dst st (ev st.t f) (args.toList.map (ev st.t)) K:=hk;have hf:Gp cx dst (.value f) st.t (args.toList.map (ev st.t))=some (R,w):=hf;unfold Gp at hf;unfold FM at hk;simp only at hf hk;have hn:=H6;split at hf
  .rename_i ap;rw[ap]at hk;cases hf;obtain⟨res,h1,h2⟩:=hk;refine Cs.toL ⟨res,none,h2,fun r o' e=>(by cases e),fun st2 ha K' h'=>?_⟩;show FM cx true dst st2 (ev st2.t f) (args.toList.map (ev st2.t)) K';rw[H6 st2 ha,ha.t f (by simp[Op.operands,Call.operands])];unfold FM;simp only[ap];refine⟨res,?_,h'⟩
   grind [JM,Pv,Alike.h]
  .rename_i ap;rw[ap]at hk;simp only at hk;cases dst with
   |none=>simp_all
   |some d=>
    obtain⟨n,sz,es,h1,h2,h3⟩:=hk;have hf:some (Bl d 0::(W5 (ev st.t f)++RS (args.toList.map (ev st.t))),some (Bl d 0))=some (R,w):=hf;cases hf;refine Cs.toL ⟨_,some (Bl d 0,_),h3,fun r o' e=>(by simp_all),fun st2 ha K' h'=>?_⟩;show FM cx true (some d) st2 (ev st2.t f) (args.toList.map (ev st2.t)) K';rw[H6 st2 ha,ha.t f (by simp[Op.operands,Call.operands])];unfold FM;simp only[ap];refine⟨n,sz,es,?_,?_,h'⟩
    all_goals grind [Du,JM,Pv,Alike.h]
  .rename_i ap;rw[ap]at hk;have hk:Qg cx 0 dst st.h (ev st.t f) (args.toList.map (ev st.t)) K:=hk;split at hf
   .rename_i r n l hl;cases hf;have Vn:=hk;unfold Qg at Vn;rw[hl]at Vn;split at Vn
    .rename_i d0 f0 r0 n0 l0 e1 e2 z1 z2;cases e2;split at Vn
     .rename_i vs ay;split at Vn
      .rename_i sz es hr;obtain⟨n',EZ,h1,h2⟩:=Vn;refine Cs.toL ⟨_,some (r,_),h2,fun r o' e=>(by simp_all),fun st2 ha K' h'=>?_⟩;show FM cx true _ st2 (ev st2.t f) (args.toList.map (ev st2.t)) K';rw[H6 st2 ha,ha.t f (by simp[Op.operands,Call.operands]),hl,e1];unfold FM;simp only[ap];unfold Qc;simp only;unfold Qg;simp only[ay,ha.h r (Ad ..),hr];exact⟨n',EZ,h1,h'⟩
      simp_all
     simp_all
    simp_all
   simp_all
  .rename_i k ap;rw[ap]at hk;cases hb:Nat.beq k 1 with
   |true=>
    have gg:Nat.beq (k+1) 2=true:=hb;have hk:VS cx dst st (ev st.t f) (args.toList.map (ev st.t)) K:=by
     simp_all
    rw[hb]at hf;cases dst with
    |none=>exact hk.elim
    |some d=>
     obtain⟨sz,es,h1,h2,h3⟩:=hk;have hf:some (Bl d 0::(W5 (ev st.t f)++RS (args.toList.map (ev st.t))),some (Bl d 0))=some (R,w):=hf;cases hf;refine Cs.toL ⟨_,some (Bl d 0,_),h3,fun r o' e=>(by simp_all),fun st2 ha K' h'=>?_⟩;show FM cx true (some d) st2 (ev st2.t f) (args.toList.map (ev st2.t)) K';rw[H6 st2 ha,ha.t f (by simp[Op.operands,Call.operands])];unfold FM;simp only[ap,gg];refine⟨sz,es,?_,?_,h'⟩
     all_goals grind [Du,JM,Pv,Alike.h]
   |false=>
    have gg:Nat.beq (k+1) 2=false:=hb;rw[hb]at hf;have Vn:(match Nat.beq (k+1) 2 with | true=>VS cx dst st (ev st.t f) (args.toList.map (ev st.t)) K | false=>match Nat.beq (k+1) 3 with | true=>Ta cx dst st (ev st.t f) (args.toList.map (ev st.t)) K | false=>Qc cx (k+1) dst st (ev st.t f) (args.toList.map (ev st.t)) K):=hk;rw[gg]at Vn;cases hc:Nat.beq k 2 with
    |true=>
     have rj:Nat.beq (k+1) 3=true:=hc;rw[hc]at hf;simp only[rj]at Vn;have hf:fP (args.toList.map (ev st.t))=some (R,w):=hf;unfold fP at hf;unfold Ta at Vn;split at hf
     .rename_i vs ay;cases hf;split at Vn
      .rename_i l d8 e1 e2 z1 z2;rw[ay]at e2;cases e2;split at Vn
       .rename_i r sz es bi n e3 e4;obtain⟨⟨rfl,rfl⟩,v,EZ,n',h1,h2⟩:=Vn;refine⟨_,[(1001,_),(1000,_)],h2,fun r' o' e=>?_,fun st2 ha K' h'=>?_⟩
        .rcases AA.1 e with e | e
         .cases e
          exact⟨.inr (.inl ⟨by decide,.inr Wk⟩),by simp⟩
         .obtain e:=AB.1 e;cases e;exact⟨.inr (.inl ⟨by decide,.inl Wk⟩),by simp⟩
        show FM cx true _ st2 (ev st2.t f) (args.toList.map (ev st2.t)) K';rw[H6 st2 ha,ha.t f (by simp[Op.operands,Call.operands]),e1];unfold FM;simp only[ap,gg,rj];unfold Ta;simp only[ay,ha.h 1000 B0,ha.h 1001 B0,e3,e4];exact⟨⟨trivial,trivial⟩,v,EZ,n',h1,h'⟩
       simp_all
      simp_all
     simp_all
    |false=>
    have rj:Nat.beq (k+1) 3=false:=hc;rw[hc]at hf;have cu:Qc cx (k+1) dst st (ev st.t f) (args.toList.map (ev st.t)) K:=by
     simp_all
    have oo:fN k dst (args.toList.map (ev st.t))=some (R,w):=hf;unfold fN at oo;unfold Qc at cu;cases he:Nat.beq k 3 with
    |true=>
     have js:Nat.beq (k+1) 4=true:=he;rw[he]at oo;rw[js]at cu;have oo:some (kf,some UW)=some (R,w):=oo;have cu:WR cx dst st (ev st.t f) (args.toList.map (ev st.t)) K:=cu;cases oo;unfold WR at cu;split at cu
     .rename_i d f' caps e2 _ _ _;obtain⟨σ,H0,Hn,args',res,g1,g2,g3,g4⟩:=cu;simp only[Ag]at g2;refine⟨_,σ.map fun p=>(p.1,(Ae Hn Ab p.2).ren (ED σ d 0) (Ae Hn Ab)),(TR (h:=st.h) (h':=Ae Hn Ab) (d:=d) g2.1.1)▸g4,fun r' o' e=>?_,fun st2 ha K' h'=>?_⟩
      .obtain⟨p,hp,e⟩:=Ak.1 e;cases e;exact⟨.inr (.inr rfl),lj (AF.1 g2.2 p hp)⟩
      .show FM cx true _ st2 (ev st2.t f) (args.toList.map (ev st2.t)) K';rw[H6 st2 ha,ha.t f (by simp[Op.operands,Call.operands])];unfold FM;simp only[ap,gg,rj];unfold Qc;simp only[js];unfold WR
       grind [TR,Alike.h]
     simp_all
    |false=>
    have js:Nat.beq (k+1) 4=false:=he;rw[he]at oo;rw[js]at cu;have hf:ab dst (args.toList.map (ev st.t))=some (R,w):=oo;have hk:Qg cx (k+1) dst st.h (ev st.t f) (args.toList.map (ev st.t)) K:=cu;obtain⟨d,r,n,l,rfl,hl,e0⟩:=YH hf;cases e0;unfold Qg at hk;rw[hl]at hk;split at hk
    .rename_i d0 f0 r0 n0 l0 e9 e1 e2;cases e9;cases e2;split at hk
     .rename_i vs ay;split at hk
      .rename_i sz es hr;obtain⟨n',EZ,h0,h1,h2⟩:=hk;have h00:=h0;simp only[Ag,CJ]at h00;refine⟨_,[(r,.dead),(Bl d 0,_)],h2,fun r' o' e=>?_,fun st2 ha K' h'=>?_⟩
       .rcases AA.1 e with e | e
        .cases e
         refine⟨.inr (.inl ⟨by grind [Bl],.inl ?_⟩),Ad ..⟩;omega
        .obtain e:=AB.1 e;cases e;refine⟨.inr (.inl ⟨by grind [Bl],.inr ?_⟩),Af _ (Ad ..)⟩;omega
       show FM cx true _ st2 (ev st2.t f) (args.toList.map (ev st2.t)) K';rw[H6 st2 ha,ha.t f (by simp[Op.operands,Call.operands]),hl,e1];unfold FM;simp only[ap,gg,rj];unfold Qc;simp only[js];unfold Qg;simp only[ay,ha.h r (Ad ..),hr]
       have:Du st2.h d 1=Du st.h d 1:=by grind [Du,Alike.h]
       exact⟨n',EZ,by simp_all,h1,h'⟩
      simp_all
     simp_all
    simp_all
 |builtin b=>
  refine Cs.toL ?_;have mm:∀f:Int->Int->Int,(∀(d:Option Nat) (h:Nat->HO) (Gw:List Nat) (args:List AV) (K:HK),Fl cx d h b Gw args K=(match args with | [x,y]=>ll f x y fun v=>K v h | _=>False))->R=[]/\w=none->Cs cx ⟨dst,.call ⟨.builtin b,args,Gw⟩,ty,pos,after,gd⟩ st R w K:=by
   rintro f hb ⟨rfl,rfl⟩
   have hk:Fl cx dst st.h b Gw.toList (args.toList.map (ev st.t)) K:=hk;rw[hb]at hk;split at hk
   .rename_i x y e;refine .pick (lG f x y) hk fun st2 ha K' h=>?_;show Fl cx dst st2.h b Gw.toList (args.toList.map (ev st2.t)) K';simp_all
   simp_all
  cases b
  case max=>exact mm max (fun d h Gw args K=>by cases args with | nil=>rfl | cons x l=>cases l with | nil=>rfl | cons y l=>cases l<;>rfl) (by
   have hf:Gp cx dst (.builtin .max) st.t (args.toList.map (ev st.t))=some (R,w):=hf
   grind [Gp])
  case min=>exact mm min (fun d h Gw args K=>by cases args with | nil=>rfl | cons x l=>cases l with | nil=>rfl | cons y l=>cases l<;>rfl) (by
   have hf:Gp cx dst (.builtin .min) st.t (args.toList.map (ev st.t))=some (R,w):=hf
   grind [Gp])
  case append=>
   obtain⟨l⟩:=args
   match l,hk,hf with
   | [s,x],hk,hf=>grind [Vh]
   | [],hk,hf=>cases Gw;exact hk.elim
   | [_],hk,hf=>exact hk.elim
   |_::_::_::_,hk,hf=>exact hk.elim
  case len=>
   obtain⟨l⟩:=args
   match l,hk,hf with
   | [x],hk,hf=>grind [cf]
   | [],hk,hf=>exact hk.elim
   |_::_::_,hk,hf=>exact hk.elim
  all_goals exact hk.elim
theorem Yh(hc:∀c,o.op≠.call c)(hs:(∃t x lo hi mx,o.op=.slice t x lo hi mx)->QW cx.pl.tok o.dst=none)(hk:Fg cx true o st K)(hf:Ey cx o st=some (R,w)):Cs cx o st R w K:=by
 obtain⟨dst,op,ty,pos,after,gd⟩:=o;cases op with
 |call c=>simp_all
 |alloc e=>grind [WM]
 |box e x=>grind [ce]
 |buildSlice t n ps=>grind [OP]
 |makeSlice t n c=>grind [Qm]
 |makeMap t r=>grind [To]
 |store t p x=>grind [WN]
 |mapUpdate t m k x=>grind [Qn]
 |makeFunc fn first cap=>grind [RD]
 |load t p=>grind [YK]
 |assign x=>grind [Vi]
 |slice t x lo hi mx=>grind [PO]
 |lookup t x i ok=>grind [Vj]
 |move x=>
  cases hf
  exact .pick (Ch _) hk fun st2 ha K' h=>by grind [Fg,Op.operands,Alike.t]
 |pick c a b=>
  cases hf
  exact .pick (dz _ _ _) hk fun st2 ha K' h=>by grind [Fg,Op.operands,Alike.t]
 |nilCheck x=>
  grind [iy,Fg,Op.operands,Cs.pick,Alike.t]
 |binOp op t x y u=>
  simp only[Ey]at hf;split at hf
  .cases hf
  .rename_i hx;cases hf;exact .pick (dx _ _ _ _ _ _ hx) hk fun st2 ha K' h=>by grind [Fg,Op.operands,Alike.t]
 |unOp op t x=>
  grind [dA,Fg,Op.operands,Cs.pick,Alike.t]
 |convert s t x=>
  grind [dy,Fg,Op.operands,Cs.pick,Alike.t]
 |fieldAddr s x f=>
  grind [Zs,Fg,Op.operands,Cs.pick,Alike.t]
 |field s x f=>
  grind [XK,Fg,Op.operands,Cs.pick,Alike.t]
 |indexAddr t x i=>
  cases hf
  exact .pick (Sy _ _ _ _) hk fun st2 ha K' h=>by grind [Fg,Op.operands,Alike.t]
 |index t x i=>
  cases hf
  exact .pick (Zt _ _ _ _) hk fun st2 ha K' h=>by grind [Fg,Op.operands,Alike.t]
 |extract x i=>
  grind [VG,Fg,Op.operands,Cs.pick,Alike.t]
 |build t ps=>
  cases hf
  refine .pick (Zq _ _ _ _) hk fun st2 ha K' h=>?_;have hx:∀p∈ps.toList,ev st2.t p.2=ev st.t p.2:=fun p hp=>ha.t p.2 (by
   grind [Op.operands])
  simp only[Fg];have fill:∀(pl:Nat->Option (Nat×Nat)) (l:List (Nat×Operand)) (cs:List AV) (K:List AV->Prop),(∀p∈l,ev st2.t p.2=ev st.t p.2)->Jt pl cs st2.t l K=Jt pl cs st.t l K:=by
   intro pl l
   induction l with
   |nil=>intro cs K _;rfl
   |cons p l ih=>
    intro cs K hp;obtain⟨i,x⟩:=p;have h1:ev st2.t x=ev st.t x:=hp (i,x) (Ad ..);have h2:∀cs,Jt pl cs st2.t l K=Jt pl cs st.t l K:=fun cs=>ih cs K (fun p oF=>hp p (Af _ oF));simp only[Jt,h1,h2]
  unfold OF at h⊢;simp only[fill _ _ _ _ hx];exact h
 |_=>cases hf
theorem bC(hk:Fg cx true o st K)(hf:Ey cx o st=some (R,w)):Qy cx o st R w K:=by
 obtain⟨dst,op,ty,pos,after,gd⟩:=o
 by_cases h:∃c,op=.call c
 .grind [YJ]
 .by_cases h2:∃t x lo hi mx,op=.slice t x lo hi mx
  .obtain⟨t,x,lo,hi,mx,rfl⟩:=h2;cases hp:QW cx.pl.tok dst<;>grind [Cs.toL,PO,cg]
  grind [Cs.toL,Yh]
end
theorem cd(h:∀x∈o.op.operands,ev st2.t x=ev st.t x):Ey cx o st2=Ey cx o st:=by
 obtain⟨dst,op,ty,pos,after,gd⟩:=o;cases op with
 |call c=>
  obtain⟨pF,args,Gw⟩:=c;have ha:args.toList.map (ev st2.t)=args.toList.map (ev st.t):=BK fun x hx=>h x (by grind [Op.operands,Call.operands]);simp only[Ey];rw[ha];cases pF with
  |value f=>
   have hf:ev st2.t f=ev st.t f:=h f (by simp[Op.operands,Call.operands]);simp only[Gp,hf]
  |builtin b=>
   generalize args.toList.map (ev st.t)=l
   match l with
   | []=>cases b<;>rfl
   | [x]=>cases b<;>cases x<;>rfl
   | [x,y]=>cases b<;>cases x<;>rfl
   |x::_::_::_=>cases b<;>cases x<;>rfl
  |invoke r m=>rfl
 |box e x=>grind [Ey,Op.operands]
 |buildSlice t n ps=>
  grind [List.map_congr_left,Op.operands,Ey]
 |store t p x=>grind [Ey,Op.operands]
 |mapUpdate t m k x=>grind [Ey,Op.operands]
 |makeFunc fn first cap=>
  grind [List.map_congr_left,Op.operands,Ey]
 |load t p=>grind [Ey,Op.operands]
 |assign x=>grind [Ey,Op.operands]
 |binOp op t x y u=>grind [Ey,Op.operands]
 |slice t x lo hi mx=>grind [Ey,Op.operands]
 |lookup t x i ok=>grind [Ey,Op.operands]
 |_=>rfl
def Looks(o:Oper)(st st2:St):Prop:=∀d∈o.looksAt ops,st2.t d=st.t d
theorem Looks.operands{ops:Array Oper}{o:Oper}{st st2:St}(h:Looks ops o st st2):∀x∈o.op.operands,ev st2.t x=ev st.t x:=fun x hx=>by
 cases x with
 |tmp t=>exact h t (Bj _ (List.mem_filterMap.2 ⟨.tmp t,by simp_all,rfl⟩))
 |_=>rfl
theorem Us(j:Nat):Kf ops.toList j=(ops[j]?).bind (·.dst):=by
 have:∀(l:List Oper) (j:Nat),Kf l j=(l[j]?).bind (·.dst):=by
  intro l
  induction l with
  |nil=>grind [Kf]
  |cons o l ih=>
   intro j;cases j<;>grind [Kf]
 simp_all
theorem Looks.guard{ops:Array Oper}(h:Looks ops o st st2){j:Nat}{b:Bool}(hg:o.guard=some (j,b))(hd:Kf ops.toList j=some d):st2.t d=st.t d:=
 h d (BP _ (by grind [Us]))
def St.after(st:St)(o:Oper)(v:AV)(e:List (Nat×HO)):St:=st.put o.dst v (Hm st.h e)
def OA(cx:Cx)(ops:Array Oper)(o:Oper)(st:St)(f:ET)(v:AV)(e:List (Nat×HO)):Prop:=
 (∀r o',(r,o')∈e->QN f.2 r/\r∈f.1)/\∀st2,Looks ops o st st2->(∀r∈f.1,st2.h r=st.h r)->∀K:St->Prop,K (st2.after o v e)->H3 cx true ops.toList o st2 K
theorem RB{ops:Array Oper}(h:Looks ops o st st2):Mp cx ops.toList o st2=Mp cx ops.toList o st:=by
 grind [Mp,cd,Looks.operands,Looks.guard]
theorem Nr{ops:Array Oper}(hk:H3 cx true ops.toList o st K)(hf:Mp cx ops.toList o st=some f) :
  ∃v e,OA cx ops o st f v e/\K (st.after o v e):=by
 obtain⟨R,w⟩:=f;have skip:R=[]/\w=none->K (st.put o.dst (.v undef) st.h)->(∀st2,Looks ops o st st2->∀K:St->Prop,K (st2.put o.dst (.v undef) st2.h)->H3 cx true ops.toList o st2 K)->∃v e,OA cx ops o st (R,w) v e/\K (st.after o v e):=by
  rintro⟨rfl,rfl⟩ h1 h2
  exact⟨.v undef,[],⟨fun r o' e=>(by cases e),fun st2 hl _ K h=>h2 st2 hl K h⟩,h1⟩
 have run:Ey cx o st=some (R,w)->Fg cx true o st (fun v h=>K (st.put o.dst v h))->(∀st2,Looks ops o st st2->∀K:St->Prop,Fg cx true o st2 (fun v h=>K (st2.put o.dst v h))->H3 cx true ops.toList o st2 K)->∃v e,OA cx ops o st (R,w) v e/\K (st.after o v e):=by
  intro hf hk h2;obtain⟨v,e,q1,q2,q3⟩:=bC hk hf;exact⟨v,e,⟨q2,fun st2 hl hh K h=>h2 st2 hl K (q3 st2 ⟨hl.operands,hh⟩ _ h)⟩,q1⟩
 unfold H3 at hk;unfold Mp at hf;cases hg:o.guard with
 |none=>
  rw[hg]at hk hf;exact run hf hk (fun st2 hl K h=>by unfold H3;rw[hg];exact h)
 |some p=>
  obtain⟨j,want⟩:=p;rw[hg]at hk hf;simp only at hk hf;cases hd:Kf ops.toList j with
  |none=>simp_all
  |some d=>
   rw[hd]at hk hf;simp only at hk hf;have he:∀st2,Looks ops o st st2->st2.t d=st.t d:=fun st2 hl=>hl.guard hg hd;generalize hx:st.t d=x at hk hf he;split at hk
   .exact run hf hk (fun st2 hl K h=>by unfold H3;simp only[hg,hd,he st2 hl];exact h)
   .exact run hf hk (fun st2 hl K h=>by unfold H3;simp only[hg,hd,he st2 hl];exact h)
   all_goals grind [H3]
def qd(cx:Cx)(ops:Array Oper)(FT:Nat->ET)(i:Nat)(K:St->Prop)(st:St):Prop:=
 match ops[i]? with
 |none=>K st
 |some o=>Mp cx ops.toList o st=some (FT i)/\H3 cx true ops.toList o st K
def V9(cx:Cx)(ops:Array Oper)(FT:Nat->ET)(K:St->Prop):Nat->Array Bool->St->Prop
 |0,listed,st=>Region.ready .any ops listed=[]/\K st
 |fuel+1,listed,st=>
  (Region.ready .any ops listed=[]->K st)/\∀i∈Region.ready .any ops listed,qd cx ops FT i (V9 cx ops FT K fuel (listed.setIfInBounds i true)) st
theorem dT(t:Nat->AV)(h:d'≠d)(v v' : AV):IG (IG t d v) d' v'=IG (IG t d' v') d v:=by
 grind [IG,CX]
theorem cz(t:Nat->HO)(h:d'≠d)(v v' : HO):Az (Az t d v) d' v'=Az (Az t d' v') d v:=by
 grind [Az,CX]
theorem Xp(h:n∈l):HR l n=true:=by
 induction l<;>grind [HR,Nat.beq_refl]
theorem Xs(h:HR l n=true):n∈l:=by
 induction l<;>grind [HR,CX]
theorem XF{x:Nat}(h:XD l x=true):∀r,QN (some x) r->r∉l:=by
 intro r hc hr;unfold XD at h
 by_cases hx:x=UW
 .subst hx;rw[Nat.beq_refl,cond_true]at h;cases l with
  |nil=>cases hr
  |cons a l=>cases h
 rw[CX hx,F0]at h;simp only[Ag,IH,EQ,CJ]at h;rcases hc with rfl | ⟨h1,h2⟩ | hc<;>grind [Xp]
theorem bU{a b:ET}(h:Rm a b=true):(∀r,QN a.2 r->r∉b.1)/\∀r,QN b.2 r->r∉a.1:=by
 obtain⟨a1,a2⟩:=a;obtain⟨b1,b2⟩:=b;simp only[Rm,Ag]at h;refine⟨fun r e=>?_,fun r e=>?_⟩
 .cases a2 with
  |none=>exact e.elim
  |some x=>grind [XF]
 .cases b2 with
  |none=>exact e.elim
  |some x=>grind [XF]
section
variable {cx:Cx}{ops:Array Oper}{FT:Nat->ET}
theorem PU{oi oj:Oper}(h:∀d,oi.dst=some d->d∉oj.looksAt ops)(st:St)(v:AV)(e:List (Nat×HO)):Looks ops oj st (st.after oi v e):=by
 intro d hd;cases hdst:oi.dst with
 |none=>grind [St.after,St.put]
 |some d'=>
  have:d≠d':=fun q=>h d' hdst (q▸hd)
  simp[St.after,St.put,hdst,IG,CX this]
theorem Looks.symm{o:Oper}{st st2:St}(h:Looks ops o st st2):Looks ops o st2 st:=fun d hd=>(h d hd).symm
theorem aj{o:Oper}{v:AV}{e:List (Nat×HO)}:(st.after o v e).h=Hm st.h e:=by
 unfold St.after St.put;grind
theorem OL{r:Nat}:∀{e:List (Nat×HO)} {h:Nat->HO},(∀o',(r,o')∉e)->Hm h e r=h r
 | [],_,_=>rfl
 |p::e,h,hr=>by
  have:r≠p.1:=fun q=>hr p.2 (by simp_all)
  show Hm (Az h p.1 p.2) e r=h r;rw[OL fun o' ho=>hr o' (Af _ ho),BB _ _ _ _ this]
theorem Wx{r:Nat}{o:HO}:∀{e:List (Nat×HO)} {h:Nat->HO},(∀r' o',(r',o')∈e->r'≠r)->Hm (Az h r o) e=Az (Hm h e) r o
 | [],_,_=>rfl
 |p::e,h,hr=>by
  show Hm (Az (Az h r o) p.1 p.2) e=Az (Hm (Az h p.1 p.2) e) r o;rw[cz h (hr p.1 p.2 (Ad ..)),Wx fun r' o' ho=>hr r' o' (Af _ ho)]
theorem T6:∀{e e' : List (Nat×HO)} {h:Nat->HO},(∀r o r' o',(r,o)∈e->(r',o')∈e'->r'≠r)->Hm (Hm h e) e'=Hm (Hm h e') e
 | [],_,_,_=>rfl
 |p::e,e',h,hd=>by
  show Hm (Hm (Az h p.1 p.2) e) e'=Hm (Az (Hm h e') p.1 p.2) e;rw[<-Wx fun r' o' ho=>hd p.1 p.2 r' o' (Ad ..) ho,T6 fun r o r' o' h1 h2=>hd r o r' o' (Af _ h1) h2]
theorem Yg{oi oj:Oper}{v v' : AV}{e e' : List (Nat×HO)}(h1:∀d,oi.dst=some d->oj.dst≠some d)(h2:∀r o r' o',(r,o)∈e->(r',o')∈e'->r'≠r) :
  (st.after oi v e).after oj v' e'=(st.after oj v' e').after oi v e:=by
 have hh:Hm (Hm st.h e) e'=Hm (Hm st.h e') e:=T6 h2;have key:∀o:Oper,∀v e,∀st:St,st.after o v e=⟨match o.dst with | none=>st.t | some d=>IG st.t d v,Hm st.h e⟩:=fun o v e st=>by
  grind [St.after,St.put]
 grind [dT]
theorem Ye{i:Nat}{oi:Oper}{v:AV}{e:List (Nat×HO)}(hi:ops[i]?=some oi)(D:Nat->Prop)(hD:∀j,D j->∃oj,ops[j]?=some oj/\∃ed∈oj.after,Region.binds .any ed=true/\(ed.on=i\/D ed.on)) :
  ∀(fuel:Nat) (listed:Array Bool) (st:St),
   (∀j oj,ops[j]?=some oj->j≠i->listed.getD j true=false->¬D j->oi.apart ops oj=true/\Rm (FT i) (FT j)=true) ->
   i∈Region.ready .any ops listed->(∀j,D j->listed.getD j true=false)->Mp cx ops.toList oi st=some (FT i)->OA cx ops oi st (FT i) v e ->
   V9 cx ops FT K fuel (listed.setIfInBounds i true) (st.after oi v e)->V9 cx ops FT K (fuel+1) listed st:=by
 have here:∀(fuel:Nat) (listed:Array Bool) (st:St),Mp cx ops.toList oi st=some (FT i)->OA cx ops oi st (FT i) v e ->
   V9 cx ops FT K fuel (listed.setIfInBounds i true) (st.after oi v e)->qd cx ops FT i (V9 cx ops FT K fuel (listed.setIfInBounds i true)) st:=by
  intro fuel listed st hf hy H;unfold qd;rw[hi];exact⟨hf,hy.2 st (fun _ _=>rfl) (fun _ _=>rfl) _ H⟩
 intro fuel
 induction fuel with
 |zero=>
  intro listed st _ hr _ hf hy H;refine⟨fun h=>(by simp_all),fun j hj=>?_⟩
  by_cases Jy:j=i
  .simp_all
  .have:=ready_mono hj Jy
   rw[H.1]at this;simp_all
 |succ fuel ih=>
  intro listed st Ab hr hDl hf hy H;refine⟨fun h=>(by simp_all),fun j hj=>?_⟩
  by_cases Jy:j=i
  .simp_all
  .have h1:=H.2 j (ready_mono hj Jy);obtain⟨wH,oj,oC,Gr⟩:=mem_ready.1 hj;have Ab6:∀k,listed.getD k true=false->listed.getD k false=true->False:=fun k h0 h1=>by
    grind
   have zH:¬D j:=fun wv=>by
    grind [mem_ready]
   obtain⟨tJ,wv⟩:=Ab j oj oC Jy wH zH;obtain⟨a1,a2,a3⟩:=Oper.apart_spec tJ;obtain⟨d1,d2⟩:=bU wv;unfold qd at h1⊢;rw[oC]at h1⊢;obtain⟨hfj,hkj⟩:=h1;have hlj:=PU (ops:=ops) a1 st v e;obtain⟨vj,ej,hyj,hK⟩:=Nr hkj hfj;have he1:∀r o',(r,o')∈e->r∉(FT j).1:=fun r o' q=>d1 r (hy.1 r o' q).1;have js:∀r o',(r,o')∈ej->r∉(FT i).1:=fun r o' q=>d2 r (hyj.1 r o' q).1;refine⟨by grind [RB],hyj.2 st hlj.symm (fun r W4=>?_) _ ?_⟩
   .rw[aj,OL (fun o' q=>he1 r o' q W4)]
   .have hli:=PU (ops:=ops) a3 st vj ej;refine ih (listed.setIfInBounds j true) (st.after oj vj ej) (fun k ok hk hki pW NW=>?_) (ready_mono hr (Ne.symm Jy)) (fun k hk=>?_) (by grind [RB]) ⟨hy.1,fun st2 hl hh K' h'=>?_⟩ ?_
    .by_cases rD:j=k
     .simp_all
     .rw[getD_set_ne true rD]at pW;grind
    .by_cases rD:j=k
     all_goals simp_all
    .refine hy.2 st2 (fun d hd=>(hl d hd).trans (hli d hd)) (fun r W4=>?_) K' h';rw[hh r W4,aj,OL (fun o' q=>js r o' q W4)]
    .rw[Array.setIfInBounds_comm _ _ (Ne.symm Jy)]at hK;rw[<-Yg a2 (fun r o r' o' q q' e2=>js r' o' q' (by rw[e2];exact(hy.1 r o q).2))];exact hK
def nh(cx:Cx)(ops:Array Oper)(K:St->Prop):List Oper->List ET->St->Prop
 | [],[],st=>K st
 |o::r,f::fs,st=>Mp cx ops.toList o st=some f/\∃v e,OA cx ops o st f v e/\nh cx ops K r fs (st.after o v e)
 |_,_,_=>False
theorem QR{K:St->Prop}:∀(l:List Oper) (acc:List ET) (st:St),Wf cx ops l acc st K->∃fs,Rn ops (acc.reverse++fs)=true/\nh cx ops K l fs st
 | [],acc,st,h=>⟨[],by simpa using h.1,h.2⟩
 |o::r,acc,st,h=>by
  unfold Wf at h;split at h
  .rename_i f hf;obtain⟨v,e,h1,h2⟩:=Nr h hf;obtain⟨fs,q1,q2⟩:=QR r _ _ h2;exact⟨f::fs,by simp_all,hf,v,e,h1,q2⟩
  simp_all
theorem Vl{o:Oper}{i:Nat}{D:List Nat}(h:NU o i D=true):∃ed∈o.after,Region.binds .any ed=true/\(ed.on=i\/ed.on∈D):=by
 grind [NU,Nat.eq_of_beq_eq_true,Xs]
theorem SW{i:Nat}{D:List Nat}:∀(l:List Oper) (k:Nat),SV i D k l=true->∀j o,l[j]?=some o->k+j∈D->NU o i D=true
 | [],_,_,_,_,h,_=>by simp_all
 |o::l,k,hs,j,o',h,hm=>by
  simp only[SV,Ag]at hs;cases j with
  |zero=>
   grind [Xp]
  |succ j=>exact SW l (k+1) hs.2 j o' (by simp_all) (by grind)
theorem TN{oi:Oper}{fi:ET}{D:List Nat}:∀(l:List Oper) (fs:List ET) (k:Nat),HA ops oi fi D k l fs=true->l.length=fs.length/\∀j o f,l[j]?=some o->fs[j]?=some f->k+j∉D->oi.apart ops o=true/\Rm fi f=true
 | [],[],_,_=>⟨rfl,fun _ _ _ h=>by simp_all⟩
 | [],_::_,_,h=>by grind [HA]
 |_::_,[],_,h=>by grind [HA]
 |o::l,f::fs,k,h=>by
  simp only[HA,Ag,IH]at h;obtain⟨h1,h2⟩:=TN l fs (k+1) h.2<;>grind [Xs]
theorem Wa{K:St->Prop}:∀(l:List Oper) (fs:List ET) (k:Nat) (listed:Array Bool) (st:St),(∀j,l[j]?=ops[k+j]?)->(∀j f,fs[j]?=some f->FT (k+j)=f)->listed.size=ops.size ->
  (∀j,j<ops.size->listed.getD j true=decide (j<k))->KW ops ops.toList k l fs=true->nh cx ops K l fs st->V9 cx ops FT K l.length listed st
 | [],[],k,listed,st,hl,_,hs,hL,_,h=>by
  refine⟨?_,h⟩;apply KB.2;intro j hj;obtain⟨h1,o,ho,_⟩:=mem_ready.1 hj;have Ez:=(BH.1 ho).1;rw[hL j Ez]at h1;have rv:k<=j:=by simp_all
  have:=hl (j-k)
  simp_all
 | [],_::_,_,_,_,_,_,_,_,h,_=>by grind [KW]
 |_::_,[],_,_,_,_,_,_,_,h,_=>by grind [KW]
 |o::l,f::fs,k,listed,st,hl,hF,hs,hL,hg,h=>by
  simp only[KW,Ag]at hg;obtain⟨⟨⟨⟨g1,g2⟩,g3⟩,g4⟩,g5⟩:=hg;obtain⟨hf,v,e,hy,hp⟩:=h;have h0:ops[k]?=some o:=by simpa using(hl 0).symm
  have hk:=(BH.1 h0).1;have hFk:FT k=f:=by simpa using hF 0 f rfl
  have Qp : ∀j,l[j]?=ops[k+1+j]?:=fun j=>by have:=hl (j+1);grind
  have qX : ∀j f,fs[j]?=some f->FT (k+1+j)=f:=fun j f' hj=>by have:=hF (j+1) f' (by simp_all);grind
  obtain⟨B5,tJ⟩:=TN l fs (k+1) g4;have kq:∀j,j∈OK k [] 0 ops.toList->k<j/\j<ops.size:=fun j hj=>by
   simp_all
  refine Ye h0 (fun j=>j∈OK k [] 0 ops.toList) (fun j hj=>?_) l.length listed st (fun j oj oC rD pW zH=>?_) ?_ (fun j hj=>?_) (by simp_all) (by rw[hFk];exact hy) ?_
  .have Ez:=(kq j hj).2
   have:=SW ops.toList 0 g2 j ops[j] (by simp_all) (by simp_all)
   grind [Vl]
  .have Ez:=(BH.1 oC).1;rw[hL j Ez]at pW;have rv:k<j:=by grind
   have e1:l[j-(k+1)]?=some oj:=by grind
   grind
  .grind [mem_ready,Nat.blt_eq]
  .grind
  .refine Wa l fs (k+1) _ _ Qp qX (by simp_all) (fun j hj=>?_) g5 hp
   by_cases rD:j=k
   .simp_all
   .rw[getD_set_ne true (Ne.symm rD),hL j hj]
    grind
theorem bx(h:Wf cx ops ops.toList [] st K):Region.noSelect ops=true/\∃FT,V9 cx ops FT K ops.size (Array.replicate ops.size false) st:=by
 obtain⟨fs,h1,h2⟩:=QR _ _ _ h;simp only[Rn,List.reverse_nil,FF,Ag]at h1;refine⟨h1.1,fun j=>fs.getD j default,?_⟩
 have:=Wa (FT:=fun j=>fs.getD j default) ops.toList fs 0 (Array.replicate ops.size false) st B0 (fun j f hj=>by simp_all) B0 (fun j hj=>by simp_all) h1.2 h2
 omega
end
theorem Vt:∀{σ:Ia},Gk σ=true->∀i j,BY σ i=some j↔Hi σ j=some i
 | [],_,i,j=>by simp[BY,Hi]
 |(a,b)::r,h,i,j=>by
  simp only[Gk,Ag]at h;obtain⟨h1,h2⟩:=h;have ih:=Vt h2
  grind [BY,Hi,Nat.beq_refl,CX]
theorem io:∀{σ:Ia},DM σ=true->Gk σ=true
 | [],_=>rfl
 |(a,b)::r,h=>by
  simp only[DM,Ag]at h;simp only[Gk,Ag];exact⟨h.1.1.1,io h.2⟩
theorem VK(h:DM σ=true):∀i j,BY σ i=some j↔Hi σ j=some i:=Vt (io h)
theorem Uy:∀{σ:Ia},DM σ=true->∀{i j},BY σ i=some j->1000<=j/\j<2000
 | [],_,i,j,h=>by grind [BY]
 |(a,b)::r,h,i,j,hf=>by
  simp only[DM,Ag,D6,CJ]at h;unfold BY at hf
  by_cases e1:a=i
  .simp_all
  .simp only[CX e1,F0]at hf;exact Uy h.2 hf
theorem Om(f:Nat->Option Nat)(h:Nat->HO):∀(σ:Ia) (j:Nat),Ae (VJ f h σ) Ab j=match Hi σ j with | some i=>(h i).ren f h | none=>.free
 | [],j=>rfl
 |(a,b)::r,j=>by
  unfold VJ Ae Hi
  by_cases e:b=j
  .simp_all
  .simp only[CX e,CX (Ne.symm e),F0];exact Om f h r j
structure Fk(f:Nat->Option Nat)(h h2:Nat->HO)(g g2:Gh)(w:World):Prop where
 ids:∀r r',f r=some r'->Aw h r->g2.tk r'=g.tk r/\g2.ln r'=g.ln r/\g2.ρ r'=g.ρ r/\g2.own r'=g.own r/\Aw h2 r'
 S:∀b o,g2.S b o↔g.S b o
 objs:∀r,Do g w (Aw h) r (h r)
section
variable {f:Nat->Option Nat}{h h2:Nat->HO}{g g2:Gh}{w:World}
theorem Fk.keeps(hR:Fk f h h2 g g2 w):En g w g2 w:=fun b o hs=>⟨(hR.S b o).2 hs,rfl,fun _ _ e=>e⟩
theorem Fk.noU(hR:Fk f h h2 g g2 w){av:AV}{x:Value}(r:AT g w ES av x):AT g2 w (Aw h2) av x:=r.mono hR.keeps (fun _ h=>h.elim) (fun _ h=>h.elim)
theorem AT.ren0(hR:Fk f h h2 g g2 w){av:AV}{x:Value}(r:AT g w (Aw h) av x):AT g2 w (Aw h2) (ren0 f h av) x:=by
 have down:AT g2 w (Aw h2) (Eng.str0 h av) x:=hR.noU (AT.str0 hR.objs r);cases av with
 |v y=>exact down
 |slice tk es=>
  cases tk with
  |none=>exact down
  |full sz=>exact down
  |id i sz=>
   simp only[Eng.ren0];split
   .rename_i i' e;cases r<;>grind [tok,AT.slice_none,Fk.ids,Fk.noU]
   .exact hR.noU r.slice_none
  |ver i sz v=>
   simp only[Eng.ren0];split
   .rename_i i' e;cases r<;>grind [ver,AT.slice_none,Fk.ids,Fk.noU]
   .exact hR.noU r.slice_none
 |msl i n=>
  simp only[Eng.ren0];split
  .rename_i i' e;cases r<;>grind [msl,Fk.ids]
  grind [junk]
 |agg cs=>exact down
 |tup cs=>exact down
 |cptr cs=>exact down
 |ref i off=>
  simp only[Eng.ren0];split
  .rename_i i' e;cases r<;>grind [ref,Fk.ids]
  omega
 |eref i n sz k off=>
  simp only[Eng.ren0];split
  .rename_i i' e;cases r<;>grind [eref,Fk.ids]
  grind [junk]
 |mref i=>
  simp only[Eng.ren0];split
  .rename_i i' e;cases r<;>grind [mref,Fk.ids]
  omega
 |cmap sh BF=>exact down
 |clo i cs=>exact down
 |junk=>exact down
theorem AT.ren1(hR:Fk f h h2 g g2 w){av:AV}{x:Value}(r:AT g w (Aw h) av x):AT g2 w (Aw h2) (ren1 f h av) x:=by
 cases av with
 |agg cs=>
  cases r with
  |agg _ _ vs hs h1 hr=>
   exact .agg _ _ vs (by simp_all) h1 fun i av x q1 q2=>by
    grind [ren0]
 |clo i cs=>
  cases r with
  |clo _ _ _ vs hs hr=>
   exact .clo _ _ _ vs (by simp_all) fun i av x q1 q2=>by
    grind [ren0]
 |_=>exact r.ren0 hR
theorem AT.ren(hR:Fk f h h2 g g2 w){av:AV}{x:Value}(r:AT g w (Aw h) av x):AT g2 w (Aw h2) (ren f h av) x:=by
 cases av with
 |tup cs=>
  cases r with
  |tup _ _ vs hs hr=>
   exact .tup _ _ vs (by simp_all) fun i av x q1 q2=>by
    grind [ren1]
 |_=>exact r.ren1 hR
theorem Lx(f:Nat->Option Nat)(h:Nat->HO)(o:HO):(o.ren f h).live↔o.live:=by cases o<;>exact Iff.rfl
theorem Ly(f:Nat->Option Nat)(h:Nat->HO)(o:HO):o.ren f h≠.free↔o≠.free:=by cases o<;>simp[HO.ren]
theorem Do.ren(hR:Fk f h h2 g g2 w){i j:Nat}(X3:f i=some j)(hu:Aw h i){o:HO}(r:Do g w (Aw h) i o):Do g2 w (Aw h2) j (o.ren f h):=by
 obtain⟨k1,k2,k3,k4,k5⟩:=hR.ids i j X3 hu;have noL:∀{cs:List AV} {vs:List Value},BR g w ES cs vs->BR g2 w ES cs vs:=fun hr=>hr.mono hR.keeps (fun _ h=>h) (fun _ h=>h.elim);have um:∀{av:AV} {x:Value},AT g w ES av x->AT g2 w ES av x:=fun hr=>hr.mono hR.keeps (fun _ h=>h) (fun _ h=>h.elim);cases o with
 |free=>trivial
 |dead=>trivial
 |cells cs=>
  obtain⟨t,b,E,vs,a1,a2,a3,a4,a5⟩:=r;refine⟨k1.trans t,b,E,vs,k4.trans a1,k3.trans a2,a3,⟨by simp[a4.1],a4.2.1,fun i av x q1 q2=>?_⟩,fun o ho=>a5 o ((hR.S b o).1 ho)⟩;rw[BC]at q1;obtain⟨a,q3,rfl⟩:=B4.1 q1;exact(a4.2.2 i a x q3 q2).ren1 hR
 |ro cs=>
  obtain⟨t,b,a1,a2⟩:=r;exact⟨k1.trans t,b,k3.trans a1,um a2⟩
 |tok sz n=>
  obtain⟨t,l,a,cap,a1,a2⟩:=r;refine⟨k1.trans t,k2.trans l,a,cap,k3.trans a1,?_⟩
  grind [Fk.S]
 |var sz v n=>
  obtain⟨t,l,a,cap,a1,a2⟩:=r;refine⟨k1.trans t,k2.trans l,a,cap,k3.trans a1,?_⟩
  grind [Fk.S]
 |vox v=>exact⟨k1.trans r.1,k2.trans r.2⟩
 |hol sz es i c av=>
  obtain⟨t,l,al,b,cap,E,vs,b1,b2,b3,b4,b5,b6,b7,b8,x,b9,X1⟩:=r;exact⟨k1.trans t,k2.trans l,al,b,cap,E,vs,k3.trans b1,k4.trans b2,b3,b4,b5,noL b6,fun o ho=>b7 o ((hR.S b o).1 ho),b8,x,b9,X1.ren1 hR⟩
 |bld x=>
  obtain⟨t,b,p,v,a1,a2,a3,a4,a5,a6⟩:=r;exact⟨k1.trans t,b,p,v,k4.trans a1,k3.trans a2,a3,a4,a5.ren1 hR,fun o ho=>a6 o ((hR.S b o).1 ho)⟩
 |bbf n=>
  obtain⟨t,l,a1⟩:=r;refine⟨k1.trans t,k2.trans l,?_⟩
  grind [Fk.S]
 |raw b ob=>
  obtain⟨t,a1,a2,a3,a4⟩:=r;exact⟨k1.trans t,k4.trans a1,a2,a3,fun o ho=>a4 o ((hR.S b o).1 ho)⟩
 |arr sz es=>
  obtain⟨t,l,al,a2⟩:=r;refine⟨k1.trans t,k2.trans l,al,?_⟩;rcases a2 with ⟨b1,b2,b3⟩ | ⟨b,cap,E,vs,b1,b2,b3,b4,b5,b6,b7⟩
  .simp_all
  .exact .inr ⟨b,cap,E,vs,k3.trans b1,k4.trans b2,b3,b4,b5,noL b6,fun o ho=>b7 o ((hR.S b o).1 ho)⟩
 |map sh BF=>
  obtain⟨t,b,es,ck,a1,a2,a3,a4,a5,a6⟩:=r;exact⟨k1.trans t,b,es,ck,k4.trans a1,k3.trans a2,a3,a4,fun i kv e q1 q2=>um (a5 i kv e q1 q2),fun o ho=>a6 o ((hR.S b o).1 ho)⟩
 |mapU sh BF=>
  obtain⟨t,b,es,ck,a1,a2,a3,a4,a5,a6⟩:=r;refine⟨k1.trans t,b,es,ck,k4.trans a1,k3.trans a2,a3,Uo _ a4,fun i kv e q1 q2=>?_,fun o ho=>a6 o ((hR.S b o).1 ho)⟩
  grind [AT.ren1]
 |rom sh BF=>
  obtain⟨t,b,a1,a2⟩:=r;exact⟨k1.trans t,b,k3.trans a1,um a2⟩
 |iter all rem DD=>
  obtain⟨t,b,mb,I2,seen,st,es,ck,a1,a2,a3,a4,a5,a6,a7,a8,a9,V8,ZM,a12,nk⟩:=r;exact⟨k1.trans t,b,mb,I2,seen,st,es,ck,k4.trans a1,k3.trans a2,a3,(hR.S _ _).2 a4,a5,a6,a7,a8,fun i kv e q1 q2=>um (a9 i kv e q1 q2),V8,ZM,a12,fun o ho=>nk o ((hR.S b o).1 ho)⟩
end
end Go.Eng
