/- Lemmas 9. -/
import Derived.Test.YteaiieomnhbmgaaGreatDoorAA08
namespace Go.Eng
variable {x:Operand}{l:List Nat}{o:Oper}{K:St->Prop}{st:St}{d:Nat}{p:Operand}{n:Nat}{cx:Cx}{st2:St}{d':Nat}{f:FF}{σ:Jd}(ops:Array Oper)(T:GK)
section
variable {cx:Cx}{dst:Option Nat}{ty:Nat}{pos:String}{after:Array Edge}{gd:Option (Nat×Bool)}{st:St}{R:List Nat}{w:Option Nat}{K:HK}
theorem II{d:Option Nat}{l:List Nat}(h:IH d l=some f):∃d',d=some d'/\f=(d' :: l,some d'):=by
 unfold IH at h
 grind
theorem aq{e:Nat}(hk:FZ cx true ⟨dst,.alloc e,ty,pos,after,gd⟩ st K)(hf:Fo cx ⟨dst,.alloc e,ty,pos,after,gd⟩ st=some (R,w)):De cx ⟨dst,.alloc e,ty,pos,after,gd⟩ st R w K:=by
 simp only[FZ]at hk;have hb:Nat.beq e ZE=false:=by
  grind [Fo]
 simp only[Fo,hb]at hf;obtain⟨d,rfl,e0⟩:=II hf;cases e0;unfold Tl at hk;simp only[hb]at hk;split at hk
 .rename_i hd;split at hk
  .simp_all
  .rename_i Ef;split at hk
   .rename_i ha;refine⟨_,some (d,_),hk,fun r o' e=>B0,fun st2 Hf K' h'=>?_⟩;simp only[FZ,Tl];rw[Hf.h d (Ah ..),hd];simp only[ha,hb];exact h'
   simp_all
 simp_all
theorem jr{e:Nat}(hk:FZ cx true ⟨dst,.box e x,ty,pos,after,gd⟩ st K)(hf:Fo cx ⟨dst,.box e x,ty,pos,after,gd⟩ st=some (R,w)):De cx ⟨dst,.box e x,ty,pos,after,gd⟩ st R w K:=by
 simp only[FZ]at hk;obtain⟨d,rfl,e0⟩:=II hf;cases e0;unfold iT at hk;simp only at hk;split at hk
 .rename_i hd;split at hk
  .simp_all
  .rename_i Ef;obtain⟨cs,c1,c2,c3⟩:=N9 hk;split at c1
   .rename_i hm;refine⟨_,some (d,_),c1,fun r o' e=>B0,fun st2 Hf K' h'=>?_⟩;have hx:ev st2.t x=ev st.t x:=Hf.t x (by simp[Op.operands]);simp only[FZ,iT];rw[Hf.h d (Ah ..),hd,hx];simp only[hm];refine c2 _ ?_;rw[c3 st.h st2.h (fun r hr=>Hf.h r (Am _ hr))];exact h'
   .rename_i hm;refine⟨_,some (d,_),c1,fun r o' e=>B0,fun st2 Hf K' h'=>?_⟩;have hx:ev st2.t x=ev st.t x:=Hf.t x (by simp[Op.operands]);simp only[FZ,iT];rw[Hf.h d (Ah ..),hd,hx];simp only[hm];exact c2 _ h'
 simp_all
theorem QM{t n:Nat}{ps:Array (Nat×Operand)}(hk:FZ cx true ⟨dst,.buildSlice t n ps,ty,pos,after,gd⟩ st K)(hf:Fo cx ⟨dst,.buildSlice t n ps,ty,pos,after,gd⟩ st=some (R,w)) :
  De cx ⟨dst,.buildSlice t n ps,ty,pos,after,gd⟩ st R w K:=by
 simp only[FZ]at hk;obtain⟨d,jy,e0⟩:=II hf;cases e0;unfold IF at hk;split at hk
 .rename_i e he;split at hk
  .rename_i h1 h2;split at hk
   .simp_all
   .rename_i k FE;split at hk
    .rename_i hb;obtain⟨es,q1,q2⟩:=T0 hk;obtain⟨d',hd,v,x,q3,q4⟩:=Iu q1;have hd:dst.map (Ku cx)=some d':=hd;have jy:dst.map (Ku cx)=some d:=jy;rw[jy]at hd;cases hd;refine⟨v,some (d,x),q3,fun r o' e=>B0,fun st2 Hf K' h'=>?_⟩;have hx:∀p∈ps.toList,ev st2.t p.2=ev st.t p.2:=fun p hp=>Hf.t p.2 (by
      grind [Op.operands])
     simp only[FZ,IF,he,h1,h2];split
     .omega
     .rw[hb];exact q2 st2.t st2.h (fun r hr=>Hf.h r (Am _ hr)) hx _ (q4 st2.h (Hf.h d (Ah ..)) K' h')
    simp_all
  simp_all
 simp_all
theorem Ss{t:Nat}{n c:Operand}(hk:FZ cx true ⟨dst,.makeSlice t n c,ty,pos,after,gd⟩ st K)(hf:Fo cx ⟨dst,.makeSlice t n c,ty,pos,after,gd⟩ st=some (R,w)) :
  De cx ⟨dst,.makeSlice t n c,ty,pos,after,gd⟩ st R w K:=by
 simp only[FZ]at hk;obtain⟨d,jy,e0⟩:=II hf;cases e0;have hn:∀st2,Alike ⟨dst,.makeSlice t n c,ty,pos,after,gd⟩ (d::[]) st st2->ev st2.t n=ev st.t n/\ev st2.t c=ev st.t c:=fun st2 ha=>⟨ha.t n (by simp[Op.operands]),ha.t c (by simp[Op.operands])⟩;unfold JK at hk;split at hk
 .rename_i e a b h1 h2 h3;split at hk
  .rename_i h4;split at hk
   .rename_i h5;split at hk
    .simp_all
    .rename_i k FE;obtain⟨d',hd,v,x,q3,q4⟩:=Iu hk.2;have hd:dst.map (Ku cx)=some d':=hd;have jy:dst.map (Ku cx)=some d:=jy;rw[jy]at hd;cases hd;refine⟨v,some (d,x),q3,fun r o' e=>B0,fun st2 Hf K' h'=>?_⟩;simp only[FZ,JK,(hn st2 Hf).1,(hn st2 Hf).2,h1,h2,h3,h4,h5];split
     .omega
     .exact⟨hk.1,q4 st2.h (Hf.h d (Ah ..)) K' h'⟩
   simp_all
  simp_all
 simp_all
theorem VG{t:Nat}{r:Option Operand}(hk:FZ cx true ⟨dst,.makeMap t r,ty,pos,after,gd⟩ st K)(hf:Fo cx ⟨dst,.makeMap t r,ty,pos,after,gd⟩ st=some (R,w)) :
  De cx ⟨dst,.makeMap t r,ty,pos,after,gd⟩ st R w K:=by
 cases r with
 |some r=>exact hk.elim
 |none=>
  simp only[FZ]at hk;obtain⟨d,rfl,e0⟩:=II hf;cases e0;unfold KU at hk;simp only at hk;split at hk
  .rename_i hd;split at hk
   .rename_i h1;split at hk
    .rename_i h2;split at hk
     .rename_i h3;refine⟨_,some (d,_),hk,fun r o' e=>B0,fun st2 Hf K' h'=>?_⟩;simp only[FZ,KU];rw[Hf.h d (Ah ..),hd];simp only[h1,h2,h3];exact h'
     .rename_i h3;refine⟨_,some (d,_),hk,fun r o' e=>B0,fun st2 Hf K' h'=>?_⟩;simp only[FZ,KU];rw[Hf.h d (Ah ..),hd];simp only[h1,h2,h3];exact h'
    simp_all
   simp_all
  simp_all
theorem ar{t:Nat}(hk:FZ cx true ⟨dst,.store t p x,ty,pos,after,gd⟩ st K)(hf:Fo cx ⟨dst,.store t p x,ty,pos,after,gd⟩ st=some (R,w)) :
  De cx ⟨dst,.store t p x,ty,pos,after,gd⟩ st R w K:=by
 simp only[FZ]at hk;have hn:∀st2,Alike ⟨dst,.store t p x,ty,pos,after,gd⟩ R st st2->ev st2.t p=ev st.t p/\ev st2.t x=ev st.t x:=fun st2 ha=>⟨ha.t p (by simp[Op.operands]),ha.t x (by simp[Op.operands])⟩;unfold OB at hk;split at hk
 .simp_all
 .rename_i Ef;obtain⟨cs,c1,c2,c3⟩:=N9 hk;simp only[Fo]at hf;split at hf
  .rename_i r off hp;split at hf
   .cases hf
   .rename_i hm;cases hf;rw[hp]at c1;simp only at c1;split at c1
    .rename_i Ep hr;obtain⟨Jk,hk'⟩:=c1;rw[hm]at hk';refine⟨_,some (r,_),hk',fun r o' e=>B0,fun st2 Hf K' h'=>?_⟩;simp only[FZ,OB,(hn st2 Hf).1,(hn st2 Hf).2];refine c2 _ ?_;rw[hp];simp only[Hf.h r (Ah ..),hr,hm];exact⟨Jk,h'⟩
    simp_all
  .rename_i r n sz i off hp;cases hf;rw[hp]at c1;simp only at c1;split at c1
   .rename_i HJ es hr;split at c1
    .rename_i hs;obtain⟨Jk,cell,e1,e2,hk'⟩:=c1;split at hk'
     .rename_i j m;refine⟨_,some (r,_),hk',fun r o' e=>B0,fun st2 Hf K' h'=>?_⟩;simp only[FZ,OB,(hn st2 Hf).1,(hn st2 Hf).2];refine c2 _ ?_;rw[hp];simp only[Hf.h r (Ah ..),hr,hs];exact⟨Jk,cell,e1,e2,h'⟩
     .rename_i Qs;refine⟨_,some (r,_),hk',fun r o' e=>B0,fun st2 Hf K' h'=>?_⟩;simp only[FZ,OB,(hn st2 Hf).1,(hn st2 Hf).2];refine c2 _ ?_;rw[hp];simp only[Hf.h r (Ah ..),hr,hs];refine⟨Jk,cell,e1,e2,?_⟩;rw[c3 st.h st2.h (fun r hr=>Hf.h r (Am _ hr))];exact h'
    simp_all
   simp_all
  simp_all
theorem Su{t:Nat}{m k:Operand}(hk:FZ cx true ⟨dst,.mapUpdate t m k x,ty,pos,after,gd⟩ st K)(hf:Fo cx ⟨dst,.mapUpdate t m k x,ty,pos,after,gd⟩ st=some (R,w)) :
  De cx ⟨dst,.mapUpdate t m k x,ty,pos,after,gd⟩ st R w K:=by
 simp only[FZ]at hk;have hn:∀st2,Alike ⟨dst,.mapUpdate t m k x,ty,pos,after,gd⟩ R st st2->ev st2.t m=ev st.t m/\ev st2.t k=ev st.t k/\ev st2.t x=ev st.t x:=fun st2 ha=>⟨ha.t m (by simp[Op.operands]),ha.t k (by simp[Op.operands]),ha.t x (by simp[Op.operands])⟩;simp only[Fo]at hf;split at hf
 .rename_i r hm;cases hf;unfold Hm at hk;rw[hm]at hk;simp only at hk;split at hk
  .rename_i sh BU hr;unfold Kv at hk;split at hk
   .rename_i kt e h1;split at hk
    .rename_i sh' h2;split at hk
     .rename_i h3;split at hk
      .rename_i kx h4;split at hk
       .rename_i h5;refine⟨_,some (r,_),hk,fun r o' e=>B0,fun st2 Hf K' h'=>?_⟩;obtain⟨n1,n2,n3⟩:=hn st2 Hf;simp only[FZ,Hm,n1,n2,n3,hm,Hf.h r (Ah ..),hr,Kv,h1,h2,h3,h4,h5];rw[La (h:=st.h) (h2:=st2.h) (fun r hr=>Hf.h r (Am _ hr))];exact h'
       simp_all
      simp_all
     simp_all
    simp_all
   simp_all
  .rename_i sh BU hr;unfold Kv at hk;split at hk
   .rename_i kt e h1;split at hk
    .rename_i sh' h2;split at hk
     .rename_i h3;split at hk
      .rename_i kx h4;split at hk
       .rename_i h5;refine⟨_,some (r,_),hk,fun r o' e=>B0,fun st2 Hf K' h'=>?_⟩;obtain⟨n1,n2,n3⟩:=hn st2 Hf;simp only[FZ,Hm,n1,n2,n3,hm,Hf.h r (Ah ..),hr,Kv,h1,h2,h3,h4,h5];exact h'
       simp_all
      simp_all
     simp_all
    simp_all
   simp_all
  simp_all
 simp_all
theorem gP{A B:(AV->Prop)->Prop}(ha:Gj A)(hb:Gj B):Gj fun K=>A K\/B K:=by
 intro K hk;rcases hk with hk | hk
 .obtain⟨v,h1,h2⟩:=ha K hk<;>grind
 .obtain⟨v,h1,h2⟩:=hb K hk<;>grind
theorem T9{fn:Fn}{first cap:Array Operand}(hk:FZ cx true ⟨dst,.makeFunc fn first cap,ty,pos,after,gd⟩ st K)(hf:Fo cx ⟨dst,.makeFunc fn first cap,ty,pos,after,gd⟩ st=some (R,w)) :
  De cx ⟨dst,.makeFunc fn first cap,ty,pos,after,gd⟩ st R w K:=by
 simp only[FZ]at hk;simp only[Fo]at hf;cases hf;unfold KT at hk;split at hk
 .rename_i f h1;refine⟨_,none,hk,fun r o' e=>(by cases e),fun st2 Hf K' h'=>?_⟩;simp only[FZ,h1,KT]
  have:cap.toList.map (fun x=>rsv st2.h (ev st2.t x))=cap.toList.map (fun x=>rsv st.h (ev st.t x)):=CC fun x hx=>by
   rw[Hf.t x (by grind [Op.operands])];exact pF fun r hr=>Hf.h r (bh (Ay.2 ⟨x,hx,rfl⟩) r hr)
  rw[this];exact h'
 simp_all
end
section
variable {cx:Cx}{dst:Option Nat}{ty:Nat}{pos:String}{after:Array Edge}{gd:Option (Nat×Bool)}{st:St}{R:List Nat}{w:Option Nat}{K:HK}
theorem dv{t:Nat}(hk:FZ cx true ⟨dst,.load t p,ty,pos,after,gd⟩ st K)(hf:Fo cx ⟨dst,.load t p,ty,pos,after,gd⟩ st=some (R,w)):De cx ⟨dst,.load t p,ty,pos,after,gd⟩ st R w K:=by
 simp only[FZ]at hk;have hn:∀st2,Alike ⟨dst,.load t p,ty,pos,after,gd⟩ R st st2->ev st2.t p=ev st.t p:=fun st2 ha=>ha.t p (by simp[Op.operands]);simp only[Fo]at hf;unfold JI at hk;split at hf
 .grind [K7,FZ,JI,De.pick]
 .grind [K7,FZ,JI,List.mem_cons_self,De.pick,Alike.h]
 .rename_i r n sz i off hp;cases hf;rw[hp]at hk;simp only at hk;split at hk
  all_goals grind [K7,FZ,JI,De.pick,Alike.h]
 simp_all
theorem Yj(hk:FZ cx true ⟨dst,.assign x,ty,pos,after,gd⟩ st K)(hf:Fo cx ⟨dst,.assign x,ty,pos,after,gd⟩ st=some (R,w)):De cx ⟨dst,.assign x,ty,pos,after,gd⟩ st R w K:=by
 simp only[FZ]at hk;have hn:∀st2,Alike ⟨dst,.assign x,ty,pos,after,gd⟩ R st st2->ev st2.t x=ev st.t x:=fun st2 ha=>ha.t x (by simp[Op.operands]);simp only[Fo]at hf;split at hf
 .cases hf
 .rename_i hx;cases hf;have same:∃y,∀(h:Nat->HO) (K:HK),OT cx dst h (ev st.t x) K↔K y h:=by
   unfold OT;cases dst with
   |none=>exact⟨_,fun _ _=>Iff.rfl⟩
   |some d=>
    simp only;cases GU cx.pl.tok d with
    |some sz=>
     simp only;cases Nat.beq sz 0 with
     |true=>exact⟨_,fun _ _=>Iff.rfl⟩
     |false=>
      refine⟨ev st.t x,fun h K=>?_⟩;simp_all
    |none=>
     simp only;cases GU cx.pl.arr d with
     |some sz=>
      refine⟨ev st.t x,fun h K=>?_⟩;simp_all
     |none=>exact⟨_,fun _ _=>Iff.rfl⟩
  obtain⟨y,same⟩:=same;exact .pick (CW y) ((same _ _).1 hk) fun st2 ha K' h=>by grind [FZ]
theorem RN{t:Nat}{lo hi mx:Option Operand}(hp:Tt cx.pl.tok dst=none)(hk:FZ cx true ⟨dst,.slice t x lo hi mx,ty,pos,after,gd⟩ st K)(hf:Fo cx ⟨dst,.slice t x lo hi mx,ty,pos,after,gd⟩ st=some (R,w)) :
  De cx ⟨dst,.slice t x lo hi mx,ty,pos,after,gd⟩ st R w K:=by
 simp only[FZ,hp]at hk;have hn:∀st2,Alike ⟨dst,.slice t x lo hi mx,ty,pos,after,gd⟩ R st st2->ev st2.t x=ev st.t x/\CT st2.t lo=CT st.t lo/\CT st2.t hi=CT st.t hi/\CT st2.t mx=CT st.t mx:=by
  grind [Option,CT,Op.operands,Alike.t]
 simp only[Fo,hp]at hf;split at hf
 .cases hf
 .rename_i hx;cases hf;have e3:CT st.t none=some none:=rfl
  have Qr:Gj (fun K1=>Io cx dst st.h t (ev st.t x) (CT st.t lo) (CT st.t hi) (some none) fun v _=>K1 v) /\
    ∀(h:Nat->HO) (K:HK),Io cx dst h t (ev st.t x) (CT st.t lo) (CT st.t hi) (some none) K↔Io cx dst st.h t (ev st.t x) (CT st.t lo) (CT st.t hi) (some none) (fun v _=>K v h):=by
   generalize ev st.t x=X at hx;unfold Io;constructor
   .repeat' split
    all_goals first | exact Cn | exact DO (CW _) | exact DO (DO (CW _)) | skip
    all_goals first | (rename_i e;cases e;done) | skip
    all_goals (exfalso;exact hx _ _ rfl)
   .intro h K
    repeat' split
    all_goals simp_all
    all_goals simp_all
  grind [FZ,De.pick]
 .rename_i y tk es hx;obtain⟨d,rfl,e0⟩:=II hf;cases e0;rw[hx]at hk;unfold Io at hk;split at hk
  .rename_i H9 OH vg e1 e2 e3;split at hk
   .simp_all
   .rename_i e he;split at hk
    .simp_all
    .rename_i k FE;simp only at hk;split at hk
     .grind [CT]
     .rename_i m;split at hk
      .rename some d=some _=>e5
       cases e5
       split at hk
       .rename_i wQ;refine⟨_,none,hk.2.2,fun r o' e=>(by cases e),fun st2 Hf K' h'=>?_⟩;obtain⟨n1,n2,n3,n4⟩:=hn st2 Hf;simp only[FZ,hp];rw[n1,n2,n3,n4,hx,e1,e2,e3];unfold Io;simp only[he];split
        .omega
        .simp only[wQ];exact⟨hk.1,hk.2.1,h'⟩
       rename_i wQ;split at hk
       .rename_i hd;refine⟨_,some (d,_),hk.2.2,fun r o' e=>B0,fun st2 Hf K' h'=>?_⟩;obtain⟨n1,n2,n3,n4⟩:=hn st2 Hf;simp only[FZ,hp];rw[n1,n2,n3,n4,hx,e1,e2,e3];unfold Io;simp only[he];split
        .omega
        .simp only[wQ];rw[Hf.h d (Ah ..),hd];exact⟨hk.1,hk.2.1,h'⟩
       simp_all
      simp_all
   simp_all
  simp_all
 simp_all
theorem jt{t:Nat}{lo hi mx:Option Operand}{p:Nat}(hp:Tt cx.pl.tok dst=some p)(hk:FZ cx true ⟨dst,.slice t x lo hi mx,ty,pos,after,gd⟩ st K)(hf:Fo cx ⟨dst,.slice t x lo hi mx,ty,pos,after,gd⟩ st=some (R,w)) :
  SI cx ⟨dst,.slice t x lo hi mx,ty,pos,after,gd⟩ st R w K:=by
 simp only[FZ,hp]at hk;simp only[Fo,hp]at hf;obtain⟨d',r,n,hd,hx,e0⟩:=dt hf;cases e0;cases dst with
 |none=>cases hd
 |some d=>
 cases hd
 unfold UZ at hk;split at hk
 .rw[hx]at hk;unfold pj at hk;split at hk
  .rename_i d0 OH e1 e2;cases e1;split at hk
   .rename_i e he;split at hk
    .simp_all
    .rename_i k FE;simp only at hk;split at hk
     .rename_i sz es hr;split at hk
      .rename_i hd;split at hk
       .rename_i q1 q3;obtain⟨h1,hk⟩:=hk;have hr8:r<10000000/\0<Ku cx d:=B0
        obtain⟨hr7,hz⟩:=hr8;refine⟨_,[(r,.dead),(Ku cx d,_)],hk,fun r' o' e=>?_,fun st2 ha K' h'=>?_⟩
        .rcases AZ.1 e with e | e
         .cases e
          refine⟨.inr (.inl ⟨by omega,.inl ?_⟩),Ah ..⟩;omega
         .obtain e:=AQ.1 e;cases e;refine⟨.inr (.inl ⟨by omega,.inr ?_⟩),Am _ (Ah ..)⟩;omega
        .have o1:CT st2.t hi=CT st.t hi:=by
          cases hi<;>grind [CT,Op.operands,Alike.t]
         simp only[FZ,hp];unfold UZ;rw[ha.t x (by simp[Op.operands]),o1,hx,e2];unfold pj;simp only[he];split
         .omega
         .simp only[ha.h r (Ah ..),hr,ha.h (Ku cx d) (Am _ (Ah ..)),hd,q1,q3];exact⟨h1,h'⟩
       simp_all
      simp_all
     simp_all
   simp_all
  simp_all
 simp_all
theorem Yh{s:Operand}{Hb:Array TypeId}(hk:FZ cx true ⟨dst,.call ⟨.builtin .append,#[s,x],Hb⟩,ty,pos,after,gd⟩ st K)(hf:Fo cx ⟨dst,.call ⟨.builtin .append,#[s,x],Hb⟩,ty,pos,after,gd⟩ st=some (R,w)) :
  De cx ⟨dst,.call ⟨.builtin .append,#[s,x],Hb⟩,ty,pos,after,gd⟩ st R w K:=by
 have hk:F4 cx dst st.h .append Hb.toList [ev st.t s,ev st.t x] K:=hk;have hf:Yg cx dst (ev st.t s) (ev st.t x)=some (R,w):=hf;have hn:∀st2,Alike ⟨dst,.call ⟨.builtin .append,#[s,x],Hb⟩,ty,pos,after,gd⟩ R st st2->ev st2.t s=ev st.t s/\ev st2.t x=ev st.t x:=fun st2 ha=>
  ⟨ha.t s (by simp[Op.operands,Call.operands]),ha.t x (by simp[Op.operands,Call.operands])⟩
 have JD:∀st2,Alike ⟨dst,.call ⟨.builtin .append,#[s,x],Hb⟩,ty,pos,after,gd⟩ R st st2->∀K' : HK,F4 cx dst st2.h .append Hb.toList [ev st.t s,ev st.t x] K'->FZ cx true ⟨dst,.call ⟨.builtin .append,#[s,x],Hb⟩,ty,pos,after,gd⟩ st2 K':=by
  intro st2 ha K' h;rw[<-(hn st2 ha).1,<-(hn st2 ha).2]at h;exact h
 generalize Hb.toList=l at hk JD
 match l,hk,JD with
 | [t,t'],hk,JD=>
  simp only[F4]at hk JD;split at hk
  .rename_i ht;simp only[ht]at JD;unfold Ir at hk JD;split at hk
   .rename_i e he;simp only[he]at JD;split at hk
    .simp_all
    .rename_i hz;simp only[hz]at JD;split at hk
     .simp_all
     .rename_i k FE;obtain⟨es2,q1,q2⟩:=dh hk;have Hk:∀d,R=d::jW (ev st.t x)->∀st2,Alike ⟨dst,.call ⟨.builtin .append,#[s,x],Hb⟩,ty,pos,after,gd⟩ R st st2->∀r n,ev st.t x=.msl r n->st2.h r=st.h r:=fun d hR st2 ha r n e=>ha.h r (by rw[hR,e];simp[jW]);unfold Yg at hf;split at hf
      .rename_i hs;obtain⟨d,jy,e0⟩:=II hf;cases e0;rw[hs]at q1 JD;simp only at q1 JD;obtain⟨d',hd,v,y,q3,q4⟩:=Iu q1.2;rw[jy]at hd;cases hd;refine⟨v,some (d,y),q3,fun r o' e=>B0,fun st2 Hf K' h'=>JD st2 Hf K' ?_⟩;split
       .omega
       .exact q2 st2.h (Hk d rfl st2 Hf) _ ⟨q1.1,q4 st2.h (Hf.h d (Ah ..)) K' h'⟩
      .rename_i HJ es hs;obtain⟨d,jy,e0⟩:=II hf;cases e0;rw[hs]at q1 JD;simp only at q1 JD;split at q1
       .rename_i h1;obtain⟨d',hd,v,y,q3,q4⟩:=Iu q1.2;rw[jy]at hd;cases hd;refine⟨v,some (d,y),q3,fun r o' e=>B0,fun st2 Hf K' h'=>JD st2 Hf K' ?_⟩;split
        .omega
        .refine q2 st2.h (Hk d rfl st2 Hf) _ ?_;simp only[h1];exact⟨q1.1,q4 st2.h (Hf.h d (Ah ..)) K' h'⟩
       simp_all
      .rename_i r HJ es hs;cases hf;rw[hs]at q1 JD;simp only at q1 JD;split at q1
       .rename_i sz n hr;split at q1
        .rename_i h1 h2;refine⟨_,some (r,_),q1.2,fun r o' e=>B0,fun st2 Hf K' h'=>JD st2 Hf K' ?_⟩;split
         .omega
         .refine q2 st2.h (Hk r rfl st2 Hf) _ ?_;simp only[Hf.h r (Ah ..),hr,h1,h2];exact⟨q1.1,h'⟩
        simp_all
       simp_all
      .rename_i r n hs;cases hf;rw[hs]at q1 JD;simp only at q1 JD;split at q1
       .rename_i sz es hr;split at q1
        .rename_i h1;refine⟨_,some (r,_),q1.2,fun r o' e=>B0,fun st2 Hf K' h'=>JD st2 Hf K' ?_⟩;split
         .omega
         .refine q2 st2.h (Hk r rfl st2 Hf) _ ?_;simp only[Hf.h r (Ah ..),hr,h1];exact⟨q1.1,h'⟩
        simp_all
       simp_all
      simp_all
   simp_all
  simp_all
 | [],hk,_=>exact hk.elim
 | [_],hk,_=>exact hk.elim
 |_::_::_::_,hk,_=>exact hk.elim
theorem Rb(t:Nat):Gj (KA T t):=by
 unfold KA
 repeat' split
 all_goals first | exact Cn | exact CW _
theorem UW(ty:Nat)(ok:Bool)(BU:List (Value×AV))(kx:Value):Gj (My T ty ok BU kx):=by
 unfold My
 repeat' split
 .refine gP (P0 fun a=>DO (CW _)) (DO ?_);intro K hk;obtain⟨v,h1,h2⟩:=Rb T _ _ hk<;>grind [Rb]
 .exact gP (P0 fun a=>DO (CW _)) (DO (Rb T _))
 .exact Cn
theorem bM(ty:Nat)(sh:E1)(k:AV){F:Value->(AV->Prop)->Prop}(h:∀x,Gj (F x)):Gj fun K=>Kv T ty sh k fun kx=>F kx K:=by
 unfold Kv
 repeat' split
 all_goals grind [Cn]
theorem Yk{t:Nat}{m k:Operand}{ok:Bool}(hk:FZ cx true ⟨dst,.lookup t m k ok,ty,pos,after,gd⟩ st K)(hf:Fo cx ⟨dst,.lookup t m k ok,ty,pos,after,gd⟩ st=some (R,w)) :
  De cx ⟨dst,.lookup t m k ok,ty,pos,after,gd⟩ st R w K:=by
 simp only[FZ]at hk;have hn:∀st2,Alike ⟨dst,.lookup t m k ok,ty,pos,after,gd⟩ R st st2->ev st2.t m=ev st.t m/\ev st2.t k=ev st.t k:=fun st2 ha=>⟨ha.t m (by simp[Op.operands]),ha.t k (by simp[Op.operands])⟩;simp only[Fo]at hf;unfold Nc at hk;split at hf
 .rename_i sh BU hm;cases hf;rw[hm]at hk;simp only at hk;exact .pick (bM _ _ _ _ fun _=>UW _ _ _ _ _) hk fun st2 ha K' h=>by grind [FZ,Nc]
 .rename_i r hm;cases hf;rw[hm]at hk;simp only at hk;split at hk
  all_goals first | exact hk.elim | (rename_i e;exact .pick (bM _ _ _ _ fun _=>UW _ _ _ _ _) hk fun st2 ha K' h=>by grind [FZ,Nc,Alike.h])
 simp_all
theorem ph(t:Nat)(h:Nat->HO)(x:AV):Gj (RT T t h x):=by
 unfold RT
 repeat' split
 all_goals first | exact Cn | exact CW _
theorem xD{T:GK}{t:Nat}{h h2:Nat->HO}{x:AV}(e:∀r,x=.mref r->h2 r=h r){K:AV->Prop}:RT T t h2 x K=RT T t h x K:=by
 cases x<;>first | rfl | skip
 grind [RT]
theorem js{Hb:Array TypeId}(hk:FZ cx true ⟨dst,.call ⟨.builtin .len,#[x],Hb⟩,ty,pos,after,gd⟩ st K)(hf:Fo cx ⟨dst,.call ⟨.builtin .len,#[x],Hb⟩,ty,pos,after,gd⟩ st=some (R,w)) :
  De cx ⟨dst,.call ⟨.builtin .len,#[x],Hb⟩,ty,pos,after,gd⟩ st R w K:=by
 have hk:F4 cx dst st.h .len Hb.toList [ev st.t x] K:=hk;have hf:G6 cx dst (.builtin .len) st.t [ev st.t x]=some (R,w):=hf;have hn:∀st2,Alike ⟨dst,.call ⟨.builtin .len,#[x],Hb⟩,ty,pos,after,gd⟩ R st st2->ev st2.t x=ev st.t x:=fun st2 ha=>ha.t x (by simp[Op.operands,Call.operands]);have JD:∀st2,Alike ⟨dst,.call ⟨.builtin .len,#[x],Hb⟩,ty,pos,after,gd⟩ R st st2->∀K' : HK,F4 cx dst st2.h .len Hb.toList [ev st.t x] K'->FZ cx true ⟨dst,.call ⟨.builtin .len,#[x],Hb⟩,ty,pos,after,gd⟩ st2 K':=by
  intro st2 ha K' h;rw[<-hn st2 ha]at h;exact h
 generalize Hb.toList=l at hk JD
 match l,hk,JD with
 | [t],hk,JD=>
  grind [G6,ph,F4,xD,De.pick,Alike.h]
 | [],hk,_=>exact hk.elim
 |_::_::_,hk,_=>exact hk.elim
end
theorem sM(h:IV l n=true):n∈l:=by
 induction l<;>grind [IV,DK]
theorem ZT(G:Nat->HO):∀(σ:Jd) (h:Nat->HO),EB σ=true->(fun i=>match Cw σ i with | some j=>G j | none=>h i)=Il h (σ.map fun p=>(p.1,G p.2))
 | [],h,_=>rfl
 |(i,j)::r,h,hσ=>by
  unfold EB at hσ;simp only[At]at hσ;have ih:=ZT G r (AO h i (G j)) hσ.2
  grind [Il,AO,Cw,DK]
theorem Wj(hσ:EB σ=true){h h' : Nat->HO}:Eh σ d 0 h h'=Il h (σ.map fun p=>(p.1,(h' p.2).ren (Fr σ d 0) h')):=by
 rw[<-ZT (fun j=>(h' j).ren (Fr σ d 0) h') σ h hσ]
 grind [Eh,Nat.blt,Nat.ble_eq]
section
variable {cx:Cx}{op:Op}{dst:Option Nat}{ty:Nat}{pos:String}{after:Array Edge}{gd:Option (Nat×Bool)}{st:St}{R:List Nat}{w:Option Nat}{K:HK}
theorem De.toL(h:De cx ⟨dst,op,ty,pos,after,gd⟩ st R w K):SI cx ⟨dst,op,ty,pos,after,gd⟩ st R w K:=by
 obtain⟨v,e,h1,h2,h3⟩:=h;cases e with
 |none=>exact⟨v,[],h1,fun r o' e=>(by cases e),h3⟩
 |some p=>exact⟨v,[p],h1,fun r o' e=>by
   obtain rfl:=AQ.1 e;obtain⟨a,b⟩:=h2 r o' rfl;exact⟨by rw[a];exact .inl rfl,b⟩,h3⟩
theorem du{c:Call}(hk:FZ cx true ⟨dst,.call c,ty,pos,after,gd⟩ st K)(hf:Fo cx ⟨dst,.call c,ty,pos,after,gd⟩ st=some (R,w)):SI cx ⟨dst,.call c,ty,pos,after,gd⟩ st R w K:=by
 obtain⟨zh,args,Hb⟩:=c;have LW:∀st2,Alike ⟨dst,.call ⟨zh,args,Hb⟩,ty,pos,after,gd⟩ R st st2->args.toList.map (ev st2.t)=args.toList.map (ev st.t):=fun st2 ha=>
  CC fun x hx=>ha.t x (by grind [Op.operands,Call.operands])
 cases zh with
 |invoke r m=>exact hk.elim
 |value f=>
  have hk:Gu cx true dst st (ev st.t f) (args.toList.map (ev st.t)) K:=hk;have hf:G6 cx dst (.value f) st.t (args.toList.map (ev st.t))=some (R,w):=hf;unfold G6 at hf;unfold Gu at hk;simp only at hf hk;have hn:=LW;split at hf
  .rename_i gg;rw[gg]at hk;cases hf;obtain⟨res,h1,h2⟩:=hk;refine De.toL ⟨res,none,h2,fun r o' e=>(by cases e),fun st2 ha K' h'=>?_⟩;show Gu cx true dst st2 (ev st2.t f) (args.toList.map (ev st2.t)) K';rw[LW st2 ha,ha.t f (by simp[Op.operands,Call.operands])];unfold Gu;simp only[gg];refine⟨res,?_,h'⟩
   grind [La,Ru,Alike.h]
  .rename_i gg;rw[gg]at hk;simp only at hk;cases dst with
   |none=>simp_all
   |some d=>
    obtain⟨n,sz,es,h1,h2,h3⟩:=hk;have hf:some (BJ d 0::(aH (ev st.t f)++Up (args.toList.map (ev st.t))),some (BJ d 0))=some (R,w):=hf;cases hf;refine De.toL ⟨_,some (BJ d 0,_),h3,fun r o' e=>B0,fun st2 ha K' h'=>?_⟩;show Gu cx true (some d) st2 (ev st2.t f) (args.toList.map (ev st2.t)) K';rw[LW st2 ha,ha.t f (by simp[Op.operands,Call.operands])];unfold Gu;simp only[gg];refine⟨n,sz,es,?_,?_,h'⟩
    all_goals grind [Eb,La,Ru,Alike.h]
  .rename_i gg;rw[gg]at hk;have hk:Sm cx 0 dst st.h (ev st.t f) (args.toList.map (ev st.t)) K:=hk;split at hf
   .rename_i r n l hl;cases hf;have Qr:=hk;unfold Sm at Qr;rw[hl]at Qr;split at Qr
    .rename_i d0 f0 r0 n0 l0 e1 e2 z1 z2;cases e2;split at Qr
     .rename_i vs gp;split at Qr
      .rename_i sz es hr;obtain⟨n',FR,h1,h2⟩:=Qr;refine De.toL ⟨_,some (r,_),h2,fun r o' e=>B0,fun st2 ha K' h'=>?_⟩;show Gu cx true _ st2 (ev st2.t f) (args.toList.map (ev st2.t)) K';rw[LW st2 ha,ha.t f (by simp[Op.operands,Call.operands]),hl,e1];unfold Gu;simp only[gg];unfold Sh;simp only;unfold Sm;simp only[gp,ha.h r (Ah ..),hr];exact⟨n',FR,h1,h'⟩
      simp_all
     simp_all
    simp_all
   simp_all
  .rename_i k gg;rw[gg]at hk;cases hb:Nat.beq k 1 with
   |true=>
    have dz:Nat.beq (k+1) 2=true:=hb;have hk:Y1 cx dst st (ev st.t f) (args.toList.map (ev st.t)) K:=by
     simp_all
    rw[hb]at hf;cases dst with
    |none=>exact hk.elim
    |some d=>
     obtain⟨sz,es,h1,h2,h3⟩:=hk;have hf:some (BJ d 0::(aH (ev st.t f)++Up (args.toList.map (ev st.t))),some (BJ d 0))=some (R,w):=hf;cases hf;refine De.toL ⟨_,some (BJ d 0,_),h3,fun r o' e=>B0,fun st2 ha K' h'=>?_⟩;show Gu cx true (some d) st2 (ev st2.t f) (args.toList.map (ev st2.t)) K';rw[LW st2 ha,ha.t f (by simp[Op.operands,Call.operands])];unfold Gu;simp only[gg,dz];refine⟨sz,es,?_,?_,h'⟩
     all_goals grind [Eb,La,Ru,Alike.h]
   |false=>
    have dz:Nat.beq (k+1) 2=false:=hb;rw[hb]at hf;have Qr:(match Nat.beq (k+1) 2 with | true=>Y1 cx dst st (ev st.t f) (args.toList.map (ev st.t)) K | false=>match Nat.beq (k+1) 3 with | true=>Vq cx dst st (ev st.t f) (args.toList.map (ev st.t)) K | false=>Sh cx (k+1) dst st (ev st.t f) (args.toList.map (ev st.t)) K):=hk;rw[dz]at Qr;cases hc:Nat.beq k 2 with
    |true=>
     have hc2:Nat.beq (k+1) 3=true:=hc;rw[hc]at hf;simp only[hc2]at Qr;have hf:mY (args.toList.map (ev st.t))=some (R,w):=hf;unfold mY at hf;unfold Vq at Qr;split at hf
     .rename_i vs gp;cases hf;split at Qr
      .rename_i l lC e1 e2 z1 z2;rw[gp]at e2;cases e2;split at Qr
       .rename_i r sz es ic n e3 e4;obtain⟨⟨rfl,rfl⟩,v,FR,n',h1,h2⟩:=Qr;refine⟨_,[(1001,_),(1000,_)],h2,fun r' o' e=>?_,fun st2 ha K' h'=>?_⟩
        .rcases AZ.1 e with e | e
         .cases e
          exact⟨.inr (.inl ⟨by decide,.inr Wk⟩),by simp⟩
         .obtain e:=AQ.1 e;cases e;exact⟨.inr (.inl ⟨by decide,.inl Wk⟩),by simp⟩
        show Gu cx true _ st2 (ev st2.t f) (args.toList.map (ev st2.t)) K';rw[LW st2 ha,ha.t f (by simp[Op.operands,Call.operands]),e1];unfold Gu;simp only[gg,dz,hc2];unfold Vq;simp only[gp,ha.h 1000 Cl,ha.h 1001 Cl,e3,e4];exact⟨⟨trivial,trivial⟩,v,FR,n',h1,h'⟩
       simp_all
      simp_all
     simp_all
    |false=>
    have hc2:Nat.beq (k+1) 3=false:=hc;rw[hc]at hf;have jz:Sh cx (k+1) dst st (ev st.t f) (args.toList.map (ev st.t)) K:=by
     simp_all
    have wT:mW k dst (args.toList.map (ev st.t))=some (R,w):=hf;unfold mW at wT;unfold Sh at jz;cases he:Nat.beq k 3 with
    |true=>
     have qE:Nat.beq (k+1) 4=true:=he;rw[he]at wT;rw[qE]at jz;have wT:some (rR,some XN)=some (R,w):=wT;have jz:aw cx dst st (ev st.t f) (args.toList.map (ev st.t)) K:=jz;cases wT;unfold aw at jz;split at jz
     .rename_i d f' caps e2 _ _ _;obtain⟨σ,H0,Hn,args',res,g1,g2,g3,g4⟩:=jz;simp only[At]at g2;refine⟨_,σ.map fun p=>(p.1,(Ak Hn Ae p.2).ren (Fr σ d 0) (Ak Hn Ae)),(Wj (h:=st.h) (h':=Ak Hn Ae) (d:=d) g2.1.1)▸g4,fun r' o' e=>?_,fun st2 ha K' h'=>?_⟩
      .obtain⟨p,hp,e⟩:=Ay.1 e;cases e;exact⟨.inr (.inr rfl),sM (AS.1 g2.2 p hp)⟩
      .show Gu cx true _ st2 (ev st2.t f) (args.toList.map (ev st2.t)) K';rw[LW st2 ha,ha.t f (by simp[Op.operands,Call.operands])];unfold Gu;simp only[gg,dz,hc2];unfold Sh;simp only[qE];unfold aw
       grind [Wj,Alike.h]
     simp_all
    |false=>
    have qE:Nat.beq (k+1) 4=false:=he;rw[he]at wT;rw[qE]at jz;have hf:fT dst (args.toList.map (ev st.t))=some (R,w):=wT;have hk:Sm cx (k+1) dst st.h (ev st.t f) (args.toList.map (ev st.t)) K:=jz;obtain⟨d,r,n,l,rfl,hl,e0⟩:=dq hf;cases e0;unfold Sm at hk;rw[hl]at hk;split at hk
    .rename_i d0 f0 r0 n0 l0 e9 e1 e2;cases e9;cases e2;split at hk
     .rename_i vs gp;split at hk
      .rename_i sz es hr;obtain⟨n',FR,h0,h1,h2⟩:=hk;have h00:=h0;simp only[At,IA]at h00;refine⟨_,[(r,.dead),(BJ d 0,_)],h2,fun r' o' e=>?_,fun st2 ha K' h'=>?_⟩
       .rcases AZ.1 e with e | e
        .cases e
         refine⟨.inr (.inl ⟨by grind [BJ],.inl ?_⟩),Ah ..⟩;omega
        .obtain e:=AQ.1 e;cases e;refine⟨.inr (.inl ⟨by grind [BJ],.inr ?_⟩),Am _ (Ah ..)⟩;omega
       show Gu cx true _ st2 (ev st2.t f) (args.toList.map (ev st2.t)) K';rw[LW st2 ha,ha.t f (by simp[Op.operands,Call.operands]),hl,e1];unfold Gu;simp only[gg,dz,hc2];unfold Sh;simp only[qE];unfold Sm;simp only[gp,ha.h r (Ah ..),hr]
       have:Eb st2.h d 1=Eb st.h d 1:=by grind [Eb,Alike.h]
       exact⟨n',FR,by simp_all,h1,h'⟩
      simp_all
     simp_all
    simp_all
 |builtin b=>
  refine De.toL ?_;have mm:∀f:Int->Int->Int,(∀(d:Option Nat) (h:Nat->HO) (Hb:List Nat) (args:List AV) (K:HK),F4 cx d h b Hb args K=(match args with | [x,y]=>sO f x y fun v=>K v h | _=>False))->R=[]/\w=none->De cx ⟨dst,.call ⟨.builtin b,args,Hb⟩,ty,pos,after,gd⟩ st R w K:=by
   rintro f hb ⟨rfl,rfl⟩
   have hk:F4 cx dst st.h b Hb.toList (args.toList.map (ev st.t)) K:=hk;rw[hb]at hk;split at hk
   .rename_i x y e;refine .pick (tn f x y) hk fun st2 ha K' h=>?_;show F4 cx dst st2.h b Hb.toList (args.toList.map (ev st2.t)) K';simp_all
   simp_all
  cases b
  case max=>exact mm max (fun d h Hb args K=>by cases args with | nil=>rfl | cons x l=>cases l with | nil=>rfl | cons y l=>cases l<;>rfl) (by
   have hf:G6 cx dst (.builtin .max) st.t (args.toList.map (ev st.t))=some (R,w):=hf
   grind [G6])
  case min=>exact mm min (fun d h Hb args K=>by cases args with | nil=>rfl | cons x l=>cases l with | nil=>rfl | cons y l=>cases l<;>rfl) (by
   have hf:G6 cx dst (.builtin .min) st.t (args.toList.map (ev st.t))=some (R,w):=hf
   grind [G6])
  case append=>
   obtain⟨l⟩:=args
   match l,hk,hf with
   | [s,x],hk,hf=>grind [Yh]
   | [],hk,hf=>cases Hb;exact hk.elim
   | [_],hk,hf=>exact hk.elim
   |_::_::_::_,hk,hf=>exact hk.elim
  case len=>
   obtain⟨l⟩:=args
   match l,hk,hf with
   | [x],hk,hf=>grind [js]
   | [],hk,hf=>exact hk.elim
   |_::_::_,hk,hf=>exact hk.elim
  all_goals exact hk.elim
theorem cP(hc:∀c,o.op≠.call c)(hs:(∃t x lo hi mx,o.op=.slice t x lo hi mx)->Tt cx.pl.tok o.dst=none)(hk:FZ cx true o st K)(hf:Fo cx o st=some (R,w)):De cx o st R w K:=by
 obtain⟨dst,op,ty,pos,after,gd⟩:=o;cases op with
 |call c=>simp_all
 |alloc e=>grind [aq]
 |box e x=>grind [jr]
 |buildSlice t n ps=>grind [QM]
 |makeSlice t n c=>grind [Ss]
 |makeMap t r=>grind [VG]
 |store t p x=>grind [ar]
 |mapUpdate t m k x=>grind [Su]
 |makeFunc fn first cap=>grind [T9]
 |load t p=>grind [dv]
 |assign x=>grind [Yj]
 |slice t x lo hi mx=>grind [RN]
 |lookup t x i ok=>grind [Yk]
 |move x=>
  cases hf
  exact .pick (CW _) hk fun st2 ha K' h=>by grind [FZ,Op.operands,Alike.t]
 |pick c a b=>
  cases hf
  exact .pick (kF _ _ _) hk fun st2 ha K' h=>by grind [FZ,Op.operands,Alike.t]
 |nilCheck x=>
  grind [pi,FZ,Op.operands,De.pick,Alike.t]
 |binOp op t x y u=>
  simp only[Fo]at hf;split at hf
  .cases hf
  .rename_i hx;cases hf;exact .pick (kD _ _ _ _ _ _ hx) hk fun st2 ha K' h=>by grind [FZ,Op.operands,Alike.t]
 |unOp op t x=>
  grind [kG,FZ,Op.operands,De.pick,Alike.t]
 |convert s t x=>
  grind [kE,FZ,Op.operands,De.pick,Alike.t]
 |fieldAddr s x f=>
  grind [eD,FZ,Op.operands,De.pick,Alike.t]
 |field s x f=>
  grind [bL,FZ,Op.operands,De.pick,Alike.t]
 |indexAddr t x i=>
  cases hf
  exact .pick (UX _ _ _ _) hk fun st2 ha K' h=>by grind [FZ,Op.operands,Alike.t]
 |index t x i=>
  cases hf
  exact .pick (eF _ _ _ _) hk fun st2 ha K' h=>by grind [FZ,Op.operands,Alike.t]
 |extract x i=>
  grind [YL,FZ,Op.operands,De.pick,Alike.t]
 |build t ps=>
  cases hf
  refine .pick (eu _ _ _ _) hk fun st2 ha K' h=>?_;have hx:∀p∈ps.toList,ev st2.t p.2=ev st.t p.2:=fun p hp=>ha.t p.2 (by
   grind [Op.operands])
  simp only[FZ];have fill:∀(pl:Nat->Option (Nat×Nat)) (l:List (Nat×Operand)) (cs:List AV) (K:List AV->Prop),(∀p∈l,ev st2.t p.2=ev st.t p.2)->KO pl cs st2.t l K=KO pl cs st.t l K:=by
   intro pl l
   induction l with
   |nil=>intro cs K _;rfl
   |cons p l ih=>
    intro cs K hp;obtain⟨i,x⟩:=p;have h1:ev st2.t x=ev st.t x:=hp (i,x) (Ah ..);have h2:∀cs,KO pl cs st2.t l K=KO pl cs st.t l K:=fun cs=>ih cs K (fun p xc=>hp p (Am _ xc));simp only[KO,h1,h2]
  unfold QC at h⊢;simp only[fill _ _ _ _ hx];exact h
 |_=>cases hf
theorem iK(hk:FZ cx true o st K)(hf:Fo cx o st=some (R,w)):SI cx o st R w K:=by
 obtain⟨dst,op,ty,pos,after,gd⟩:=o
 by_cases h:∃c,op=.call c
 .grind [du]
 .by_cases h2:∃t x lo hi mx,op=.slice t x lo hi mx
  .obtain⟨t,x,lo,hi,mx,rfl⟩:=h2;cases hp:Tt cx.pl.tok dst<;>grind [De.toL,RN,jt]
  grind [De.toL,cP]
end
theorem jq(h:∀x∈o.op.operands,ev st2.t x=ev st.t x):Fo cx o st2=Fo cx o st:=by
 obtain⟨dst,op,ty,pos,after,gd⟩:=o;cases op with
 |call c=>
  obtain⟨zh,args,Hb⟩:=c;have ha:args.toList.map (ev st2.t)=args.toList.map (ev st.t):=CC fun x hx=>h x (by grind [Op.operands,Call.operands]);simp only[Fo];rw[ha];cases zh with
  |value f=>
   have hf:ev st2.t f=ev st.t f:=h f (by simp[Op.operands,Call.operands]);simp only[G6,hf]
  |builtin b=>
   generalize args.toList.map (ev st.t)=l
   match l with
   | []=>cases b<;>rfl
   | [x]=>cases b<;>cases x<;>rfl
   | [x,y]=>cases b<;>cases x<;>rfl
   |x::_::_::_=>cases b<;>cases x<;>rfl
  |invoke r m=>rfl
 |box e x=>grind [Fo,Op.operands]
 |buildSlice t n ps=>
  grind [List.map_congr_left,Op.operands,Fo]
 |store t p x=>grind [Fo,Op.operands]
 |mapUpdate t m k x=>grind [Fo,Op.operands]
 |makeFunc fn first cap=>
  grind [List.map_congr_left,Op.operands,Fo]
 |load t p=>grind [Fo,Op.operands]
 |assign x=>grind [Fo,Op.operands]
 |binOp op t x y u=>grind [Fo,Op.operands]
 |slice t x lo hi mx=>grind [Fo,Op.operands]
 |lookup t x i ok=>grind [Fo,Op.operands]
 |_=>rfl
def Looks(o:Oper)(st st2:St):Prop:=∀d∈o.looksAt ops,st2.t d=st.t d
theorem Looks.operands{ops:Array Oper}{o:Oper}{st st2:St}(h:Looks ops o st st2):∀x∈o.op.operands,ev st2.t x=ev st.t x:=fun x hx=>by
 cases x with
 |tmp t=>exact h t (CE _ (List.mem_filterMap.2 ⟨.tmp t,by simp_all,rfl⟩))
 |_=>rfl
theorem WX(j:Nat):LD ops.toList j=(ops[j]?).bind (·.dst):=by
 have:∀(l:List Oper) (j:Nat),LD l j=(l[j]?).bind (·.dst):=by
  intro l
  induction l with
  |nil=>grind [LD]
  |cons o l ih=>
   intro j;cases j<;>grind [LD]
 simp_all
theorem Looks.guard{ops:Array Oper}(h:Looks ops o st st2){j:Nat}{b:Bool}(hg:o.guard=some (j,b))(hd:LD ops.toList j=some d):st2.t d=st.t d:=
 h d (Cv _ (by grind [WX]))
def St.after(st:St)(o:Oper)(v:AV)(e:List (Nat×HO)):St:=st.put o.dst v (Il st.h e)
def Qy(cx:Cx)(ops:Array Oper)(o:Oper)(st:St)(f:FF)(v:AV)(e:List (Nat×HO)):Prop:=
 (∀r o',(r,o')∈e->Td f.2 r/\r∈f.1)/\∀st2,Looks ops o st st2->(∀r∈f.1,st2.h r=st.h r)->∀K:St->Prop,K (st2.after o v e)->I1 cx true ops.toList o st2 K
theorem T7{ops:Array Oper}(h:Looks ops o st st2):NP cx ops.toList o st2=NP cx ops.toList o st:=by
 grind [NP,jq,Looks.operands,Looks.guard]
theorem OS{ops:Array Oper}(hk:I1 cx true ops.toList o st K)(hf:NP cx ops.toList o st=some f) :
  ∃v e,Qy cx ops o st f v e/\K (st.after o v e):=by
 obtain⟨R,w⟩:=f;have skip:R=[]/\w=none->K (st.put o.dst (.v undef) st.h)->(∀st2,Looks ops o st st2->∀K:St->Prop,K (st2.put o.dst (.v undef) st2.h)->I1 cx true ops.toList o st2 K)->∃v e,Qy cx ops o st (R,w) v e/\K (st.after o v e):=by
  rintro⟨rfl,rfl⟩ h1 h2
  exact⟨.v undef,[],⟨fun r o' e=>(by cases e),fun st2 hl _ K h=>h2 st2 hl K h⟩,h1⟩
 have run:Fo cx o st=some (R,w)->FZ cx true o st (fun v h=>K (st.put o.dst v h))->(∀st2,Looks ops o st st2->∀K:St->Prop,FZ cx true o st2 (fun v h=>K (st2.put o.dst v h))->I1 cx true ops.toList o st2 K)->∃v e,Qy cx ops o st (R,w) v e/\K (st.after o v e):=by
  intro hf hk h2;obtain⟨v,e,q1,q2,q3⟩:=iK hk hf;exact⟨v,e,⟨q2,fun st2 hl hh K h=>h2 st2 hl K (q3 st2 ⟨hl.operands,hh⟩ _ h)⟩,q1⟩
 unfold I1 at hk;unfold NP at hf;cases hg:o.guard with
 |none=>
  rw[hg]at hk hf;exact run hf hk (fun st2 hl K h=>by unfold I1;rw[hg];exact h)
 |some p=>
  obtain⟨j,want⟩:=p;rw[hg]at hk hf;simp only at hk hf;cases hd:LD ops.toList j with
  |none=>simp_all
  |some d=>
   rw[hd]at hk hf;simp only at hk hf;have he:∀st2,Looks ops o st st2->st2.t d=st.t d:=fun st2 hl=>hl.guard hg hd;generalize hx:st.t d=x at hk hf he;split at hk
   .exact run hf hk (fun st2 hl K h=>by unfold I1;simp only[hg,hd,he st2 hl];exact h)
   .exact run hf hk (fun st2 hl K h=>by unfold I1;simp only[hg,hd,he st2 hl];exact h)
   all_goals grind [I1]
def zP(cx:Cx)(ops:Array Oper)(FT:Nat->FF)(i:Nat)(K:St->Prop)(st:St):Prop:=
 match ops[i]? with
 |none=>K st
 |some o=>NP cx ops.toList o st=some (FT i)/\I1 cx true ops.toList o st K
def Zt(cx:Cx)(ops:Array Oper)(FT:Nat->FF)(K:St->Prop):Nat->Array Bool->St->Prop
 |0,listed,st=>Region.ready .any ops listed=[]/\K st
 |fuel+1,listed,st=>
  (Region.ready .any ops listed=[]->K st)/\∀i∈Region.ready .any ops listed,zP cx ops FT i (Zt cx ops FT K fuel (listed.setIfInBounds i true)) st
theorem ll(t:Nat->AV)(h:d'≠d)(v v' : AV):JU (JU t d v) d' v'=JU (JU t d' v') d v:=by
 grind [JU,DK]
theorem jC(t:Nat->HO)(h:d'≠d)(v v' : HO):AO (AO t d v) d' v'=AO (AO t d' v') d v:=by
 grind [AO,DK]
theorem bf(h:n∈l):IV l n=true:=by
 induction l<;>grind [IV,Nat.beq_refl]
theorem bj(h:IV l n=true):n∈l:=by
 induction l<;>grind [IV,DK]
theorem bD{x:Nat}(h:bB l x=true):∀r,Td (some x) r->r∉l:=by
 intro r hc hr;unfold bB at h
 by_cases hx:x=XN
 .subst hx;rw[Nat.beq_refl,cond_true]at h;cases l with
  |nil=>cases hr
  |cons a l=>cases h
 rw[DK hx,F7]at h;simp only[At,JV,FA,IA]at h;rcases hc with rfl | ⟨h1,h2⟩ | hc<;>grind [bf]
theorem je{a b:FF}(h:TP a b=true):(∀r,Td a.2 r->r∉b.1)/\∀r,Td b.2 r->r∉a.1:=by
 obtain⟨a1,a2⟩:=a;obtain⟨b1,b2⟩:=b;simp only[TP,At]at h;refine⟨fun r e=>?_,fun r e=>?_⟩
 .cases a2 with
  |none=>exact e.elim
  |some x=>grind [bD]
 .cases b2 with
  |none=>exact e.elim
  |some x=>grind [bD]
section
variable {cx:Cx}{ops:Array Oper}{FT:Nat->FF}
theorem RV{oi oj:Oper}(h:∀d,oi.dst=some d->d∉oj.looksAt ops)(st:St)(v:AV)(e:List (Nat×HO)):Looks ops oj st (st.after oi v e):=by
 intro d hd;cases hdst:oi.dst with
 |none=>grind [St.after,St.put]
 |some d'=>
  have:d≠d':=fun q=>h d' hdst (q▸hd)
  simp[St.after,St.put,hdst,JU,DK this]
theorem Looks.symm{o:Oper}{st st2:St}(h:Looks ops o st st2):Looks ops o st2 st:=fun d hd=>(h d hd).symm
theorem fY{o:Oper}{v:AV}{e:List (Nat×HO)}:(st.after o v e).h=Il st.h e:=by
 unfold St.after St.put;grind
theorem QI{r:Nat}:∀{e:List (Nat×HO)} {h:Nat->HO},(∀o',(r,o')∉e)->Il h e r=h r
 | [],_,_=>rfl
 |p::e,h,hr=>by
  have:r≠p.1:=fun q=>hr p.2 B0
  show Il (AO h p.1 p.2) e r=h r;rw[QI fun o' ho=>hr o' (Am _ ho),BR _ _ _ _ this]
theorem ZU{r:Nat}{o:HO}:∀{e:List (Nat×HO)} {h:Nat->HO},(∀r' o',(r',o')∈e->r'≠r)->Il (AO h r o) e=AO (Il h e) r o
 | [],_,_=>rfl
 |p::e,h,hr=>by
  show Il (AO (AO h r o) p.1 p.2) e=AO (Il (AO h p.1 p.2) e) r o;rw[jC h (hr p.1 p.2 (Ah ..)),ZU fun r' o' ho=>hr r' o' (Am _ ho)]
theorem Wz:∀{e e' : List (Nat×HO)} {h:Nat->HO},(∀r o r' o',(r,o)∈e->(r',o')∈e'->r'≠r)->Il (Il h e) e'=Il (Il h e') e
 | [],_,_,_=>rfl
 |p::e,e',h,hd=>by
  show Il (Il (AO h p.1 p.2) e) e'=Il (AO (Il h e') p.1 p.2) e;rw[<-ZU fun r' o' ho=>hd p.1 p.2 r' o' (Ah ..) ho,Wz fun r o r' o' h1 h2=>hd r o r' o' (Am _ h1) h2]
theorem cO{oi oj:Oper}{v v' : AV}{e e' : List (Nat×HO)}(h1:∀d,oi.dst=some d->oj.dst≠some d)(h2:∀r o r' o',(r,o)∈e->(r',o')∈e'->r'≠r) :
  (st.after oi v e).after oj v' e'=(st.after oj v' e').after oi v e:=by
 have hh:Il (Il st.h e) e'=Il (Il st.h e') e:=Wz h2;have key:∀o:Oper,∀v e,∀st:St,st.after o v e=⟨match o.dst with | none=>st.t | some d=>JU st.t d v,Il st.h e⟩:=fun o v e st=>by
  grind [St.after,St.put]
 grind [ll]
theorem cL{i:Nat}{oi:Oper}{v:AV}{e:List (Nat×HO)}(hi:ops[i]?=some oi)(D:Nat->Prop)(hD:∀j,D j->∃oj,ops[j]?=some oj/\∃ed∈oj.after,Region.binds .any ed=true/\(ed.on=i\/D ed.on)) :
  ∀(fuel:Nat) (listed:Array Bool) (st:St),
   (∀j oj,ops[j]?=some oj->j≠i->listed.getD j true=false->¬D j->oi.apart ops oj=true/\TP (FT i) (FT j)=true) ->
   i∈Region.ready .any ops listed->(∀j,D j->listed.getD j true=false)->NP cx ops.toList oi st=some (FT i)->Qy cx ops oi st (FT i) v e ->
   Zt cx ops FT K fuel (listed.setIfInBounds i true) (st.after oi v e)->Zt cx ops FT K (fuel+1) listed st:=by
 have here:∀(fuel:Nat) (listed:Array Bool) (st:St),NP cx ops.toList oi st=some (FT i)->Qy cx ops oi st (FT i) v e ->
   Zt cx ops FT K fuel (listed.setIfInBounds i true) (st.after oi v e)->zP cx ops FT i (Zt cx ops FT K fuel (listed.setIfInBounds i true)) st:=by
  intro fuel listed st hf hy H;unfold zP;rw[hi];exact⟨hf,hy.2 st (fun _ _=>rfl) (fun _ _=>rfl) _ H⟩
 intro fuel
 induction fuel with
 |zero=>
  intro listed st _ hr _ hf hy H;refine⟨fun h=>B0,fun j hj=>?_⟩
  by_cases G8:j=i
  .simp_all
  .have:=ready_mono hj G8
   rw[H.1]at this;simp_all
 |succ fuel ih=>
  intro listed st Ae hr hDl hf hy H;refine⟨fun h=>B0,fun j hj=>?_⟩
  by_cases G8:j=i
  .simp_all
  .have h1:=H.2 j (ready_mono hj G8);obtain⟨AfB,oj,w9,Gl⟩:=mem_ready.1 hj;have Ajr:∀k,listed.getD k true=false->listed.getD k false=true->False:=fun k h0 h1=>by
    grind
   have hnD:¬D j:=fun hdj=>by
    grind [mem_ready]
   obtain⟨hap,hdj⟩:=Ae j oj w9 G8 AfB hnD;obtain⟨a1,a2,a3⟩:=Oper.apart_spec hap;obtain⟨d1,d2⟩:=je hdj;unfold zP at h1⊢;rw[w9]at h1⊢;obtain⟨hfj,hkj⟩:=h1;have hlj:=RV (ops:=ops) a1 st v e;obtain⟨vj,ej,hyj,hK⟩:=OS hkj hfj;have he1:∀r o',(r,o')∈e->r∉(FT j).1:=fun r o' q=>d1 r (hy.1 r o' q).1;have qE:∀r o',(r,o')∈ej->r∉(FT i).1:=fun r o' q=>d2 r (hyj.1 r o' q).1;refine⟨by grind [T7],hyj.2 st hlj.symm (fun r xe=>?_) _ ?_⟩
   .rw[fY,QI (fun o' q=>he1 r o' q xe)]
   .have hli:=RV (ops:=ops) a3 st vj ej;refine ih (listed.setIfInBounds j true) (st.after oj vj ej) (fun k ok hk hki zD Qs=>?_) (ready_mono hr (Ne.symm G8)) (fun k hk=>?_) (by grind [T7]) ⟨hy.1,fun st2 hl hh K' h'=>?_⟩ ?_
    .by_cases hjk:j=k
     .simp_all
     .rw[getD_set_ne true hjk]at zD;grind
    .by_cases hjk:j=k
     all_goals simp_all
    .refine hy.2 st2 (fun d hd=>(hl d hd).trans (hli d hd)) (fun r xe=>?_) K' h';rw[hh r xe,fY,QI (fun o' q=>qE r o' q xe)]
    .rw[Array.setIfInBounds_comm _ _ (Ne.symm G8)]at hK;rw[<-cO a2 (fun r o r' o' q q' e2=>qE r' o' q' (by rw[e2];exact(hy.1 r o q).2))];exact hK
def vK(cx:Cx)(ops:Array Oper)(K:St->Prop):List Oper->List FF->St->Prop
 | [],[],st=>K st
 |o::r,f::fs,st=>NP cx ops.toList o st=some f/\∃v e,Qy cx ops o st f v e/\vK cx ops K r fs (st.after o v e)
 |_,_,_=>False
theorem Tj{K:St->Prop}:∀(l:List Oper) (acc:List FF) (st:St),Zz cx ops l acc st K->∃fs,TQ ops (acc.reverse++fs)=true/\vK cx ops K l fs st
 | [],acc,st,h=>⟨[],by simpa using h.1,h.2⟩
 |o::r,acc,st,h=>by
  unfold Zz at h;split at h
  .rename_i f hf;obtain⟨v,e,h1,h2⟩:=OS h hf;obtain⟨fs,q1,q2⟩:=Tj r _ _ h2;exact⟨f::fs,by simp_all,hf,v,e,h1,q2⟩
  simp_all
theorem Yn{o:Oper}{i:Nat}{D:List Nat}(h:Px o i D=true):∃ed∈o.after,Region.binds .any ed=true/\(ed.on=i\/ed.on∈D):=by
 grind [Px,Nat.eq_of_beq_eq_true,bj]
theorem Vi{i:Nat}{D:List Nat}:∀(l:List Oper) (k:Nat),Vh i D k l=true->∀j o,l[j]?=some o->k+j∈D->Px o i D=true
 | [],_,_,_,_,h,_=>by simp_all
 |o::l,k,hs,j,o',h,hm=>by
  simp only[Vh,At]at hs;cases j with
  |zero=>
   grind [bf]
  |succ j=>exact Vi l (k+1) hs.2 j o' B0 aa0
theorem We{oi:Oper}{fi:FF}{D:List Nat}:∀(l:List Oper) (fs:List FF) (k:Nat),IE ops oi fi D k l fs=true->l.length=fs.length/\∀j o f,l[j]?=some o->fs[j]?=some f->k+j∉D->oi.apart ops o=true/\TP fi f=true
 | [],[],_,_=>⟨rfl,fun _ _ _ h=>by simp_all⟩
 | [],_::_,_,h=>by grind [IE]
 |_::_,[],_,h=>by grind [IE]
 |o::l,f::fs,k,h=>by
  simp only[IE,At,JV]at h;obtain⟨h1,h2⟩:=We l fs (k+1) h.2<;>grind [bj]
theorem Zu{K:St->Prop}:∀(l:List Oper) (fs:List FF) (k:Nat) (listed:Array Bool) (st:St),(∀j,l[j]?=ops[k+j]?)->(∀j f,fs[j]?=some f->FT (k+j)=f)->listed.size=ops.size ->
  (∀j,j<ops.size->listed.getD j true=decide (j<k))->Mu ops ops.toList k l fs=true->vK cx ops K l fs st->Zt cx ops FT K l.length listed st
 | [],[],k,listed,st,hl,_,hs,hL,_,h=>by
  refine⟨?_,h⟩;apply L6.2;intro j hj;obtain⟨h1,o,ho,_⟩:=mem_ready.1 hj;have EU:=(Co.1 ho).1;rw[hL j EU]at h1;have hge:k<=j:=B0
  have:=hl (j-k)
  simp_all
 | [],_::_,_,_,_,_,_,_,_,h,_=>by grind [Mu]
 |_::_,[],_,_,_,_,_,_,_,h,_=>by grind [Mu]
 |o::l,f::fs,k,listed,st,hl,hF,hs,hL,hg,h=>by
  simp only[Mu,At]at hg;obtain⟨⟨⟨⟨g1,g2⟩,g3⟩,g4⟩,g5⟩:=hg;obtain⟨hf,v,e,hy,hp⟩:=h;have h0:ops[k]?=some o:=by simpa using(hl 0).symm
  have hk:=(Co.1 h0).1;have hFk:FT k=f:=by simpa using hF 0 f rfl
  have Sx : ∀j,l[j]?=ops[k+1+j]?:=fun j=>by have:=hl (j+1);grind
  have hF' : ∀j f,fs[j]?=some f->FT (k+1+j)=f:=fun j f' hj=>by have:=hF (j+1) f' B0;grind
  obtain⟨Dr,hap⟩:=We l fs (k+1) g4;have rZ:∀j,j∈QG k [] 0 ops.toList->k<j/\j<ops.size:=fun j hj=>by
   simp_all
  refine cL h0 (fun j=>j∈QG k [] 0 ops.toList) (fun j hj=>?_) l.length listed st (fun j oj w9 hjk zD hnD=>?_) ?_ (fun j hj=>?_) B0 (by rw[hFk];exact hy) ?_
  .have EU:=(rZ j hj).2
   have:=Vi ops.toList 0 g2 j ops[j] B0 B0
   grind [Yn]
  .have EU:=(Co.1 w9).1;rw[hL j EU]at zD;have hge:k<j:=aa0
   have e1:l[j-(k+1)]?=some oj:=aa0
   grind
  .grind [mem_ready,Nat.blt_eq]
  .grind
  .refine Zu l fs (k+1) _ _ Sx hF' B0 (fun j hj=>?_) g5 hp
   by_cases hjk:j=k
   .simp_all
   .rw[getD_set_ne true (Ne.symm hjk),hL j hj]
    grind
theorem iG(h:Zz cx ops ops.toList [] st K):Region.noSelect ops=true/\∃FT,Zt cx ops FT K ops.size (Array.replicate ops.size false) st:=by
 obtain⟨fs,h1,h2⟩:=Tj _ _ _ h;simp only[TQ,List.reverse_nil,VX,At]at h1;refine⟨h1.1,fun j=>fs.getD j default,?_⟩
 have:=Zu (FT:=fun j=>fs.getD j default) ops.toList fs 0 (Array.replicate ops.size false) st Cl (fun j f hj=>by simp_all) Cl (fun j hj=>by simp_all) h1.2 h2
 omega
end
theorem Yx:∀{σ:Jd},GY σ=true->∀i j,Cw σ i=some j↔Ia σ j=some i
 | [],_,i,j=>by simp[Cw,Ia]
 |(a,b)::r,h,i,j=>by
  simp only[GY,At]at h;obtain⟨h1,h2⟩:=h;have ih:=Yx h2
  grind [Cw,Ia,Nat.beq_refl,DK]
theorem o0:∀{σ:Jd},EB σ=true->GY σ=true
 | [],_=>rfl
 |(a,b)::r,h=>by
  simp only[EB,At]at h;simp only[GY,At];exact⟨h.1.1.1,o0 h.2⟩
theorem YQ(h:EB σ=true):∀i j,Cw σ i=some j↔Ia σ j=some i:=Yx (o0 h)
theorem Xg:∀{σ:Jd},EB σ=true->∀{i j},Cw σ i=some j->1000<=j/\j<2000
 | [],_,i,j,h=>by grind [Cw]
 |(a,b)::r,h,i,j,hf=>by
  simp only[EB,At,Nat.ble_eq,IA]at h;unfold Cw at hf
  by_cases e1:a=i
  .simp_all
  .simp only[DK e1,F7]at hf;exact Xg h.2 hf
theorem Qd(f:Nat->Option Nat)(h:Nat->HO):∀(σ:Jd) (j:Nat),Ak (YP f h σ) Ae j=match Ia σ j with | some i=>(h i).ren f h | none=>.free
 | [],j=>rfl
 |(a,b)::r,j=>by
  unfold YP Ak Ia
  by_cases e:b=j
  .simp_all
  .simp only[DK e,DK (Ne.symm e),F7];exact Qd f h r j
structure F3(f:Nat->Option Nat)(h h2:Nat->HO)(g g2:Gh)(w:World):Prop where
 ids:∀r r',f r=some r'->AJ h r->g2.tk r'=g.tk r/\g2.ln r'=g.ln r/\g2.ρ r'=g.ρ r/\g2.own r'=g.own r/\AJ h2 r'
 S:∀b o,g2.S b o↔g.S b o
 objs:∀r,DR g w (AJ h) r (h r)
section
variable {f:Nat->Option Nat}{h h2:Nat->HO}{g g2:Gh}{w:World}
theorem F3.keeps(hR:F3 f h h2 g g2 w):EF g w g2 w:=fun b o hs=>⟨(hR.S b o).2 hs,rfl,fun _ _ e=>e⟩
theorem F3.noU(hR:F3 f h h2 g g2 w){av:AV}{x:Value}(r:Ba g w FD av x):Ba g2 w (AJ h2) av x:=r.mono hR.keeps (fun _ h=>h.elim) (fun _ h=>h.elim)
theorem Ba.ren0(hR:F3 f h h2 g g2 w){av:AV}{x:Value}(r:Ba g w (AJ h) av x):Ba g2 w (AJ h2) (ren0 f h av) x:=by
 have down:Ba g2 w (AJ h2) (Eng.str0 h av) x:=hR.noU (Ba.str0 hR.objs r);cases av with
 |v y=>exact down
 |slice tk es=>
  cases tk with
  |none=>exact down
  |full sz=>exact down
  |id i sz=>
   simp only[Eng.ren0];split
   .rename_i i' e;cases r<;>grind [tok,Ba.slice_none,F3.ids,F3.noU]
   .exact hR.noU r.slice_none
  |ver i sz v=>
   simp only[Eng.ren0];split
   .rename_i i' e;cases r<;>grind [ver,Ba.slice_none,F3.ids,F3.noU]
   .exact hR.noU r.slice_none
 |msl i n=>
  simp only[Eng.ren0];split
  .rename_i i' e;cases r<;>grind [msl,F3.ids]
  grind [junk]
 |agg cs=>exact down
 |tup cs=>exact down
 |cptr cs=>exact down
 |ref i off=>
  simp only[Eng.ren0];split
  .rename_i i' e;cases r<;>grind [ref,F3.ids]
  omega
 |eref i n sz k off=>
  simp only[Eng.ren0];split
  .rename_i i' e;cases r<;>grind [eref,F3.ids]
  grind [junk]
 |mref i=>
  simp only[Eng.ren0];split
  .rename_i i' e;cases r<;>grind [mref,F3.ids]
  omega
 |cmap sh BU=>exact down
 |clo i cs=>exact down
 |junk=>exact down
theorem Ba.ren1(hR:F3 f h h2 g g2 w){av:AV}{x:Value}(r:Ba g w (AJ h) av x):Ba g2 w (AJ h2) (ren1 f h av) x:=by
 cases av with
 |agg cs=>
  cases r with
  |agg _ _ vs hs h1 hr=>
   exact .agg _ _ vs B0 h1 fun i av x q1 q2=>by
    grind [ren0]
 |clo i cs=>
  cases r with
  |clo _ _ _ vs hs hr=>
   exact .clo _ _ _ vs B0 fun i av x q1 q2=>by
    grind [ren0]
 |_=>exact r.ren0 hR
theorem Ba.ren(hR:F3 f h h2 g g2 w){av:AV}{x:Value}(r:Ba g w (AJ h) av x):Ba g2 w (AJ h2) (ren f h av) x:=by
 cases av with
 |tup cs=>
  cases r with
  |tup _ _ vs hs hr=>
   exact .tup _ _ vs B0 fun i av x q1 q2=>by
    grind [ren1]
 |_=>exact r.ren1 hR
theorem MS(f:Nat->Option Nat)(h:Nat->HO)(o:HO):(o.ren f h).live↔o.live:=by cases o<;>exact Iff.rfl
theorem MT(f:Nat->Option Nat)(h:Nat->HO)(o:HO):o.ren f h≠.free↔o≠.free:=by cases o<;>simp[HO.ren]
theorem DR.ren(hR:F3 f h h2 g g2 w){i j:Nat}(az:f i=some j)(hu:AJ h i){o:HO}(r:DR g w (AJ h) i o):DR g2 w (AJ h2) j (o.ren f h):=by
 obtain⟨k1,k2,k3,k4,k5⟩:=hR.ids i j az hu;have noL:∀{cs:List AV} {vs:List Value},Ck g w FD cs vs->Ck g2 w FD cs vs:=fun hr=>hr.mono hR.keeps (fun _ h=>h) (fun _ h=>h.elim);have no1:∀{av:AV} {x:Value},Ba g w FD av x->Ba g2 w FD av x:=fun hr=>hr.mono hR.keeps (fun _ h=>h) (fun _ h=>h.elim);cases o with
 |free=>trivial
 |dead=>trivial
 |cells cs=>
  obtain⟨t,b,E,vs,a1,a2,a3,a4,a5⟩:=r;refine⟨k1.trans t,b,E,vs,k4.trans a1,k3.trans a2,a3,⟨by simp[a4.1],a4.2.1,fun i av x q1 q2=>?_⟩,fun o ho=>a5 o ((hR.S b o).1 ho)⟩;rw[B1]at q1;obtain⟨a,q3,rfl⟩:=Cj.1 q1;exact(a4.2.2 i a x q3 q2).ren1 hR
 |ro cs=>
  obtain⟨t,b,a1,a2⟩:=r;exact⟨k1.trans t,b,k3.trans a1,no1 a2⟩
 |tok sz n=>
  obtain⟨t,l,a,cap,a1,a2⟩:=r;refine⟨k1.trans t,k2.trans l,a,cap,k3.trans a1,?_⟩
  grind [F3.S]
 |var sz v n=>
  obtain⟨t,l,a,cap,a1,a2⟩:=r;refine⟨k1.trans t,k2.trans l,a,cap,k3.trans a1,?_⟩
  grind [F3.S]
 |vox v=>exact⟨k1.trans r.1,k2.trans r.2⟩
 |hol sz es i c av=>
  obtain⟨t,l,al,b,cap,E,vs,b1,b2,b3,b4,b5,b6,b7,b8,x,b9,Wi⟩:=r;exact⟨k1.trans t,k2.trans l,al,b,cap,E,vs,k3.trans b1,k4.trans b2,b3,b4,b5,noL b6,fun o ho=>b7 o ((hR.S b o).1 ho),b8,x,b9,Wi.ren1 hR⟩
 |bld x=>
  obtain⟨t,b,p,v,a1,a2,a3,a4,a5,a6⟩:=r;exact⟨k1.trans t,b,p,v,k4.trans a1,k3.trans a2,a3,a4,a5.ren1 hR,fun o ho=>a6 o ((hR.S b o).1 ho)⟩
 |bbf n=>
  obtain⟨t,l,a1⟩:=r;refine⟨k1.trans t,k2.trans l,?_⟩
  grind [F3.S]
 |raw b ob=>
  obtain⟨t,a1,a2,a3,a4⟩:=r;exact⟨k1.trans t,k4.trans a1,a2,a3,fun o ho=>a4 o ((hR.S b o).1 ho)⟩
 |arr sz es=>
  obtain⟨t,l,al,a2⟩:=r;refine⟨k1.trans t,k2.trans l,al,?_⟩;rcases a2 with ⟨b1,b2,b3⟩ | ⟨b,cap,E,vs,b1,b2,b3,b4,b5,b6,b7⟩
  .simp_all
  .exact .inr ⟨b,cap,E,vs,k3.trans b1,k4.trans b2,b3,b4,b5,noL b6,fun o ho=>b7 o ((hR.S b o).1 ho)⟩
 |map sh BU=>
  obtain⟨t,b,es,ck,a1,a2,a3,a4,a5,a6⟩:=r;exact⟨k1.trans t,b,es,ck,k4.trans a1,k3.trans a2,a3,a4,fun i kv e q1 q2=>no1 (a5 i kv e q1 q2),fun o ho=>a6 o ((hR.S b o).1 ho)⟩
 |mapU sh BU=>
  obtain⟨t,b,es,ck,a1,a2,a3,a4,a5,a6⟩:=r;refine⟨k1.trans t,b,es,ck,k4.trans a1,k3.trans a2,a3,WT _ a4,fun i kv e q1 q2=>?_,fun o ho=>a6 o ((hR.S b o).1 ho)⟩
  grind [Ba.ren1]
 |rom sh BU=>
  obtain⟨t,b,a1,a2⟩:=r;exact⟨k1.trans t,b,k3.trans a1,no1 a2⟩
 |iter all rem Ep=>
  obtain⟨t,b,mb,Kp,seen,st,es,ck,a1,a2,a3,a4,a5,a6,a7,a8,a9,Zs,fp,a12,vM⟩:=r;exact⟨k1.trans t,b,mb,Kp,seen,st,es,ck,k4.trans a1,k3.trans a2,a3,(hR.S _ _).2 a4,a5,a6,a7,a8,fun i kv e q1 q2=>no1 (a9 i kv e q1 q2),Zs,fp,a12,fun o ho=>vM o ((hR.S b o).1 ho)⟩
end
end Go.Eng
