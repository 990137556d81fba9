/- Lemmas 32. -/
import Derived.Test.YteaiieomnhbmgaaGreatDoorAA31
set_option maxHeartbeats 4000000
namespace Go.Eng
open Go.Proofs Go.Proofs.Tryz
variable {Al:List (List CS)}{l m:List Sl}{p:CS}{n:Int}{v:S8}(x:List Rl)(s a:CS)(nodes:List CS)(t:CS)(k:Nat)(b:CS)(ifs:C0)
theorem gr1{x:List Rl}(h:Ix x l m=0):wL x l m=.tup [.agg [sl Af (D2 l m),sl Ft (G5 x l m (rm l m) (rm l m).length 0)],vi 0]:=Ax h
theorem gr0{x:List Rl}(h:¬Ix x l m=0):wL x l m=.tup [.agg [nzA,nzA],vi (Ix x l m)]:=AA h
theorem oD(hl:FU l)(hm:FU m)(h1:l.length<=16)(h2:m.length<=16):(D2 l m).length<=32:=by grind [YS,D2]
theorem l8(l m:List Sl)(mv:List CS):(Dx (OG l m mv)).length<=l.length+m.length:=by
 grind [Ip,OG,List.length_append,List.Perm.length_eq]
def Wl(Al:List (List CS))(i k:Nat):Bool:=match Al[i]? with
 |none=>false
 |some p=>match p[k]? with
  |none=>false
  |some s=>(decide (0<k)&&!Dq (p[k-1]?.getD s) s)||(CV ((Al.take i).flatten++p.take k) s||!CV nodes s)
def oZ(Al:List (List CS)):Prop:=∀i (h:i<Al.length),Al[i]≠[]/\∀k,k<Al[i].length->Wl nodes Al i k=false
section
variable {nodes:List CS}{Al:List (List CS)}{i k:Nat}
theorem lR{b c:Bool}(hi:i<Al.length)(hk:k<Al[i].length)(h:¬(0:Int)<(k:Int))(h1:CV ((Al.take i).flatten++Al[i].take k) Al[i][k]=b)(h2:CV nodes Al[i][k]=c):Wl nodes Al i k=(b||!c):=by
 grind [Wl]
theorem re{b c:Bool}(hi:i<Al.length)(hk:k<Al[i].length)(Qr:k-1<Al[i].length)(h0:Dq Al[i][k-1] Al[i][k]=true)(h1:CV ((Al.take i).flatten++Al[i].take k) Al[i][k]=b)(h2:CV nodes Al[i][k]=c):Wl nodes Al i k=(b||!c):=by
 grind [Wl]
theorem zW(hi:i<Al.length)(hk:k<Al[i].length)(Qr:k-1<Al[i].length)(h:(0:Int)<(k:Int))(h0:Dq Al[i][k-1] Al[i][k]=false):Wl nodes Al i k=true:=by
 grind [Wl]
theorem lS(hi:i<Al.length)(hk:k<Al[i].length)(h1:CV ((Al.take i).flatten++Al[i].take k) Al[i][k]=true):Wl nodes Al i k=true:=by
 grind [Wl]
theorem lU(hi:i<Al.length)(hk:k<Al[i].length)(h2:CV nodes Al[i][k]=false):Wl nodes Al i k=true:=by
 grind [Wl]
theorem bu(hi:i<Al.length)(hk:k<Al[i].length)(h:Wl nodes Al i k=true):¬oZ nodes Al:=fun c=>by have q:=(c i hi).2 k hk;simp_all
theorem xJ(hi:i<Al.length)(h:Al[i].length=0):¬oZ nodes Al:=fun c=>(c i hi).1 (FB.1 h)
theorem Po(hi:i<Al.length):(Al.take (i+1)).flatten=(Al.take i).flatten++Al[i]:=by grind [List.take_succ_eq_append_getElem]
theorem T4{N:Nat}(h:∀p∈Al,p.length<=N):∀i,(Al.take i).flatten.length<=i*N
 |0=>by simp
 |i+1=>by
  have q:=T4 h i
  grind [Po,List.take_of_length_le]
end
theorem XS{nodes:List CS}{i k:Nat}(hi:i<Al.length)(hk:k<Al[i].length):Wl nodes Al i k=false↔(∀_:0<k,Dq (Al[i][k-1]' ch) Al[i][k]=true)/\Al[i][k]∉(Al.take i).flatten++Al[i].take k/\Al[i][k]∈nodes:=by
 grind [Wl,PJ]
theorem dV{α:Type}{l:List α}{a:α}(h:l.Nodup)(ha:a∉l):(l++[a]).Nodup:=aa0
theorem bE{nodes:List CS}{Al:List (List CS)}(h:oZ nodes Al):∀i,i<=Al.length->(Al.take i).flatten.Nodup
 |0,_=>by simp
 |i+1,hi=>by
  have q:=bE h i ch;rw[Po (show i<Al.length by omega)];have go:∀k,k<=Al[i].length->((Al.take i).flatten++Al[i].take k).Nodup:=fun k=>by
   induction k with
   |zero=>simp_all
   |succ k ih=>
    intro hk;rw[A6 (show k<Al[i].length by omega),<-BT];exact dV (ih ch) ((XS ch ch).1 ((h i ch).2 k ch)).2.1
  grind [List.take_length]
theorem wI{x:CS}(h:x∈Al.flatten):∃i,∃hi:i<Al.length,∃k,∃hk:k<Al[i].length,Al[i][k]=x:=by
 grind [List.mem_flatten,List.mem_iff_getElem]
theorem mU{i k:Nat}(hi:i<Al.length)(hk:k<Al[i].length)(hn:Al.flatten.Nodup):Al[i][k]∉(Al.take i).flatten++Al[i].take k:=by
 have e:Al.flatten=((Al.take i).flatten++Al[i].take k)++Al[i][k]::(Al[i].drop (k+1)++(Al.drop (i+1)).flatten):=by
  grind [List.drop_eq_getElem_cons,List.take_append_drop]
 grind
theorem Km(hs:(D2 l m).Pairwise fun a b=>Dq a b=true):(oZ (D2 l m) Al/\Al.flatten.length=(D2 l m).length)↔(Al.all VO=true/\Iq Al.flatten=D2 l m):=by
 have nN:(D2 l m).Nodup:=hs.imp fun h=>Ih h;constructor
 .rintro⟨h,hl⟩
  have hn:Al.flatten.Nodup:=by have q:=bE h Al.length (Ao _);simp_all
  have nR:∀x∈Al.flatten,x∈D2 l m:=fun x hx=>by
   obtain⟨i,hi,k,hk,rfl⟩:=wI hx;exact((XS hi hk).1 ((h i hi).2 k hk)).2.2
  refine⟨AS.2 fun p hp=>?_,yd hn hs nR (bv hn nR ch)⟩;obtain⟨i,hi,rfl⟩:=DS.1 hp;unfold VO;rw[MV.2 fun k hk=>Jn (((XS hi hk).1 ((h i hi).2 (k+1) hk)).1 ch),Bool.and_true]
  have:=(h i hi).1
  simp_all
 .rintro⟨h,he⟩
  have pm:Al.flatten.Perm (D2 l m):=by grind [HA,List.Perm.symm]
  have hn:Al.flatten.Nodup:=pm.nodup_iff.2 nN;refine⟨fun i hi=>?_,pm.length_eq⟩
  grind [List.getElem_mem,VO,XS,mU,List.mem_flatten,Jo,MV,List.mem_take_iff_getElem]
theorem yS(l m:List Sl)(mv:List CS)(hx:∀r∈x,CX r)(HE:BD x)(Hk:∀r∈x,r.reqs.length<=1000)(Ei:l.length<=16)(Dd:m.length<=16)(_hmv:BD mv)(c0:¬Ix x l m=0):PC 57 [.agg (Ic x ifs),sl Ab l,sl Ab m,sl Af mv] (J4 x l m mv):=by
 have hl:l.length<=1000:=Av Ei Wk;have Kg:m.length<=1000:=Av Dd Wk;have hG:PC 95 [.agg (Ic x ifs),sl Ab l,sl Ab m] (.tup [.agg [nzA,nzA],vi (Ix x l m)]):=gr0 c0▸Ta x ifs l m hx HE Hk hl Kg;refine Ps (pC [4] []) func57 rfl C4 (yN (C1 (C2 hG (yN (J (fun _=>?_) (fun hf=>absurd c0 hf))))));exact BC.of_eq (show AV.tup [nzA,vi (Ix x l m)]=J4 x l m mv by rw[J4,KJ,AA c0,AA c0])
theorem yT(l m:List Sl)(mv:List CS)(hx:∀r∈x,CX r)(HE:BD x)(Hk:∀r∈x,r.reqs.length<=1000)(Ei:l.length<=16)(Dd:m.length<=16)(Pz:BD mv)(c0:Ix x l m=0):PC 57 [.agg (Ic x ifs),sl Ab l,sl Ab m,sl Af mv] (J4 x l m mv):=by
 have hl:l.length<=1000:=Av Ei Wk;have Kg:m.length<=1000:=Av Dd Wk;have Rm:=D8 (If c0).1 (Av hl Wk);have bU:=D8 (If c0).2 (Av Kg Wk);have hG:PC 95 [.agg (Ic x ifs),sl Ab l,sl Ab m] (.tup [.agg [sl Af (D2 l m),sl Ft (G5 x l m (rm l m) (rm l m).length 0)],vi 0]):=gr1 c0▸Ta x ifs l m hx HE Hk hl Kg;have w7:BD (D2 l m):=Av (oD Rm bU Ei Dd) Wk;refine Ps (pC [4] []) func57 rfl C4 (yN (C1 (C2 hG (yN (J (fun h=>absurd h Wk) (fun _=>?_))))));refine I {q:Nat // q<=mv.length/\(mv.drop q).any (fun p=>!CV (D2 l m) p)=mv.any (fun p=>!CV (D2 l m) p)} (I (fun q=>⟨[(1,sl Ab l),(2,sl Ab m),(3,sl Af mv),(10,.ref 10 0),(12,vi q.1)],[(10,.cells [sl Af (D2 l m),sl Ft (G5 x l m (rm l m) (rm l m).length 0)])],Ae⟩) (I (fun q=>mv.length-q.1) (J (I ⟨0,Aj _,rfl⟩ ?_) ?_)))
 .exact⟨Z5,Z1,Fh,C⟩
 intro⟨i,i1,i2⟩;have i1:i<=mv.length:=i1;have i2:(mv.drop i).any (fun p=>!CV (D2 l m) p)=mv.any (fun p=>!CV (D2 l m) p):=i2;refine J (fun h1=>?_) (fun h1=>?_)
 .have h1:(i:Int)<((mv.map Af).length:Int):=h1;have n1:=Dh h1;refine I (Af mv[i]) (J (DC n1) (J rfl (A1 (Bt (CV (D2 l m) mv[i])) (fun h2=>?_) (fun h2=>?_))))
  .have h2:(CV (D2 l m) mv[i])=true:=h2;refine C2 (cb h2 (Gn (D2 l m) mv[i] w7)) (J aa1 (J (Ii i ch) (I ⟨i+1,n1,To n1 (show(!CV (D2 l m) mv[i])=false by rw[h2];rfl) i2⟩ ?_)));exact⟨Dl mv.length i ch,Z5,Z1,Fh,C⟩
  have h2:(CV (D2 l m) mv[i])=false:=h2;refine C2 (cb h2 (Gn (D2 l m) mv[i] w7)) (J aa1 ?_);have eq:mv.any (fun p=>!CV (D2 l m) p)=true:=Tp n1 (show(!CV (D2 l m) mv[i])=true by rw[h2];rfl) i2;exact BC.of_eq (show AV.tup [nzA,vi 6]=J4 x l m mv by rw[J4,KJ,Ax c0,eq];rfl)
 have h1:¬((i:Int)<((mv.map Af).length:Int)):=h1;have n1:=BB h1;refine C1 (C2 (vF l m mv Rm bU Pz) ?_);have eq:mv.any (fun p=>!CV (D2 l m) p)=false:=Tn (AE (BB h1)) i2;exact BC.of_eq (show AV.tup [sl Ab (l7 l m mv),vi 0]=J4 x l m mv by rw[XW mv Rm.inc bU.inc,J4,KJ,Ax c0,eq];rfl)
theorem vE(l m:List Sl)(mv:List CS)(hx:∀r∈x,CX r)(HE:BD x)(Hk:∀r∈x,r.reqs.length<=1000)(Ei:l.length<=16)(Dd:m.length<=16)(Pz:BD mv):PC 57 [HZ x ifs,sl Ab l,sl Ab m,sl Af mv] (J4 x l m mv):=if c:Ix x l m=0 then yT x ifs l m mv hx HE Hk Ei Dd Pz c else yS x ifs l m mv hx HE Hk Ei Dd Pz c
theorem yU(l m:List Sl)(Al:List (List CS))(hx:∀r∈x,CX r)(HE:BD x)(Hk:∀r∈x,r.reqs.length<=1000)(Ei:l.length<=16)(Dd:m.length<=16)(_hpl:Al.length<=1000)(_hpe:∀p∈Al,p.length<=1000)(c0:¬Ix x l m=0):PC 59 [.agg (Ic x ifs),sl Ab l,sl Ab m,sl Bd Al] (vi (Fm x l m Al)):=by
 have hl:l.length<=1000:=Av Ei Wk;have Kg:m.length<=1000:=Av Dd Wk;have hG:PC 95 [.agg (Ic x ifs),sl Ab l,sl Ab m] (.tup [.agg [nzA,nzA],vi (Ix x l m)]):=gr0 c0▸Ta x ifs l m hx HE Hk hl Kg;refine Ps (pC [4] []) func59 rfl C4 (yN (C1 (C2 hG (yN (J (fun _=>?_) (fun hf=>absurd c0 hf))))));exact BC.of_eq (Aa vi (show Ix x l m=Fm x l m Al by rw[Fm,AA c0]))
theorem TF{x:List Rl}(c0:Ix x l m=0)(h:¬(Al.all VO=true/\Iq Al.flatten=D2 l m)):1=Fm x l m Al:=by
 rw[Fm,Ax c0];split
 .rename_i h1;rw[AA fun h2=>h ⟨h1,h2⟩]
 .rfl
theorem wB{x:List Rl}{j:Nat}(c0:Ix x l m=0)(h:Al.all VO=true/\Iq Al.flatten=D2 l m)(hj:j<Al.length)(hw:qv x l m Al j=false):17=Fm x l m Al:=by
 rw[Fm,Ax c0,Ax h.1,Ax h.2,AA];intro c;have q:=AS.1 c j (G3.2 hj);rw[hw]at q;cases q
theorem wA{x:List Rl}(c0:Ix x l m=0)(h:Al.all VO=true/\Iq Al.flatten=D2 l m)(hw:∀j,j<Al.length->qv x l m Al j=true):0=Fm x l m Al:=by
 rw[Fm,Ax c0,Ax h.1,Ax h.2,Ax];exact AS.2 fun j hj=>hw j (G3.1 hj)
theorem yV(l m:List Sl)(Al:List (List CS))(hx:∀r∈x,CX r)(HE:BD x)(Hk:∀r∈x,r.reqs.length<=1000)(Ei:l.length<=16)(Dd:m.length<=16)(dE:Al.length<=1000)(Mg:∀p∈Al,p.length<=1000)(c0:Ix x l m=0):PC 59 [.agg (Ic x ifs),sl Ab l,sl Ab m,sl Bd Al] (vi (Fm x l m Al)):=by
 have hl:l.length<=1000:=Av Ei Wk;have Kg:m.length<=1000:=Av Dd Wk;have Rm:=D8 (If c0).1 (Av hl Wk);have bU:=D8 (If c0).2 (Av Kg Wk);have hG:PC 95 [.agg (Ic x ifs),sl Ab l,sl Ab m] (.tup [.agg [sl Af (D2 l m),sl Ft (G5 x l m (rm l m) (rm l m).length 0)],vi 0]):=gr1 c0▸Ta x ifs l m hx HE Hk hl Kg;have w7:BD (D2 l m):=Av (oD Rm bU Ei Dd) Wk;have u6:=sQ Rm.inc bU.inc;refine Ps (pC [4] [13,15,16,23]) func59 rfl C4 (yN (C1 (C2 hG (yN (J (fun h=>absurd h Wk) (fun _=>?_))))));refine I {q:Nat // q<=Al.length/\(∀j (hj:j<Al.length),j<q->Al[j]≠[]/\∀k,k<Al[j].length->Wl (D2 l m) Al j k=false)} (I (fun q=>⟨[(1,sl Ab l),(2,sl Ab m),(3,sl Bd Al),(4,.ref 4 0),(9,.ref 9 0),(11,.slice (.id 26 1) (((Al.take q.1).flatten).map Af)),(12,vi q.1)],[(4,.ro (Ic x ifs)),(9,.cells [sl Af (D2 l m),sl Ft (G5 x l m (rm l m) (rm l m).length 0)]),(26,.tok 1 (((Al.take q.1).flatten).map Af).length)],Ae⟩) (I (fun q=>Al.length-q.1) (J (I ⟨0,Aj _,fun j hj h1=>absurd h1 (DX _)⟩ ?_) ?_)))
 .exact⟨Z7,Z3,Fh,C⟩
 intro⟨i,i1,i2⟩;have i1:i<=Al.length:=i1;have i2:∀j (hj:j<Al.length),j<i->Al[j]≠[]/\∀k,k<Al[j].length->Wl (D2 l m) Al j k=false:=i2;have if_:((Al.take i).flatten).length<=1000000:=(by have q:=T4 Mg i;omega);refine J (fun h1=>?_) (fun h1=>?_)
 .have h1:(i:Int)<((Al.map Bd).length:Int):=h1;have n1:=Dh h1;refine I (Bd Al[i]) (J (DC n1) (J rfl (J (fun h2=>?_) (fun h2=>?_))))
  .have h2:((Al[i].map Af).length:Int)=(0:Int):=h2;have hn:¬(oZ (D2 l m) Al/\Al.flatten.length=(D2 l m).length):=fun c=>xJ n1 (by have q:=h2;rw[Lm]at q;omega) c.1;exact BC.of_eq (Aa vi (TF c0 (fun c=>hn ((Km u6).2 c))))
  have h2:¬(((Al[i].map Af).length:Int)=(0:Int)):=h2;refine I {q:Nat // q<=Al[i].length/\(∀j,j<Al[i].length->j<q->Wl (D2 l m) Al i j=false)} (I (fun q=>⟨[(1,sl Ab l),(2,sl Ab m),(3,sl Bd Al),(4,.ref 4 0),(9,.ref 9 0),(11,.slice (.id 26 1) (((Al.take i).flatten++Al[i].take q.1).map Af)),(12,vi i),(13,vi q.1)],[(4,.ro (Ic x ifs)),(9,.cells [sl Af (D2 l m),sl Ft (G5 x l m (rm l m) (rm l m).length 0)]),(26,.tok 1 (((Al.take i).flatten++Al[i].take q.1).map Af).length)],Ae⟩) (I (fun q=>Al[i].length-q.1) (J (I ⟨0,Aj _,fun j _ h1=>absurd h1 (DX _)⟩ ?_) ?_)))
  .exact⟨⟨B,B,B,B,B,⟨(Aa (fun E:List CS=>AV.slice (.id 26 1) (E.map Af)) (show((Al.take i).flatten)=(Al.take i).flatten++Al[i].take 0 by rw[List.take_zero,Bg])),rfl⟩,B,B,C⟩,⟨B,B,⟨(Aa (fun E:List CS=>HO.tok 1 (E.map Af).length) (show((Al.take i).flatten)=(Al.take i).flatten++Al[i].take 0 by rw[List.take_zero,Bg])),rfl⟩,C⟩,Fh,C⟩
  intro⟨k,k1,k2_⟩;have k1:k<=Al[i].length:=k1;have k2_:∀j,j<Al[i].length->j<k->Wl (D2 l m) Al i j=false:=k2_;have ip:Al[i].length<=1000:=Mg _ (Ai n1);have kf:(((Al.take i).flatten++Al[i].take k).map Af).length<=2000000:=(by rw[Lm,Ac,AF];omega);refine I (Bd Al[i]) (J (DC n1) (J rfl (J (fun h4=>?_) (fun h4=>?_))))
  .have h4:(k:Int)<((Al[i].map Af).length:Int):=h4;have n4:=Dh h4;refine cU [(1,sl Ab l),(2,sl Ab m),(3,sl Bd Al),(4,.ref 4 0),(9,.ref 9 0),(11,.slice (.id 26 1) (((Al.take i).flatten++Al[i].take k).map Af)),(12,vi i),(13,vi k)] [(4,.ro (Ic x ifs)),(9,.cells [sl Af (D2 l m),sl Ft (G5 x l m (rm l m) (rm l m).length 0)]),(26,.tok 1 (((Al.take i).flatten++Al[i].take k).map Af).length)] Z8 Z3 (J (fun h5=>?_) (fun h5=>?_))
   .have h5:(0:Int)<(k:Int):=h5;refine I (Bd Al[i]) (J (DC n1) (J rfl (I (Af Al[i][k]) (J (DC n4) (J rfl (I (Bd Al[i]) (J (DC n1) (J rfl (J (by show Az ((k:Int)-(1:Int));unfold Az;omega) (I (Af (Al[i][k-1]' ch)) (J (J (show(0:Int)<=(k:Int)-1 by omega) (by rw[show((k:Int)-1).toNat=k-1 by omega];exact El (Ge ch))) (J rfl ?_))))))))))));refine J (fun h6=>?_) (fun h6=>?_)
    .have h6:Dq (Al[i][k-1]' ch) Al[i][k]=false:=(DZ _ _).trans h6;refine J aa1 ?_;have hn:¬(oZ (D2 l m) Al/\Al.flatten.length=(D2 l m).length):=fun c=>bu n1 n4 (zW n1 n4 ch h5 h6) c.1;exact BC.of_eq (Aa vi (TF c0 (fun c=>hn ((Km u6).2 c))))
    have h6:Dq (Al[i][k-1]' ch) Al[i][k]=true:=(DZ _ _).trans (by simpa using h6);refine I (Bd Al[i]) (J (DC n1) (J rfl (I (Af Al[i][k]) (J (DC n4) (J rfl (A1 (Bt (CV ((Al.take i).flatten++Al[i].take k) Al[i][k])) (fun h8=>?_) (fun h8=>?_)))))))
    .have h8:(CV ((Al.take i).flatten++Al[i].take k) Al[i][k])=true:=h8;refine C2 (cb h8 (Gn ((Al.take i).flatten++Al[i].take k) Al[i][k] (show _<=_ by rw[Lm]at kf;omega))) (J aa1 ?_);have hn:¬(oZ (D2 l m) Al/\Al.flatten.length=(D2 l m).length):=fun c=>bu n1 n4 (lS n1 n4 h8) c.1;exact BC.of_eq (Aa vi (TF c0 (fun c=>hn ((Km u6).2 c))))
    have h8:(CV ((Al.take i).flatten++Al[i].take k) Al[i][k])=false:=h8;refine C2 (cb h8 (Gn ((Al.take i).flatten++Al[i].take k) Al[i][k] (show _<=_ by rw[Lm]at kf;omega))) (I (Bd Al[i]) (J (DC n1) (J rfl (I (Af Al[i][k]) (J (DC n4) (J rfl (A1 (Bt (CV (D2 l m) Al[i][k])) (fun Is=>?_) (fun Is=>?_))))))))
    .have Is:(CV (D2 l m) Al[i][k])=true:=Is;refine C2 (cb Is (Gn (D2 l m) Al[i][k] w7)) (J aa1 (cU [(1,sl Ab l),(2,sl Ab m),(3,sl Bd Al),(4,.ref 4 0),(9,.ref 9 0),(11,.slice (.id 26 1) (((Al.take i).flatten++Al[i].take k).map Af)),(12,vi i),(13,vi k)] [(4,.ro (Ic x ifs)),(9,.cells [sl Af (D2 l m),sl Ft (G5 x l m (rm l m) (rm l m).length 0)]),(26,.tok 1 (((Al.take i).flatten++Al[i].take k).map Af).length)] Z8 Z3 (I (Bd Al[i]) (J (DC n1) (J rfl (I (Af Al[i][k]) (J (DC n4) (J rfl ?_))))))));have rd:Bi 1 [[vs Al[i][k]]]/\(((Al.take i).flatten++Al[i].take k).map Af).length=(((Al.take i).flatten++Al[i].take k).map Af).length/\((((Al.take i).flatten++Al[i].take k).map Af).length+([[vs Al[i][k]]]:C0).length)*16<=140737488355328/\(((Al.take i).flatten++Al[i].take k).map Af).length+([[vs Al[i][k]]]:C0).length<=9223372036854775807:=⟨⟨rfl,trivial⟩,rfl,(by simp only[Lm,Ac,Ap,AC,AF];omega),(by simp only[Lm,Ac,Ap,AC,AF];omega)⟩;refine J rd (J (Ii k ch) ?_);have eb:Wl (D2 l m) Al i k=false:=(re n1 n4 ch h6 h8 Is).trans rfl;have ef:((Al.take i).flatten++Al[i].take k)++[Al[i][k]]=(Al.take i).flatten++Al[i].take (k+1):=by rw[BT,A6 n4]
     refine I ⟨k+1,n4,fun j hj h1=>by rcases Db j k with h2 | h2;exact k2_ j hj h2;have e:j=k:=ch;subst e;exact eb⟩ ?_;exact⟨by show Al[i].length-(k+1)<Al[i].length-k;omega,⟨B,B,B,B,B,⟨(Aa (AV.slice (.id 26 1)) (show((Al.take i).flatten++Al[i].take k).map Af++[[vs Al[i][k]]]=((Al.take i).flatten++Al[i].take (k+1)).map Af by rw[<-ef];exact(Ar (f:=Af) (l₁:=((Al.take i).flatten++Al[i].take k)) (l₂:=[Al[i][k]])).symm)),rfl⟩,B,B,C⟩,⟨B,B,⟨(Aa (HO.tok 1) (show(((Al.take i).flatten++Al[i].take k).map Af).length+([[vs Al[i][k]]]:C0).length=(((Al.take i).flatten++Al[i].take (k+1)).map Af).length by rw[<-ef];simp only[Lm,Ac,Ap,AC])),rfl⟩,C⟩,Fh,C⟩
    have Is:(CV (D2 l m) Al[i][k])=false:=Is;refine C2 (cb Is (Gn (D2 l m) Al[i][k] w7)) (J aa1 ?_);have hn:¬(oZ (D2 l m) Al/\Al.flatten.length=(D2 l m).length):=fun c=>bu n1 n4 (lU n1 n4 Is) c.1;exact BC.of_eq (Aa vi (TF c0 (fun c=>hn ((Km u6).2 c))))
   have h5:¬((0:Int)<(k:Int)):=h5;refine I (Bd Al[i]) (J (DC n1) (J rfl (I (Af Al[i][k]) (J (DC n4) (J rfl (A1 (Bt (CV ((Al.take i).flatten++Al[i].take k) Al[i][k])) (fun Ny=>?_) (fun Ny=>?_)))))))
   .have Ny:(CV ((Al.take i).flatten++Al[i].take k) Al[i][k])=true:=Ny;refine C2 (cb Ny (Gn ((Al.take i).flatten++Al[i].take k) Al[i][k] (show _<=_ by rw[Lm]at kf;omega))) (J aa1 ?_);have hn:¬(oZ (D2 l m) Al/\Al.flatten.length=(D2 l m).length):=fun c=>bu n1 n4 (lS n1 n4 Ny) c.1;exact BC.of_eq (Aa vi (TF c0 (fun c=>hn ((Km u6).2 c))))
   have Ny:(CV ((Al.take i).flatten++Al[i].take k) Al[i][k])=false:=Ny;refine C2 (cb Ny (Gn ((Al.take i).flatten++Al[i].take k) Al[i][k] (show _<=_ by rw[Lm]at kf;omega))) (I (Bd Al[i]) (J (DC n1) (J rfl (I (Af Al[i][k]) (J (DC n4) (J rfl (A1 (Bt (CV (D2 l m) Al[i][k])) (fun Ei=>?_) (fun Ei=>?_))))))))
   .have Ei:(CV (D2 l m) Al[i][k])=true:=Ei;refine C2 (cb Ei (Gn (D2 l m) Al[i][k] w7)) (J aa1 (cU [(1,sl Ab l),(2,sl Ab m),(3,sl Bd Al),(4,.ref 4 0),(9,.ref 9 0),(11,.slice (.id 26 1) (((Al.take i).flatten++Al[i].take k).map Af)),(12,vi i),(13,vi k)] [(4,.ro (Ic x ifs)),(9,.cells [sl Af (D2 l m),sl Ft (G5 x l m (rm l m) (rm l m).length 0)]),(26,.tok 1 (((Al.take i).flatten++Al[i].take k).map Af).length)] Z8 Z3 (I (Bd Al[i]) (J (DC n1) (J rfl (I (Af Al[i][k]) (J (DC n4) (J rfl ?_))))))));have b17:Bi 1 [[vs Al[i][k]]]/\(((Al.take i).flatten++Al[i].take k).map Af).length=(((Al.take i).flatten++Al[i].take k).map Af).length/\((((Al.take i).flatten++Al[i].take k).map Af).length+([[vs Al[i][k]]]:C0).length)*16<=140737488355328/\(((Al.take i).flatten++Al[i].take k).map Af).length+([[vs Al[i][k]]]:C0).length<=9223372036854775807:=⟨⟨rfl,trivial⟩,rfl,(by simp only[Lm,Ac,Ap,AC,AF];omega),(by simp only[Lm,Ac,Ap,AC,AF];omega)⟩;refine J b17 (J (Ii k ch) ?_);have eb:Wl (D2 l m) Al i k=false:=(lR n1 n4 h5 Ny Ei).trans rfl;have ef:((Al.take i).flatten++Al[i].take k)++[Al[i][k]]=(Al.take i).flatten++Al[i].take (k+1):=by rw[BT,A6 n4]
    refine I ⟨k+1,n4,fun j hj h1=>by rcases Db j k with h2 | h2;exact k2_ j hj h2;have e:j=k:=ch;subst e;exact eb⟩ ?_;exact⟨by show Al[i].length-(k+1)<Al[i].length-k;omega,⟨B,B,B,B,B,⟨(Aa (AV.slice (.id 26 1)) (show((Al.take i).flatten++Al[i].take k).map Af++[[vs Al[i][k]]]=((Al.take i).flatten++Al[i].take (k+1)).map Af by rw[<-ef];exact(Ar (f:=Af) (l₁:=((Al.take i).flatten++Al[i].take k)) (l₂:=[Al[i][k]])).symm)),rfl⟩,B,B,C⟩,⟨B,B,⟨(Aa (HO.tok 1) (show(((Al.take i).flatten++Al[i].take k).map Af).length+([[vs Al[i][k]]]:C0).length=(((Al.take i).flatten++Al[i].take (k+1)).map Af).length by rw[<-ef];simp only[Lm,Ac,Ap,AC])),rfl⟩,C⟩,Fh,C⟩
   have Ei:(CV (D2 l m) Al[i][k])=false:=Ei;refine C2 (cb Ei (Gn (D2 l m) Al[i][k] w7)) (J aa1 ?_);have hn:¬(oZ (D2 l m) Al/\Al.flatten.length=(D2 l m).length):=fun c=>bu n1 n4 (lU n1 n4 Ei) c.1;exact BC.of_eq (Aa vi (TF c0 (fun c=>hn ((Km u6).2 c))))
  have h4:¬((k:Int)<((Al[i].map Af).length:Int)):=h4;have n4:=BB h4;refine J (Ii i ch) ?_;have ek:Al[i].take k=Al[i]:=As (AE (BB h4));have ef:((Al.take i).flatten++Al[i].take k)=(Al.take (i+1)).flatten:=by rw[ek,Po n1]
  have en:Al[i]≠[]:=fun e=>h2 (by show((Al[i].map Af).length:Int)=0;rw[e];rfl);refine I ⟨i+1,n1,fun j hj h1=>by rcases Db j i with h2 | h2;exact i2 j hj h2;have e:j=i:=ch;subst e;exact⟨en,fun k2 h2=>k2_ k2 h2 (Bm h2 (AE (BB h4)))⟩⟩ ?_;exact⟨Dl Al.length i ch,⟨B,B,B,B,B,⟨(Aa (fun E:List CS=>AV.slice (.id 26 1) (E.map Af)) ef),rfl⟩,B,C⟩,⟨B,B,⟨(Aa (fun E:List CS=>HO.tok 1 (E.map Af).length) ef),rfl⟩,C⟩,Fh,C⟩
 have h1:¬((i:Int)<((Al.map Bd).length:Int)):=h1;have n1:=BB h1;refine cU [(1,sl Ab l),(2,sl Ab m),(3,sl Bd Al),(4,.ref 4 0),(9,.ref 9 0),(11,.slice (.id 26 1) (((Al.take i).flatten).map Af))] [(4,.ro (Ic x ifs)),(9,.cells [sl Af (D2 l m),sl Ft (G5 x l m (rm l m) (rm l m).length 0)]),(26,.tok 1 (((Al.take i).flatten).map Af).length)] Z6 Z3 (J (fun Uc=>?_) (fun Uc=>?_))
 .have Uc:((((Al.take i).flatten).map Af).length:Int)≠(((D2 l m).map Af).length:Int):=Uc;have hn:¬(oZ (D2 l m) Al/\Al.flatten.length=(D2 l m).length):=fun c=>by have q:=Uc;rw[Lm,Lm,As (AE (BB h1))]at q;exact q (Aa _ c.2)
  exact BC.of_eq (Aa vi (TF c0 (fun c=>hn ((Km u6).2 c))))
 have Uc:((((Al.take i).flatten).map Af).length:Int)=(((D2 l m).map Af).length:Int):=Aq Uc;have GX:Al.all VO=true/\Iq Al.flatten=D2 l m:=(Km u6).1 ⟨fun i hi=>i2 i hi (Bm hi (AE (BB h1))),by have q:=Uc;rw[Lm,Lm,As (AE (BB h1))]at q;omega⟩;refine I {q:Nat // q<=Al.length/\(∀t,t<q->qv x l m Al t=true)} (I (fun q=>⟨[(1,sl Ab l),(2,sl Ab m),(3,sl Bd Al),(4,.ref 4 0),(14,.slice (.id 108 1) (((Al.take q.1).flatten).map Af)),(15,vi q.1)],[(4,.ro (Ic x ifs)),(108,.tok 1 (((Al.take q.1).flatten).map Af).length)],Ae⟩) (I (fun q=>Al.length-q.1) (J (I ⟨0,Aj _,fun j h1=>absurd h1 (DX _)⟩ ?_) ?_)))
 .exact⟨Z6,Z2,Fh,C⟩
 intro⟨j,j1,j2⟩;have j1:j<=Al.length:=j1;have j2:∀t,t<j->qv x l m Al t=true:=j2;have jf:((Al.take j).flatten).length<=1000000:=(by have q:=T4 Mg j;omega);refine J (fun Ym=>?_) (fun Ym=>?_)
 .have Ym:(j:Int)<((Al.map Bd).length:Int):=Ym;have n23:=Dh Ym;have jp:Al[j].length<=1000:=Mg _ (Ai n23);refine I (Bd Al[j]) (J (DC n23) (J rfl ?_));have b24:Bi 1 (Al[j].map Af)/\(((Al.take j).flatten).map Af).length=(((Al.take j).flatten).map Af).length/\((((Al.take j).flatten).map Af).length+(Al[j].map Af).length)*16<=140737488355328/\(((Al.take j).flatten).map Af).length+(Al[j].map Af).length<=9223372036854775807:=⟨(BV (enc:=Af) (n:=1) (fun _=>rfl) Al[j]),rfl,(by simp only[Lm];omega),(by simp only[Lm];omega)⟩;refine J b24 (cU [(1,sl Ab l),(2,sl Ab m),(3,sl Bd Al),(4,.ref 4 0),(14,.slice (.id 108 1) (((Al.take (j+1)).flatten).map Af)),(15,vi j)] [(4,.ro (Ic x ifs)),(108,.tok 1 (((Al.take (j+1)).flatten).map Af).length)] ⟨B,B,B,B,⟨(show AV.slice (.id 108 1) ((((Al.take j).flatten).map Af)++(Al[j].map Af))=AV.slice (.id 108 1) (((Al.take (j+1)).flatten).map Af) by rw[Po n23,Ar]),rfl⟩,B,C⟩ ⟨B,⟨(show HO.tok 1 ((((Al.take j).flatten).map Af).length+(Al[j].map Af).length)=HO.tok 1 (((Al.take (j+1)).flatten).map Af).length by rw[Po n23];simp),rfl⟩,C⟩ ?_)
  refine yN (C2 (vF l m ((Al.take (j+1)).flatten) Rm bU (show _<=_ by have q:=T4 Mg (j+1);omega)) (C2 (qx x ifs (l7 l m ((Al.take (j+1)).flatten)) hx HE Hk (by rw[XW _ Rm.inc bU.inc];have q:=l8 l m ((Al.take (j+1)).flatten);omega)) ?_));refine J (fun Zj=>?_) (fun Zj=>?_)
  .have Zj:((Dp x (l7 l m ((Al.take (j+1)).flatten))):Int)≠(0:Int):=Zj;refine J aa1 ?_;have ew:qv x l m Al j=false:=Aw (by rw[<-XW _ Rm.inc bU.inc];exact Zj);exact BC.of_eq (Aa vi (wB c0 GX n23 ew))
  have Zj:((Dp x (l7 l m ((Al.take (j+1)).flatten))):Int)=(0:Int):=Aq Zj;refine J aa1 (J (Ii j ch) ?_);have ew:qv x l m Al j=true:=AB (by rw[<-XW _ Rm.inc bU.inc];exact Zj);refine I ⟨j+1,n23,fun t h1=>by rcases Db t j with h2 | h2;exact j2 t h2;have e:t=j:=ch;subst e;exact ew⟩ ?_;exact⟨Dl Al.length j ch,Z6,Z2,Fh,C⟩
 have Ym:¬((j:Int)<((Al.map Bd).length:Int)):=Ym;have n23:=BB Ym;exact BC.of_eq (Aa vi (wA c0 GX (fun t ht=>j2 t (Bm ht (AE (BB Ym))))))
theorem AcK(l m:List Sl)(Al:List (List CS))(hx:∀r∈x,CX r)(HE:BD x)(Hk:∀r∈x,r.reqs.length<=1000)(Ei:l.length<=16)(Dd:m.length<=16)(dE:Al.length<=1000)(Mg:∀p∈Al,p.length<=1000):PC 59 [HZ x ifs,sl Ab l,sl Ab m,sl Bd Al] (vi (Fm x l m Al)):=if c:Ix x l m=0 then yV x ifs l m Al hx HE Hk Ei Dd dE Mg c else yU x ifs l m Al hx HE Hk Ei Dd dE Mg c
abbrev Dk(x:Int):List AV:=[EN x]
theorem o6(k:IntKind)(a b:Int):Cq .or k a b=Cq .or k b a:=by
 show k.wrap ((BitVec.ofInt k.bits a ||| BitVec.ofInt k.bits b).toNat:Int)=k.wrap ((BitVec.ofInt k.bits b ||| BitVec.ofInt k.bits a).toNat:Int)
 grind
theorem x8{x:Int}(e1:Cq .and .u64 (IntKind.wrap .u64 (-n)) 31=32-n)(e2:IntKind.wrap .u64 (32-(32-n))=n):Cq .or .u32 (Cr .shr .u32 x n) (Cr .shl .u32 x (32-n))=HI x (-n):=by
 grind [HI,o6]
theorem UO(z:Int):BitVec.ofInt 32 (IntKind.wrap .u32 z)=BitVec.ofInt 32 z:=by
 apply BitVec.eq_of_toNat_eq;show(BitVec.ofInt 32 (z % 4294967296)).toNat=_;simp_all
theorem QY(a:Int)(n:Nat)(h:n<=32):BitVec.ofInt 32 (Cr .shl .u32 a n)=BitVec.ofInt 32 a <<< n:=by
 show BitVec.ofInt 32 (IntKind.wrap .u32 (a*2 ^ min (n:Int).toNat 32))=_;rw[UO,E0,Nat.min_eq_left h];apply BitVec.eq_of_toNat_eq;rw[BitVec.toNat_shiftLeft,OI,OI,Nat.shiftLeft_eq]
 grind [Int.mul_emod,Int.emod_emod]
theorem oW(a b:Int):BitVec.ofInt 32 (Cq .or .u32 a b)=BitVec.ofInt 32 a ||| BitVec.ofInt 32 b:=by
 show BitVec.ofInt 32 (IntKind.wrap .u32 ((BitVec.ofInt 32 a ||| BitVec.ofInt 32 b).toNat:Int))=_
 grind [UO]
theorem AbE{a b c d:Int}(h:BitVec.ofInt 32 a ||| BitVec.ofInt 32 b=BitVec.ofInt 32 c ||| BitVec.ofInt 32 d):Cq .or .u32 a b=Cq .or .u32 c d:=by
 show IntKind.wrap .u32 ((BitVec.ofInt 32 a ||| BitVec.ofInt 32 b).toNat:Int)=IntKind.wrap .u32 ((BitVec.ofInt 32 c ||| BitVec.ofInt 32 d).toNat:Int);rw[h]
theorem un:Cq .or .u32 (Cq .or .u32 (Cq .or .u32 (Cr .shl .u32 (IntKind.wrap .u32 ((Do s (4*k)).toNat:Int)) 24) (Cr .shl .u32 (IntKind.wrap .u32 ((Do s (4*k+1)).toNat:Int)) 16)) (Cr .shl .u32 (IntKind.wrap .u32 ((Do s (4*k+2)).toNat:Int)) 8)) (IntKind.wrap .u32 ((Do s (4*k+3)).toNat:Int))=NZ s k 4:=by
 have s24:∀a,BitVec.ofInt 32 (Cr .shl .u32 a 24)=BitVec.ofInt 32 a <<< 24:=fun a=>QY a 24 Wk;have s16:∀a,BitVec.ofInt 32 (Cr .shl .u32 a 16)=BitVec.ofInt 32 a <<< 16:=fun a=>QY a 16 Wk;have s8:∀a,BitVec.ofInt 32 (Cr .shl .u32 a 8)=BitVec.ofInt 32 a <<< 8:=fun a=>QY a 8 Wk;refine AbE ?_;simp only[NZ,oW,s24,s16,s8,BitVec.shiftLeft_or_distrib,<-BitVec.shiftLeft_add,HD];simp_all
theorem Aal{n:Nat}(h:n<=a.size):(a++b).extract 0 n=a.extract 0 n:=by
 apply ByteArray.ext;simp_all
theorem Aam{n:Nat}(h:n<=a.size):(a++b).extract n (a++b).size=a.extract n a.size++b:=by
 apply ByteArray.ext;simp only[ByteArray.data_extract,ByteArray.data_append];rw[Array.extract_append];have h' : n<=a.data.size:=h;have e:(a++b).size=a.data.size+b.data.size:=B0
 rw[e,show n-a.data.size=0 by omega,show a.data.size+b.data.size-a.data.size=b.data.size by omega];have x1:a.data.extract n (a.data.size+b.data.size)=a.data.extract n a.size:=by
  apply Array.ext';rw[Array.toList_extract,Array.toList_extract,List.extract_eq_take_drop,List.extract_eq_take_drop,As aa0,As B0]
 grind
theorem N4:∀(n:Nat) (v:S8) (a b:CS),a.size<=n->CZ v (a++b)=CZ (CZ v a).1 ((CZ v a).2++b)
 |n,v,a,b,h=>by
  rw[CZ.eq_1 v a];split
  .rename_i nu;rw[CZ.eq_1 v (a++b),Ax aa0,Aal a b nu,Aam a b nu]
   match n,h with
   |n+1,h=>exact N4 n _ _ _ (by grind [ByteArray.size_extract])
   |0,h=>omega
  .rfl
theorem RD:∀(n:Nat) (v:S8) (b:CS),b.size<=n->(CZ v b).2.size=b.size % 64
 |n,v,b,h=>by
  rw[CZ.eq_1 v b];split
  .rename_i nu
   match n,h with
   |n+1,h=>rw[RD n _ _ (by grind [ByteArray.size_extract]),FP];omega
   |0,h=>omega
  grind
def gn:HS:=⟨(CZ aP t).1,(CZ aP t).2,(t.size:Nat)⟩
theorem Zb(h0:0<=n)(h1:n<18446744073709551616):IntKind.wrap .u64 n=n:=Int.emod_eq_of_lt h0 h1
theorem qt{t s:CS}(h:t.size+s.size<9223372036854775808):GJ (gn t) s=gn (t++s):=by
 unfold GJ gn;rw[<-N4 _ aP t s (Ao _)]
 grind [Zb]
theorem xF:PN=gn ⟨#[]⟩:=by
 unfold PN gn;have e:CZ aP ⟨#[]⟩=(aP,⟨#[]⟩):=by rw[CZ.eq_1,AA Wk]
 rw[e];rfl
def OD(l:List CS):CS:=l.foldl (fun t s=>(t++E5 (IntKind.wrap .u64 (s.size:Int)))++s) t
theorem F9(n:Int):(E5 n).size=8:=by show(List.map _ (List.range 8)).toArray.size=8;simp
theorem ie:∀{l:List CS} {t:CS},(∀s∈l,s.size<=100000000)->t.size+l.length*100000008<9223372036854775808->ND (gn t) l=gn (OD t l)
 | [],_,_,_=>rfl
 |s::l,t,h,hb=>by
  have h1:=h s (Ah ..);rw[Ap,Iz]at hb;show ND (GJ (GJ (gn t) (E5 (IntKind.wrap .u64 (s.size:Int)))) s) l=_;rw[qt (by grind [F9]),qt (by grind [F9]),ie (fun u hu=>h u (Am _ hu)) (by grind [F9])]
  rfl
def VP:CS:=((t++⟨#[128]⟩)++lD ((119-(t.size:Int)) % 64).toNat)++E5 (IntKind.wrap .u64 (8*(t.size:Int)))
def Y0:CS:=⟨(((CZ aP (VP t)).1.l).flatMap Ee).toArray⟩
theorem yf:lc (gn t)=Y0 t:=by
 have e:EE (gn t)=(⟨#[128]⟩++lD ((119-(t.size:Int)) % 64).toNat)++E5 (IntKind.wrap .u64 (8*(t.size:Int))):=by
  unfold EE;have r:(((gn t).rest.size:Nat):Int)=(t.size:Int) % 64:=by
   show(((CZ aP t).2.size:Nat):Int)=_;rw[RD _ aP t (Ao _)];omega
  rw[r,show(119-(t.size:Int) % 64) % 64=(119-(t.size:Int)) % 64 by omega]
  rfl
 have e2:(GJ (gn t) (EE (gn t))).v=(CZ aP (VP t)).1:=by
  show(CZ (CZ aP t).1 ((CZ aP t).2++EE (gn t))).1=_;rw[<-N4 _ aP t _ (Ao _),e,VP,Vy,Vy,Vy]
 grind [lc,Y0]
theorem lj{tag:CS}{l:List CS}(ht:tag.size<=100000000)(hl:∀s∈l,s.size<=100000000)(hn:l.length<=1000000):Qm tag l=Y0 (OD (E5 (IntKind.wrap .u64 (tag.size:Int))++tag) l):=by
 unfold Qm;rw[xF,qt (by rw[A2,F9];show 0+_<_;omega),ie hl (by rw[A2,A2,F9];show 0+_+_<_;omega),yf]
 congr 2
theorem xN{a b:Int}(h0:0<=b)(h1:b<256):Cq .or .u64 (Cr .shl .u64 a 8) b=IntKind.wrap .u64 (IntKind.wrap .u64 (a*256)+b):=by
 have e:Cr .shl .u64 a 8=IntKind.wrap .u64 (a*256):=rfl;rw[e];have w:∀z:Int,IntKind.wrap .u64 z=z % 18446744073709551616:=fun _=>rfl;obtain⟨k,hk,Qr⟩:∃k:Nat,IntKind.wrap .u64 (a*256)=((k*256:Nat):Int)/\k<72057594037927936:=by
  refine⟨(IntKind.wrap .u64 (a*256)).toNat / 256,?_,?_⟩
  all_goals grind
 obtain⟨c,rfl⟩:∃c:Nat,b=(c:Int):=⟨b.toNat,by omega⟩;rw[hk];have hc:c<2 ^ 8:=ch
 show IntKind.wrap .u64 ((BitVec.ofInt 64 ((k*256:Nat):Int) ||| BitVec.ofInt 64 (c:Int)).toNat:Int)=_;rw[BitVec.toNat_or,OI,OI];have e1:(((k*256:Nat):Int) % ((2 ^ 64:Nat):Int)).toNat=k*256:=by
  omega
 have e2:((c:Int) % ((2 ^ 64:Nat):Int)).toNat=c:=by
  omega
 rw[e1,e2,show k*256=k <<< 8 by omega,<-Nat.shiftLeft_add_eq_or_of_lt hc k,Nat.shiftLeft_eq]
 rfl
theorem zG{ws:List Int}{i:Nat}(h:i<ws.length):(0:Int)<=((i:Nat):Int)/\(ws.map Dk)[((i:Nat):Int).toNat]?=some (Dk (Fl ws i)):=by
 grind [Vm]
def HG:List UInt8:=(s.data.toList++[128])++List.replicate k 0
theorem US:(HG s k).length=s.size+1+k:=by
 rw[HG,Ac,Ac,Cu,Ja];rfl
theorem kr:HG s k++[0]=HG s (k+1):=by
 grind [HG,List.replicate_succ']
theorem tj:(⟨(HG s k).toArray⟩:CS)=(s++⟨#[128]⟩)++lD k:=by
 apply ByteArray.ext;rw[ByteArray.data_append,ByteArray.data_append];show(HG s k).toArray=s.data++#[128]++(List.replicate k (0:UInt8)).toArray
 grind [HG]
theorem uy(n:Nat):(lD n).size=n:=by show(List.replicate n (0:UInt8)).toArray.size=n;simp
theorem Xa:(VP t).size % 64=0/\(VP t).size<=t.size+80:=by
 rw[VP,A2,A2,A2,uy,F9];show(t.size+1+_+8) % 64=0/\t.size+1+_+8<=t.size+80;omega
theorem Zv{k:Nat}(h:64*k+64<=p.size):CZ v (p.extract (64*k) p.size)=CZ (bT v (p.extract (64*k) (64*k+64))) (p.extract (64*(k+1)) p.size):=by
 have hp:p.size=p.data.size:=rfl
 grind [ByteArray.ext,ByteArray.data_extract,Array.extract_extract,ByteArray.size_extract,CZ]
theorem cM{k:Nat}(h:p.size<=64*k):(CZ v (p.extract (64*k) p.size)).1=v:=by
 grind [CZ,ByteArray.size_extract]
theorem lg{l:List CS}{i:Nat}(h:i<l.length):OD t (l.take (i+1))=(OD t (l.take i)++E5 (IntKind.wrap .u64 (l[i].size:Int)))++l[i]:=by
 grind [OD,List.take_succ_eq_append_getElem]
theorem lh:∀{l:List CS},(∀s∈l,s.size<=100000000)->(OD t l).size<=t.size+l.length*100000008:=fun {l} h=>by
 induction l generalizing t with
 |nil=>show t.size<=t.size+0*_;omega
 |cons s l ih=>
  have h1:=h s (Ah ..);have h2:=ih ((t++E5 (IntKind.wrap .u64 (s.size:Int)))++s) fun u hu=>h u (Am _ hu);rw[A2,A2,F9]at h2;rw[Ap,Iz];show(OD ((t++E5 (IntKind.wrap .u64 (s.size:Int)))++s) l).size<=_;omega
def LB(n:Int)(i:Nat):List UInt8:=(List.range i).map fun(j:Nat)=>UInt8.ofNat (IntKind.wrap .u8 (Cr .shr .i64 n (8*(7-(j:Int))))).toNat
theorem jS(n:Int)(i:Nat):(LB n i).map CA++[[AV.v (.int .u8 (IntKind.wrap .u8 (Cr .shr .i64 n (8*(7-(i:Int))))))]]=(LB n (i+1)).map CA:=by
 grind [LB,List.range_succ,qu]
theorem oq(h0:0<=n)(h1:n<18446744073709551616):(⟨(LB n 8).toArray⟩:CS)=E5 (IntKind.wrap .u64 n):=by
 rw[Zb h0 h1,E5,LB]
 congr 2
theorem mE(d:CS)(i:Nat):IntKind.wrap .u64 (IntKind.wrap .u64 (KM d i*256)+IntKind.wrap .u64 ((Do d i).toNat:Int))=KM d (i+1):=by
 grind [KM,Zb,xN,UInt8.toNat_lt]
end Go.Eng
