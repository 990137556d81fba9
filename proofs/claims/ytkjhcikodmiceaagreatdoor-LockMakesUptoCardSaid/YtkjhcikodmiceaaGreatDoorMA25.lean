/- Lemmas 25. -/
import Derived.Test.YtkjhcikodmiceaaGreatDoorMA24
namespace Go.Eng
open Go.Proofs
variable {l:List Rl}{roots:List Rq}{i:Nat}
theorem qr.start{Cl:List CS}:qr l roots Cl (List.replicate l.length false) true:=⟨⟨by simp,fun k hk h=>by simp_all⟩,fun h=>by cases h⟩
set_option maxHeartbeats 4000000 in
theorem c93(l:List Rl)(ifs:C0)(roots:List Rq)(Cl:List CS)(hc:x5 l roots Cl)(sb:∀D:List CS,(∀q∈roots,q.path∈D)->(∀r∈l,r.path∈D->∀q∈r.reqs,q.path∈D)->∀p∈Cl,p∈D)
  (GJ:∀q,q∈roots\/(∃r∈l,q∈r.reqs)->∀r∈l,q.path=r.path->has q.set (plc r.ver)=true) (hn:(l.map (·.path)).Nodup) (aY:∀q,q∈roots\/(∃r∈l,q∈r.reqs)->∃r∈l,r.path=q.path)
  (h0:Aw l=0) (hx:∀r∈l,Eo r) (Tu:∀q∈roots,BF q.set) (hrl:roots.length<=1000000):PC 169 [.agg (Ic l ifs),sl Ac roots] (sl Ae ((l.filter fun r=>Wx Cl r.path).map Cr)):=by
 have h67:=ul l ifs hx;rw[h0]at h67;have hl:=(Fi h0).1;have hv:∀r∈l,Bv r.ver=true:=fun r hr=>((Bp h0).1 r hr).val;refine Ps ⟨[],[],[(18,1)],[],[],[],[],[],[],[],[4,9,11,13,16,21,23]⟩ Tryz.func169 rfl C4 (yN (C1 (U h67 (J (fun h=>absurd h aa3) (fun _=>?_)))));refine J (show(0:Int)<=(l.map V).length/\((l.map V).length:Int)<=(l.map V).length/\((l.map V).length:Int)*1<=140737488355328/\((l.map V).length:Int)<=9223372036854775807 by grind) (cU [(1,sl Ac roots),(2,.ref 2 0),(5,.msl 18 ((List.replicate ((l.map V).length:Int).toNat [I false]):C0).length)] [(2,.cells (Ic l ifs)),(18,.arr 1 (List.replicate ((l.map V).length:Int).toNat [I false]))] Z3 Z2 (Z {q:List Bool×Bool // qr l roots Cl q.1 q.2} (Z (fun q=>⟨[(1,sl Ac roots),(2,.ref 2 0),(5,.msl 18 q.1.1.length),(6,I q.1.2)],[(2,.cells (Ic l ifs)),(18,.arr 1 (q.1.1.map Dq))],Af⟩) (Z (fun q=>2*Zk q.1.1+(if q.1.2 then 1 else 0)) (J (Z ⟨(List.replicate l.length false,true),qr.start⟩ ?_) ?_)))))
 .exact⟨⟨X,X,⟨(show AV.msl 18 (List.replicate ((l.map V).length:Int).toNat [I false]).length=.msl 18 (List.replicate l.length false).length by simp),rfl⟩,X,W⟩,⟨X,⟨(show HO.arr 1 (List.replicate ((l.map V).length:Int).toNat [I false])=.arr 1 ((List.replicate l.length false).map Dq) by simp),rfl⟩,W⟩,Fh,W⟩
 intro⟨⟨B,ch⟩,o⟩;have o:qr l roots Cl B ch:=o;have zP:=o.snd.len;refine Ay (Bt ch) (fun h1=>?_) (fun h1=>?_)
 .have h1:ch=true:=h1;refine KL (Aa (fun bb=>(⟨[(1,sl Ac roots),(2,.ref 2 0),(5,.msl 18 B.length),(6,I bb)],[(2,.cells (Ic l ifs)),(18,.arr 1 (B.map Dq))],Af⟩:LS)) h1) (Z {q:Nat×List Bool×Bool // q.1<=l.length/\ZJ l roots Cl B q.1 q.2.1 q.2.2} (Z (fun q=>⟨[(1,sl Ac roots),(2,.ref 2 0),(5,.msl 18 q.1.2.1.length),(6,I q.1.2.2),(7,G q.1.1)],[(2,.cells (Ic l ifs)),(18,.arr 1 (q.1.2.1.map Dq))],Af⟩) (Z (fun q=>l.length-q.1.1) (J (Z ⟨(0,B,false),Ak _,ZJ.start o.snd⟩ ?_) ?_))))
  .exact⟨Z5,Z2,Fh,W⟩
  intro⟨⟨i,B1,Sq⟩,i1,pL⟩;have i1:i<=l.length:=i1;have pL:ZJ l roots Cl B i B1 Sq:=pL;have hB1:=pL.snd.len;refine J (fun h2=>?_) (fun h2=>?_)
  .have h2:(i:Int)<((l.map V).length:Int):=h2;have n2:i<l.length:=aa0
   have g2:l[i]?=some l[i]:=Ge n2;have ni:i<l.length:=Wk
   have mi:i<B1.length:=Wk
   have gbi:B1[i]?=some B1[i]:=Ge mi;refine Z (V l[i]) (J (J (Nn i) (Br g2)) (J rfl (yN (Ay (Bt (Gy roots l[i])) (fun h3=>?_) (fun h3=>?_)))))
   .have h3:(Gy roots l[i])=true:=h3;have gS:=ju roots l[i] hrl Tu (hv _ (Ag ni));rw[show Gy roots l[i]=true from h3]at gS;refine C1 (U gS (cU [(1,sl Ac roots),(2,.ref 2 0),(5,.msl 18 B1.length),(6,I Sq),(7,G i),(8,I true)] [(2,.cells (Ic l ifs)),(18,.arr 1 (B1.map Dq))] Z6 Z2 (Z {q:Nat×Bool // q.1<=l.length/\q.2=Iu l roots B1 l[i] q.1} (Z (fun q=>⟨[(1,sl Ac roots),(2,.ref 2 0),(5,.msl 18 B1.length),(6,I Sq),(7,G i),(8,I q.1.2),(9,G q.1.1)],[(2,.cells (Ic l ifs)),(18,.arr 1 (B1.map Dq))],Af⟩) (Z (fun q=>l.length-q.1.1) (J (Z ⟨(0,true),Ak _,by grind [Vu]⟩ ?_) ?_))))))
    .exact⟨Z7,Z2,Fh,W⟩
    intro⟨⟨k,b⟩,k1,hb⟩;have k1:k<=l.length:=k1;have hb:b=Iu l roots B1 l[i] k:=hb;refine Ay (Bt b) (fun h5=>?_) (fun h5=>?_)
    .have h5:b=true:=h5;refine KL (Aa (fun bb=>(⟨[(1,sl Ac roots),(2,.ref 2 0),(5,.msl 18 B1.length),(6,I Sq),(7,G i),(8,I bb),(9,G k)],[(2,.cells (Ic l ifs)),(18,.arr 1 (B1.map Dq))],Af⟩:LS)) h5) (J (fun h6=>?_) (fun h6=>?_))
     .have h6:(k:Int)<((l.map V).length:Int):=h6;have n6:k<l.length:=aa0
      have g6:l[k]?=some l[k]:=Ge n6;have nk:k<l.length:=Wk
      have mk:k<B1.length:=Wk
      have zG:B1[k]?=some B1[k]:=Ge mk;refine J aa4 (cU [(1,sl Ac roots),(2,.ref 2 0),(5,.msl 18 B1.length),(6,I Sq),(7,G i),(8,I true),(9,G k)] [(2,.cells (Ic l ifs)),(18,.arr 1 (B1.map Dq))] Z7 Z2 (J (by grind [Au]) (Z ⟨(k+1,true),by omega,by grind [G1]⟩ ?_)));exact⟨by grind,Z7,Z2,Fh,W⟩
     have h6:¬((k:Int)<((l.map V).length:Int)):=h6;have n6:¬k<l.length:=aa0
     refine J Wk (J (show B1.length=(B1.map Dq).length by simp) (Z (Dq B1[i]) (J (Br gbi) (J (fun h8=>?_) (fun h8=>?_)))))
     .have h8:B1[i]=true:=h8;refine cU [(1,sl Ac roots),(2,.ref 2 0),(5,.msl 18 B1.length),(6,I Sq),(7,G i)] [(2,.cells (Ic l ifs)),(18,.arr 1 (B1.map Dq))] Z5 Z2 (J (by grind [Au]) (Z ⟨(i+1,B1,Sq),by omega,pL.keep ni (fun _=>by simp_all)⟩ ?_));exact⟨by grind,Z5,Z2,Fh,W⟩
     have h8:B1[i]=false:=h8;refine cU [(1,sl Ac roots),(2,.ref 2 0),(5,.msl 18 B1.length),(7,G i)] [(2,.cells (Ic l ifs)),(18,.arr 1 (B1.map Dq))] Z4 Z2 (J Wk (J (show B1.length=(B1.map Dq).length by simp) (Z (Dq B1[i]) (J (Br gbi) (yN (cU [(1,sl Ac roots),(2,.ref 2 0),(5,.msl 18 B1.length),(6,I true),(7,G i)] [(2,.cells (Ic l ifs)),(18,.arr 1 ((B1.map Dq).set i [I true]))] Z5 Z2 (J (by grind [Au]) (Z ⟨(i+1,B1.set i true,true),by omega,pL.set hc ni (show Iu l roots B1 l[i] l.length=true by grind) (fun _=>h8)⟩ ?_))))))));exact⟨by grind,⟨X,X,⟨(show AV.msl 18 B1.length=.msl 18 (B1.set i true).length by simp_all),rfl⟩,X,X,W⟩,⟨X,⟨(show HO.arr 1 ((B1.map Dq).set i [I true])=.arr 1 ((B1.set i true).map Dq) by simp_all),rfl⟩,W⟩,Fh,W⟩
    have h5:b=false:=h5;refine KL (Aa (fun bb=>(⟨[(1,sl Ac roots),(2,.ref 2 0),(5,.msl 18 B1.length),(6,I Sq),(7,G i),(8,I bb),(9,G k)],[(2,.cells (Ic l ifs)),(18,.arr 1 (B1.map Dq))],Af⟩:LS)) h5) (J (fun F4=>?_) (fun F4=>?_))
    .have F4:(k:Int)<((l.map V).length:Int):=F4;have n11:k<l.length:=aa0
     have g11:l[k]?=some l[k]:=Ge n11;have nk:k<l.length:=Wk
     have mk:k<B1.length:=Wk
     have zG:B1[k]?=some B1[k]:=Ge mk;refine J Wk (J (show B1.length=(B1.map Dq).length by simp) (Z (Dq B1[k]) (J (Br zG) (J (fun GH=>?_) (fun GH=>?_)))))
     .have GH:B1[k]=true:=GH;refine Z (V l[k]) (J (J (Nn k) (Br g11)) (J rfl (Z (V l[i]) (J (J (Nn i) (Br g2)) (J rfl (yN (Ay (Bt (Gy l[k].reqs l[i])) (fun MB=>?_) (fun MB=>?_))))))))
      .have MB:(Gy l[k].reqs l[i])=true:=MB;have aU:=ju l[k].reqs l[i] (by grind [Fi]) (fun q hq=>((hx _ (Ag nk)).2 q hq).1) (hv _ (Ag ni));rw[show Gy l[k].reqs l[i]=true from MB]at aU;refine U aU (J aa4 (cU [(1,sl Ac roots),(2,.ref 2 0),(5,.msl 18 B1.length),(6,I Sq),(7,G i),(8,I true),(9,G k)] [(2,.cells (Ic l ifs)),(18,.arr 1 (B1.map Dq))] Z7 Z2 (J (by grind [Au]) (Z ⟨(k+1,true),by omega,by grind [G1]⟩ ?_))));exact⟨Dl l.length k Wk,Z7,Z2,Fh,W⟩
      have MB:(Gy l[k].reqs l[i])=false:=MB;have nC:=ju l[k].reqs l[i] (by grind [Fi]) (fun q hq=>((hx _ (Ag nk)).2 q hq).1) (hv _ (Ag ni));rw[show Gy l[k].reqs l[i]=false from MB]at nC;refine U nC (J aa4 (cU [(1,sl Ac roots),(2,.ref 2 0),(5,.msl 18 B1.length),(6,I Sq),(7,G i),(8,I false),(9,G k)] [(2,.cells (Ic l ifs)),(18,.arr 1 (B1.map Dq))] Z7 Z2 (J (by grind [Au]) (Z ⟨(k+1,false),by omega,by grind [G1]⟩ ?_))));exact⟨Dl l.length k Wk,Z7,Z2,Fh,W⟩
     have GH:B1[k]=false:=GH;refine J aa4 (cU [(1,sl Ac roots),(2,.ref 2 0),(5,.msl 18 B1.length),(6,I Sq),(7,G i),(8,I false),(9,G k)] [(2,.cells (Ic l ifs)),(18,.arr 1 (B1.map Dq))] Z7 Z2 (J (by grind [Au]) (Z ⟨(k+1,false),by omega,by grind [G1]⟩ ?_)));exact⟨Dl l.length k Wk,Z7,Z2,Fh,W⟩
    have F4:¬((k:Int)<((l.map V).length:Int)):=F4;have n11:¬k<l.length:=aa0
    refine cU [(1,sl Ac roots),(2,.ref 2 0),(5,.msl 18 B1.length),(6,I Sq),(7,G i)] [(2,.cells (Ic l ifs)),(18,.arr 1 (B1.map Dq))] Z5 Z2 (J (by grind [Au]) (Z ⟨(i+1,B1,Sq),by omega,pL.keep ni (fun h=>by grind)⟩ ?_));exact⟨Dl l.length i Wk,Z5,Z2,Fh,W⟩
   have h3:(Gy roots l[i])=false:=h3;have Aa5:=ju roots l[i] hrl Tu (hv _ (Ag ni));rw[show Gy roots l[i]=false from h3]at Aa5;refine C1 (U Aa5 (cU [(1,sl Ac roots),(2,.ref 2 0),(5,.msl 18 B1.length),(6,I Sq),(7,G i),(8,I false)] [(2,.cells (Ic l ifs)),(18,.arr 1 (B1.map Dq))] Z6 Z2 (Z {q:Nat×Bool // q.1<=l.length/\q.2=Iu l roots B1 l[i] q.1} (Z (fun q=>⟨[(1,sl Ac roots),(2,.ref 2 0),(5,.msl 18 B1.length),(6,I Sq),(7,G i),(8,I q.1.2),(9,G q.1.1)],[(2,.cells (Ic l ifs)),(18,.arr 1 (B1.map Dq))],Af⟩) (Z (fun q=>l.length-q.1.1) (J (Z ⟨(0,false),Ak _,by grind [Vu]⟩ ?_) ?_))))))
   .exact⟨Z7,Z2,Fh,W⟩
   intro⟨⟨k,b⟩,k1,hb⟩;have k1:k<=l.length:=k1;have hb:b=Iu l roots B1 l[i] k:=hb;refine Ay (Bt b) (fun YK=>?_) (fun YK=>?_)
   .have YK:b=true:=YK;refine KL (Aa (fun bb=>(⟨[(1,sl Ac roots),(2,.ref 2 0),(5,.msl 18 B1.length),(6,I Sq),(7,G i),(8,I bb),(9,G k)],[(2,.cells (Ic l ifs)),(18,.arr 1 (B1.map Dq))],Af⟩:LS)) YK) (J (fun N9=>?_) (fun N9=>?_))
    .have N9:(k:Int)<((l.map V).length:Int):=N9;have n22:k<l.length:=aa0
     have g22:l[k]?=some l[k]:=Ge n22;have nk:k<l.length:=Wk
     have mk:k<B1.length:=Wk
     have zG:B1[k]?=some B1[k]:=Ge mk;refine J aa4 (cU [(1,sl Ac roots),(2,.ref 2 0),(5,.msl 18 B1.length),(6,I Sq),(7,G i),(8,I true),(9,G k)] [(2,.cells (Ic l ifs)),(18,.arr 1 (B1.map Dq))] Z7 Z2 (J (by grind [Au]) (Z ⟨(k+1,true),by omega,by grind [G1]⟩ ?_)));exact⟨by grind,Z7,Z2,Fh,W⟩
    have N9:¬((k:Int)<((l.map V).length:Int)):=N9;have n22:¬k<l.length:=aa0
    refine J Wk (J (show B1.length=(B1.map Dq).length by simp) (Z (Dq B1[i]) (J (Br gbi) (J (fun d6=>?_) (fun d6=>?_)))))
    .have d6:B1[i]=true:=d6;refine cU [(1,sl Ac roots),(2,.ref 2 0),(5,.msl 18 B1.length),(6,I Sq),(7,G i)] [(2,.cells (Ic l ifs)),(18,.arr 1 (B1.map Dq))] Z5 Z2 (J (by grind [Au]) (Z ⟨(i+1,B1,Sq),by omega,pL.keep ni (fun _=>by simp_all)⟩ ?_));exact⟨by grind,Z5,Z2,Fh,W⟩
    have d6:B1[i]=false:=d6;refine cU [(1,sl Ac roots),(2,.ref 2 0),(5,.msl 18 B1.length),(7,G i)] [(2,.cells (Ic l ifs)),(18,.arr 1 (B1.map Dq))] Z4 Z2 (J Wk (J (show B1.length=(B1.map Dq).length by simp) (Z (Dq B1[i]) (J (Br gbi) (yN (cU [(1,sl Ac roots),(2,.ref 2 0),(5,.msl 18 B1.length),(6,I true),(7,G i)] [(2,.cells (Ic l ifs)),(18,.arr 1 ((B1.map Dq).set i [I true]))] Z5 Z2 (J (by grind [Au]) (Z ⟨(i+1,B1.set i true,true),by omega,pL.set hc ni (show Iu l roots B1 l[i] l.length=true by grind) (fun _=>d6)⟩ ?_))))))));exact⟨by grind,⟨X,X,⟨(show AV.msl 18 B1.length=.msl 18 (B1.set i true).length by simp_all),rfl⟩,X,X,W⟩,⟨X,⟨(show HO.arr 1 ((B1.map Dq).set i [I true])=.arr 1 ((B1.set i true).map Dq) by simp_all),rfl⟩,W⟩,Fh,W⟩
   have YK:b=false:=YK;refine KL (Aa (fun bb=>(⟨[(1,sl Ac roots),(2,.ref 2 0),(5,.msl 18 B1.length),(6,I Sq),(7,G i),(8,I bb),(9,G k)],[(2,.cells (Ic l ifs)),(18,.arr 1 (B1.map Dq))],Af⟩:LS)) YK) (J (fun MR=>?_) (fun MR=>?_))
   .have MR:(k:Int)<((l.map V).length:Int):=MR;have n27:k<l.length:=aa0
    have g27:l[k]?=some l[k]:=Ge n27;have nk:k<l.length:=Wk
    have mk:k<B1.length:=Wk
    have zG:B1[k]?=some B1[k]:=Ge mk;refine J Wk (J (show B1.length=(B1.map Dq).length by simp) (Z (Dq B1[k]) (J (Br zG) (J (fun Xe=>?_) (fun Xe=>?_)))))
    .have Xe:B1[k]=true:=Xe;refine Z (V l[k]) (J (J (Nn k) (Br g27)) (J rfl (Z (V l[i]) (J (J (Nn i) (Br g2)) (J rfl (yN (Ay (Bt (Gy l[k].reqs l[i])) (fun Wd=>?_) (fun Wd=>?_))))))))
     .have Wd:(Gy l[k].reqs l[i])=true:=Wd;have Aaa:=ju l[k].reqs l[i] (by grind [Fi]) (fun q hq=>((hx _ (Ag nk)).2 q hq).1) (hv _ (Ag ni));rw[show Gy l[k].reqs l[i]=true from Wd]at Aaa;refine U Aaa (J aa4 (cU [(1,sl Ac roots),(2,.ref 2 0),(5,.msl 18 B1.length),(6,I Sq),(7,G i),(8,I true),(9,G k)] [(2,.cells (Ic l ifs)),(18,.arr 1 (B1.map Dq))] Z7 Z2 (J (by grind [Au]) (Z ⟨(k+1,true),by omega,by grind [G1]⟩ ?_))));exact⟨Dl l.length k Wk,Z7,Z2,Fh,W⟩
     have Wd:(Gy l[k].reqs l[i])=false:=Wd;have Aab:=ju l[k].reqs l[i] (by grind [Fi]) (fun q hq=>((hx _ (Ag nk)).2 q hq).1) (hv _ (Ag ni));rw[show Gy l[k].reqs l[i]=false from Wd]at Aab;refine U Aab (J aa4 (cU [(1,sl Ac roots),(2,.ref 2 0),(5,.msl 18 B1.length),(6,I Sq),(7,G i),(8,I false),(9,G k)] [(2,.cells (Ic l ifs)),(18,.arr 1 (B1.map Dq))] Z7 Z2 (J (by grind [Au]) (Z ⟨(k+1,false),by omega,by grind [G1]⟩ ?_))));exact⟨Dl l.length k Wk,Z7,Z2,Fh,W⟩
    have Xe:B1[k]=false:=Xe;refine J aa4 (cU [(1,sl Ac roots),(2,.ref 2 0),(5,.msl 18 B1.length),(6,I Sq),(7,G i),(8,I false),(9,G k)] [(2,.cells (Ic l ifs)),(18,.arr 1 (B1.map Dq))] Z7 Z2 (J (by grind [Au]) (Z ⟨(k+1,false),by omega,by grind [G1]⟩ ?_)));exact⟨Dl l.length k Wk,Z7,Z2,Fh,W⟩
   have MR:¬((k:Int)<((l.map V).length:Int)):=MR;have n27:¬k<l.length:=aa0
   refine cU [(1,sl Ac roots),(2,.ref 2 0),(5,.msl 18 B1.length),(6,I Sq),(7,G i)] [(2,.cells (Ic l ifs)),(18,.arr 1 (B1.map Dq))] Z5 Z2 (J (by grind [Au]) (Z ⟨(i+1,B1,Sq),by omega,pL.keep ni (fun h=>by grind)⟩ ?_));exact⟨Dl l.length i Wk,Z5,Z2,Fh,W⟩
  have h2:¬((i:Int)<((l.map V).length:Int)):=h2;have n2:¬i<l.length:=aa0
  refine Z ⟨(B1,Sq),pL.out Wk⟩ ?_;exact⟨by have q:=pL.mu;simp_all,Z4,Z2,Fh,W⟩
 have h1:ch=false:=h1;have Akz:=qr.fin (h1▸o) sb GJ hn aY;refine KL (Aa (fun bb=>(⟨[(1,sl Ac roots),(2,.ref 2 0),(5,.msl 18 B.length),(6,I bb)],[(2,.cells (Ic l ifs)),(18,.arr 1 (B.map Dq))],Af⟩:LS)) h1) (Z {q:Nat×List Sl // q.1<=l.length/\q.2=((l.take q.1).filter fun r=>Wx Cl r.path).map Cr} (Z (fun q=>⟨[(2,.ref 2 0),(5,.msl 18 B.length),(10,.slice (.id 73 4) (q.1.2.map Ae)),(11,G q.1.1)],[(2,.cells (Ic l ifs)),(18,.arr 1 (B.map Dq)),(73,.tok 4 q.1.2.length)],Af⟩) (Z (fun q=>l.length-q.1.1) (J (Z ⟨(0,[]),Ak _,rfl⟩ ?_) ?_))))
 .exact⟨Z4,Z3,Fh,W⟩
 intro⟨⟨j,O⟩,j1,j2⟩;have j1:j<=l.length:=j1;have j2:O=((l.take j).filter fun r=>Wx Cl r.path).map Cr:=j2;have hO:O.length<=j:=by
  grind
 refine J (fun lV=>?_) (fun lV=>?_)
 .have lV:(j:Int)<((l.map V).length:Int):=lV;have n37:j<l.length:=aa0
  have g37:l[j]?=some l[j]:=Ge n37;have nj:j<l.length:=Wk
  have mj:j<B.length:=Wk
  have gbj:B[j]?=some B[j]:=Ge mj;refine J aa0 ?_;refine J (show B.length=(B.map Dq).length by simp) (Z (Dq B[j]) (J (Br gbj) (J (fun Tt=>?_) (fun Tt=>?_))))
  .have Tt:B[j]=true:=Tt;refine cU [(2,.ref 2 0),(5,.msl 18 B.length),(10,.slice (.id 73 4) (O.map Ae)),(11,G j)] [(2,.cells (Ic l ifs)),(18,.arr 1 (B.map Dq)),(73,.tok 4 O.length)] Z4 Z3 (Z (V l[j]) (J (J (Nn j) (Br g37)) (J rfl (Z (V l[j]) (J (J (Nn j) (Br g37)) (J rfl (yN ?_)))))));have b39:A7 4 [[vs l[j].path,G l[j].ver.a,G l[j].ver.b,G l[j].ver.c]]/\(O.map Ae).length=O.length/\((O.map Ae).length+([[vs l[j].path,G l[j].ver.a,G l[j].ver.b,G l[j].ver.c]]:C0).length)*40<=140737488355328/\(O.map Ae).length+([[vs l[j].path,G l[j].ver.a,G l[j].ver.b,G l[j].ver.c]]:C0).length<=9223372036854775807:=⟨⟨rfl,trivial⟩,aa1,aa2,aa2⟩;refine J b39 (J aa4 (cU [(2,.ref 2 0),(5,.msl 18 B.length),(10,.slice (.id 73 4) ((O.map Ae)++[[vs l[j].path,G l[j].ver.a,G l[j].ver.b,G l[j].ver.c]])),(11,G j)] [(2,.cells (Ic l ifs)),(18,.arr 1 (B.map Dq)),(73,.tok 4 ((O.map Ae).length+([[vs l[j].path,G l[j].ver.a,G l[j].ver.b,G l[j].ver.c]]:C0).length))] Z4 Z3 (J (by grind [Au]) (Z ⟨(j+1,(O++[Cr l[j]])),by omega,by show(O++[Cr l[j]])=((l.take (j+1)).filter _).map Cr;rw[Dv,Ge nj,H5,Bl,<-j2];simp_all⟩ ?_))));exact⟨Dl l.length j Wk,⟨X,X,⟨(show AV.slice (.id 73 4) (O.map Ae++[Ae (Cr l[j])])=.slice (.id 73 4) ((O++[Cr l[j]]).map Ae) by simp),rfl⟩,X,W⟩,⟨X,X,⟨(show HO.tok 4 ((O.map Ae).length+([Ae (Cr l[j])]:C0).length)=.tok 4 (O++[Cr l[j]]).length by simp),rfl⟩,W⟩,Fh,W⟩
  have Tt:B[j]=false:=Tt;refine cU [(2,.ref 2 0),(5,.msl 18 B.length),(10,.slice (.id 73 4) (O.map Ae)),(11,G j)] [(2,.cells (Ic l ifs)),(18,.arr 1 (B.map Dq)),(73,.tok 4 O.length)] Z4 Z3 (J (by grind [Au]) (Z ⟨(j+1,O),by omega,by show O=((l.take (j+1)).filter _).map Cr;rw[Dv,Ge nj,H5,Bl,<-j2];simp_all⟩ ?_));exact⟨Dl l.length j Wk,Z4,Z3,Fh,W⟩
 have lV:¬((j:Int)<((l.map V).length:Int)):=lV;have n37:¬j<l.length:=aa0
 exact E (sl Ae) (show O=(l.filter fun r=>Wx Cl r.path).map Cr by grind)
theorem RF{l:List Rl}:∀{n:Nat} {t:List Rq} {d:List CS},t.length+Nb d l+1<=n->(∀p∈d,∀q∈Fj l p,q.path∈d\/∃u∈t,u.path=q.path) ->
  (∀p∈d,p∈FD l n t d)/\(∀u∈t,u.path∈FD l n t d)/\∀p∈FD l n t d,∀q∈Fj l p,q.path∈FD l n t d
 |0,_,_,h,_=>by omega
 |n+1,[],d,_,hc=>by
  grind [FD]
 |n+1,q::t,d,h,hc=>by
  simp only[Ec]at h;cases hq:d.any (fun p=>decide (p=q.path))with
  |true=>
   have e:FD l (n+1) (q::t) d=FD l n t d:=by show(if _ then _ else _)=_;simp_all
   rw[e];have hm:=JF.1 hq;obtain⟨i1,i2,i3⟩:=RF (l:=l) (n:=n) (t:=t) (d:=d) Wk (fun p hp u hu=>by
    rcases hc p hp u hu with h | ⟨v,hv,ev⟩
    .exact .inl h
    .rcases AM.1 hv with hv | hv
     .exact .inl (by rw[<-ev,hv];exact hm)
     .exact .inr ⟨v,hv,ev⟩)
   exact⟨i1,fun u hu=>(AM.1 hu).elim (fun eu=>by rw[eu];exact i1 _ hm) (i2 u),i3⟩
  |false=>
   have e:FD l (n+1) (q::t) d=FD l n (t++Fj l q.path) (d++[q.path]):=by show(if _ then _ else _)=_;grind
   rw[e];have hp:=RL d q.path hq l;obtain⟨i1,i2,i3⟩:=RF (l:=l) (n:=n) (t:=t++Fj l q.path) (d:=d++[q.path]) (by rw[AD];omega) (fun p hp u hu=>by
    rcases Bc.1 hp with hp | hp
    .rcases hc p hp u hu with h | ⟨v,hv,ev⟩
     .exact .inl (Bz _ h)
     .rcases AM.1 hv with hv | hv
      .exact .inl (by rw[<-ev,hv];simp)
      .exact .inr ⟨v,Bz _ hv,ev⟩
    .rw[AI.1 hp]at hu;exact .inr ⟨u,Cb _ hu,rfl⟩)
   exact⟨fun p hp=>i1 p (Bz _ hp),fun u hu=>(AM.1 hu).elim (fun eu=>by rw[eu];exact i1 _ aa1) (fun hu=>i2 u (Bz _ hu)),i3⟩
abbrev KC(l:List Rl)(roots:List Rq):List CS:=FD l (HU l roots) roots []
theorem fQ(hn:(l.map (·.path)).Nodup){r:Rl}(hr:r∈l):Fj l r.path=r.reqs:=by unfold Fj;rw[HT hn hr]
theorem XA(hn:(l.map (·.path)).Nodup):x5 l roots (KC l roots):=by
 obtain⟨_,h2,h3⟩:=RF (l:=l) (n:=HU l roots) (t:=roots) (d:=[]) (by grind [VB,HU]) (fun p hp=>by cases hp);exact⟨h2,fun r hr hp q hq=>h3 _ hp q (by grind [fQ])⟩
theorem XB(D:List CS)(h1:∀q∈roots,q.path∈D)(h2:∀r∈l,r.path∈D->∀q∈r.reqs,q.path∈D):∀p∈KC l roots,p∈D:=
 NN h2 h1 fun p hp=>by cases hp
theorem XL(x:List Rl)(y:Sl):∀a:List Sl,F9 x (a++[y])=match F9 x a with | none=>none | some l=>match AW x y with | none=>none | some r=>some (l++[r])
 | []=>by
  grind [F9]
 |z::a=>by
  show(match AW x z with | none=>none | some r=>match F9 x (a++[y])with | none=>none | some l=>some (r::l))=match(match AW x z with | none=>none | some r=>match F9 x a with | none=>none | some l=>some (r::l))with | none=>none | some l=>match AW x y with | none=>none | some r=>some (l++[r])
  rw[XL x y a];cases AW x z<;>grind
theorem lz(x:List Rl){a:List Sl}(h:F9 x a=none):∀b:List Sl,F9 x (a++b)=none:=by
 induction a<;>grind [F9]
section
variable {x l:List Rl}{roots:List Rq}{s:List Sl}
theorem cH{A:List Rl}(hi:i<s.length)(h:F9 x (s.take i)=some A):F9 x (s.take (i+1))=match AW x s[i]with | none=>none | some r=>some (A++[r]):=by
 grind [List.take_add_one,XL]
theorem pW{A:List Rl}(hi:i<s.length)(h:F9 x (s.take i)=some A)(hn:AW x s[i]=none):F9 x s=none:=by
 have h1:=cH hi h
 grind [lz,List.take_append_drop]
theorem VO(hn:(l.map (·.path)).Nodup)(hs:l.map Cr=s)(hv:∀r∈l,Bv r.ver=true)(q:Rq):WB q s=!Ck l q:=by
 have e:WB q s=l.any fun r=>decide (r.path=q.path)&&has q.set (plc r.ver):=by
  unfold WB;rw[<-hs,List.any_map];rw[CI,Bs,Bs];constructor<;>rintro⟨r,hr,h⟩<;>refine⟨r,hr,?_⟩
  .rw[<-L4 (hv r hr)];exact h
  .show(decide (r.path=q.path)&&has q.set (place r.ver))=true
   grind [L4]
 grind [Ck,List.mem_of_find?_eq_some,HT]
theorem dH:∀{m:List Rl} {b:Option Rl},BR b m=0->∀r∈m,CE r=0
 | [],_,_,_,h=>by cases h
 |a::m,b,h,r,hr=>by
  unfold BR at h;split at h
  .omega
  .rename_i h1;rcases AM.1 hr with rfl | hr
   .omega
   .cases b with
    |none=>exact dH h r hr
    |some c=>
     have h:(if Cr c=Cr a then(5:Int)else if 0<I7 c a then 1 else BR (some a) m)=0:=h;split at h
     .cases h
     .split at h
      .cases h
      .exact dH h r hr
theorem we{r:Rl}(hr:r∈x)(h:Aw x=0):CE r=0:=by
 grind [Aw,dH]
theorem xJ(h0:Aw x=0)(hi:Be s=true)(h:F9 x s=some l)(hl:s.length<=256):Aw l=0:=by
 obtain⟨h1,h2,_⟩:=FP h;have hx:=(Bp h0).1;have CN:l.length=s.length:=aa2
 have hm:∀r∈l,CE r=0:=fun r hr=>we ((Ce (h2 r hr)).2.1) h0;unfold Aw;rw[AL Wk];have hp:=(HI hi).1;rw[<-h1]at hp;have hp:l.Pairwise fun a b=>Ek a.path b.path=true:=ID.1 hp;have gen:∀(l:List Rl) (b:Option Rl),(∀r∈l,CE r=0)->l.Pairwise (fun a b=>Ek a.path b.path=true)->(∀c,b=some c->∀r∈l,Ek c.path r.path=true)->BR b l=0:=by
  intro l
  induction l with
  |nil=>intro _ _ _ _;rfl
  |cons r l ih=>
   intro b hm hp hb;obtain⟨p1,p2⟩:=EF.1 hp;have ih:=ih (some r) (fun r hr=>hm r (Aj _ hr)) p2 (fun c e=>by cases e;exact p1);unfold BR;rw[AL (by rw[hm r (Ah ..)];decide)];cases b with
   |none=>exact ih
   |some c=>
    have hc:=hb c rfl r (Ah ..);show(if Cr c=Cr r then(5:Int)else if 0<I7 c r then 1 else BR (some r) l)=0;rw[AL (fun e=>T3 hc (Aa Sl.path e)),AL (by
     unfold I7 JH;rw[A1 hc,A1 aa3];decide)]
    exact ih
 simp_all
theorem VY(h0:Aw x=0)(hi:Be s=true)(h:F9 x s=some l):Do x roots s=if l.any (fun r=>r.reqs.any (Ck l))then 17 else if roots.any (Ck l)then 17 else if(KC l roots).length<l.length then 8 else 0:=by
 grind [Do]
def GQ(roots:List Rq)(l:List Rl):List Rq:=roots++(l.map (·.reqs)).flatten
theorem JZ{q:Rq}:q∈GQ roots l↔q∈roots\/∃r∈l,q∈r.reqs:=by
 grind [GQ]
theorem lE(h0:Aw x=0)(hi:Be s=true)(h:F9 x s=some l){q:Rq}(hq:q∈GQ roots l)(hb:Ck l q=true):Do x roots s=17:=by
 rw[VY h0 hi h]
 grind [JZ]
theorem VX(h0:Aw x=0)(hi:Be s=true)(h:F9 x s=some l)(hb:∀q∈GQ roots l,Ck l q=false):Do x roots s=if(KC l roots).length<l.length then 8 else 0:=by
 rw[VY h0 hi h,AL,AL]
 all_goals grind [JZ]
theorem QY{q:Rq}(h:Ck l q=false):∃r∈l,r.path=q.path/\has q.set (plc r.ver)=true:=by
 grind [Ck]
theorem lr(hn:(l.map (·.path)).Nodup)(hb:∀q∈GQ roots l,Ck l q=false):((l.filter fun r=>Wx (KC l roots) r.path).map Cr).length=(KC l roots).length:=by
 rw[Lm,<-Lm (f:=fun r:Rl=>r.path)];have hs:∀p∈KC l roots,p∈l.map (·.path):=XB _ (fun q hq=>by
   obtain⟨r,hr,e,_⟩:=QY (hb q (JZ.2 (.inl hq)))<;>grind)
  (fun r hr _ q hq=>by
   obtain⟨r2,eT,e,_⟩:=QY (hb q (JZ.2 (.inr ⟨r,hr,hq⟩)))<;>grind)
 have hnf:((l.filter fun r=>Wx (KC l roots) r.path).map (·.path)).Nodup:=List.Nodup.sublist (List.Sublist.map _ List.filter_sublist) hn;have hnc:(KC l roots).Nodup:=KD .nil;refine Nat.le_antisymm (CC hnf fun p hp=>?_) (CC hnc fun p hp=>?_)
 .obtain⟨r,hr,rfl⟩:=Ar.1 hp;exact JF.1 (Cw.1 hr).2
 .obtain⟨r,hr,e⟩:=Ar.1 (hs p hp);exact Ar.2 ⟨r,Cw.2 ⟨hr,JF.2 (e▸hp)⟩,e⟩
theorem z6(hn:(l.map (·.path)).Nodup)(hb:∀q∈GQ roots l,Ck l q=false):∀q,q∈roots\/(∃r∈l,q∈r.reqs)->∀r∈l,q.path=r.path->has q.set (plc r.ver)=true:=fun q hq r hr e=>by
 obtain⟨r2,eT,e2,h⟩:=QY (hb q (JZ.2 hq));have h1:=HT hn hr;have h2:=HT hn eT;simp_all
theorem wm(hb:∀q∈GQ roots l,Ck l q=false):∀q,q∈roots\/(∃r∈l,q∈r.reqs)->∃r∈l,r.path=q.path:=fun q hq=>by
 obtain⟨r,hr,e,_⟩:=QY (hb q (JZ.2 hq))<;>grind
end
end Go.Eng
