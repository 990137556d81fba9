/- Lemmas 25. -/
import Derived.Test.YtkjhcikodmiceaaGreatDoorVA24
namespace Go.Eng
open Go.Proofs
variable {l:List Rl}{roots:List Rq}{i:Nat}
theorem oH.start{Cl:List CS}:oH l roots Cl (List.replicate l.length false) true:=⟨⟨by simp,fun k hk h=>by simp_all⟩,fun h=>by cases h⟩
set_option maxHeartbeats 4000000 in
theorem c93(l:List Rl)(ifs:C0)(roots:List Rq)(Cl:List CS)(hc:vY l roots Cl)(qu:∀D:List CS,(∀q∈roots,q.path∈D)->(∀r∈l,r.path∈D->∀q∈r.reqs,q.path∈D)->∀p∈Cl,p∈D)
  (GR:∀q,q∈roots\/(∃r∈l,q∈r.reqs)->∀r∈l,q.path=r.path->has q.set (plc r.ver)=true) (hn:(l.map (·.path)).Nodup) (ZO:∀q,q∈roots\/(∃r∈l,q∈r.reqs)->∃r∈l,r.path=q.path)
  (h0:At l=0) (hx:∀r∈l,Fk r) (Sw:∀q∈roots,BO q.set) (hrl:roots.length<=1000000):PC 169 [.agg (Ic l ifs),sl Ad roots] (sl Ae ((l.filter fun r=>UD Cl r.path).map Cp)):=by
 have h67:=tY l ifs hx;rw[h0]at h67;have hl:=(Fs h0).1;have hv:∀r∈l,By r.ver=true:=fun r hr=>((BB h0).1 r hr).val;refine Ps ⟨[],[],[(18,1)],[],[],[],[],[],[],[],[4,9,11,13,16,21,23]⟩ Tryz.func169 rfl (Nz rfl) (yN (C1 (C2 h67 (Yi (fun h=>absurd h aa1) (fun _=>?_)))));refine Yi (show(0:Int)<=(l.map Am).length/\((l.map Am).length:Int)<=(l.map Am).length/\((l.map Am).length:Int)*1<=140737488355328/\((l.map Am).length:Int)<=9223372036854775807 by grind) (cU [(1,sl Ad roots),(2,.ref 2 0),(5,.msl 18 ((List.replicate ((l.map Am).length:Int).toNat [vb false]):C0).length)] [(2,.cells (Ic l ifs)),(18,.arr 1 (List.replicate ((l.map Am).length:Int).toNat [vb false]))] Z3 Z2 (Xi {q:List Bool×Bool // oH l roots Cl q.1 q.2} (Xi (fun q=>⟨[(1,sl Ad roots),(2,.ref 2 0),(5,.msl 18 q.1.1.length),(6,vb q.1.2)],[(2,.cells (Ic l ifs)),(18,.arr 1 (q.1.1.map Dh))],Af⟩) (Xi (fun q=>2*Yj q.1.1+(if q.1.2 then 1 else 0)) (Yi (Xi ⟨(List.replicate l.length false,true),oH.start⟩ ?_) ?_)))))
 .exact⟨⟨Zr,Zr,⟨(show AV.msl 18 (List.replicate ((l.map Am).length:Int).toNat [vb false]).length=.msl 18 (List.replicate l.length false).length by simp),rfl⟩,Zr,Tv⟩,⟨Zr,⟨(show HO.arr 1 (List.replicate ((l.map Am).length:Int).toNat [vb false])=.arr 1 ((List.replicate l.length false).map Dh) by simp),rfl⟩,Tv⟩,Fh,Tv⟩
 intro⟨⟨B,ch⟩,o⟩;have o:oH l roots Cl B ch:=o;have xQ:=o.snd.len;refine Ax (Bt ch) (fun h1=>?_) (fun h1=>?_)
 .have h1:ch=true:=h1;refine Mm (Aa (fun bb=>(⟨[(1,sl Ad roots),(2,.ref 2 0),(5,.msl 18 B.length),(6,vb bb)],[(2,.cells (Ic l ifs)),(18,.arr 1 (B.map Dh))],Af⟩:LS)) h1) (Xi {q:Nat×List Bool×Bool // q.1<=l.length/\YF l roots Cl B q.1 q.2.1 q.2.2} (Xi (fun q=>⟨[(1,sl Ad roots),(2,.ref 2 0),(5,.msl 18 q.1.2.1.length),(6,vb q.1.2.2),(7,vi q.1.1)],[(2,.cells (Ic l ifs)),(18,.arr 1 (q.1.2.1.map Dh))],Af⟩) (Xi (fun q=>l.length-q.1.1) (Yi (Xi ⟨(0,B,false),Al _,YF.start o.snd⟩ ?_) ?_))))
  .exact⟨Z5,Z2,Fh,Tv⟩
  intro⟨⟨i,B1,RI⟩,i1,nV⟩;have i1:i<=l.length:=i1;have nV:YF l roots Cl B i B1 RI:=nV;have hB1:=nV.snd.len;refine Yi (fun h2=>?_) (fun h2=>?_)
  .have h2:(i:Int)<((l.map Am).length:Int):=h2;have n2:i<l.length:=by simp_all
   have g2:l[i]?=some l[i]:=Ge n2;have ni:i<l.length:=by omega
   have mi:i<B1.length:=by omega
   have gbi:B1[i]?=some B1[i]:=Ge mi;refine Xi (Am l[i]) (Yi (Yi (Nn i) (Bq g2)) (Yi rfl (yN (Ax (Bt (Gs roots l[i])) (fun h3=>?_) (fun h3=>?_)))))
   .have h3:(Gs roots l[i])=true:=h3;have fg:=gT roots l[i] hrl Sw (hv _ (Ah ni));rw[show Gs roots l[i]=true from h3]at fg;refine C1 (C2 fg (cU [(1,sl Ad roots),(2,.ref 2 0),(5,.msl 18 B1.length),(6,vb RI),(7,vi i),(8,vb true)] [(2,.cells (Ic l ifs)),(18,.arr 1 (B1.map Dh))] Z6 Z2 (Xi {q:Nat×Bool // q.1<=l.length/\q.2=Ib l roots B1 l[i] q.1} (Xi (fun q=>⟨[(1,sl Ad roots),(2,.ref 2 0),(5,.msl 18 B1.length),(6,vb RI),(7,vi i),(8,vb q.1.2),(9,vi q.1.1)],[(2,.cells (Ic l ifs)),(18,.arr 1 (B1.map Dh))],Af⟩) (Xi (fun q=>l.length-q.1.1) (Yi (Xi ⟨(0,true),Al _,by grind [UP]⟩ ?_) ?_))))))
    .exact⟨Z7,Z2,Fh,Tv⟩
    intro⟨⟨k,b⟩,k1,hb⟩;have k1:k<=l.length:=k1;have hb:b=Ib l roots B1 l[i] k:=hb;refine Ax (Bt b) (fun h5=>?_) (fun h5=>?_)
    .have h5:b=true:=h5;refine Mm (Aa (fun bb=>(⟨[(1,sl Ad roots),(2,.ref 2 0),(5,.msl 18 B1.length),(6,vb RI),(7,vi i),(8,vb bb),(9,vi k)],[(2,.cells (Ic l ifs)),(18,.arr 1 (B1.map Dh))],Af⟩:LS)) h5) (Yi (fun h6=>?_) (fun h6=>?_))
     .have h6:(k:Int)<((l.map Am).length:Int):=h6;have n6:k<l.length:=by simp_all
      have g6:l[k]?=some l[k]:=Ge n6;have nk:k<l.length:=by omega
      have mk:k<B1.length:=by omega
      have xI:B1[k]?=some B1[k]:=Ge mk;refine Yi aa2 (cU [(1,sl Ad roots),(2,.ref 2 0),(5,.msl 18 B1.length),(6,vb RI),(7,vi i),(8,vb true),(9,vi k)] [(2,.cells (Ic l ifs)),(18,.arr 1 (B1.map Dh))] Z7 Z2 (Yi (by grind [Au]) (Xi ⟨(k+1,true),by omega,by grind [GU]⟩ ?_)));exact⟨by grind,Z7,Z2,Fh,Tv⟩
     have h6:¬((k:Int)<((l.map Am).length:Int)):=h6;have n6:¬k<l.length:=by simp_all
     refine Yi Wk (Yi (show B1.length=(B1.map Dh).length by simp) (Xi (Dh B1[i]) (Yi (Bq gbi) (Yi (fun h8=>?_) (fun h8=>?_)))))
     .have h8:B1[i]=true:=h8;refine cU [(1,sl Ad roots),(2,.ref 2 0),(5,.msl 18 B1.length),(6,vb RI),(7,vi i)] [(2,.cells (Ic l ifs)),(18,.arr 1 (B1.map Dh))] Z5 Z2 (Yi (by grind [Au]) (Xi ⟨(i+1,B1,RI),by omega,nV.keep ni (fun _=>by simp_all)⟩ ?_));exact⟨by grind,Z5,Z2,Fh,Tv⟩
     have h8:B1[i]=false:=h8;refine cU [(1,sl Ad roots),(2,.ref 2 0),(5,.msl 18 B1.length),(7,vi i)] [(2,.cells (Ic l ifs)),(18,.arr 1 (B1.map Dh))] Z4 Z2 (Yi Wk (Yi (show B1.length=(B1.map Dh).length by simp) (Xi (Dh B1[i]) (Yi (Bq gbi) (yN (cU [(1,sl Ad roots),(2,.ref 2 0),(5,.msl 18 B1.length),(6,vb true),(7,vi i)] [(2,.cells (Ic l ifs)),(18,.arr 1 ((B1.map Dh).set i [vb true]))] Z5 Z2 (Yi (by grind [Au]) (Xi ⟨(i+1,B1.set i true,true),by omega,nV.set hc ni (show Ib l roots B1 l[i] l.length=true by grind) (fun _=>h8)⟩ ?_))))))));exact⟨by grind,⟨Zr,Zr,⟨(show AV.msl 18 B1.length=.msl 18 (B1.set i true).length by simp_all),rfl⟩,Zr,Zr,Tv⟩,⟨Zr,⟨(show HO.arr 1 ((B1.map Dh).set i [vb true])=.arr 1 ((B1.set i true).map Dh) by simp_all),rfl⟩,Tv⟩,Fh,Tv⟩
    have h5:b=false:=h5;refine Mm (Aa (fun bb=>(⟨[(1,sl Ad roots),(2,.ref 2 0),(5,.msl 18 B1.length),(6,vb RI),(7,vi i),(8,vb bb),(9,vi k)],[(2,.cells (Ic l ifs)),(18,.arr 1 (B1.map Dh))],Af⟩:LS)) h5) (Yi (fun F2=>?_) (fun F2=>?_))
    .have F2:(k:Int)<((l.map Am).length:Int):=F2;have n11:k<l.length:=by simp_all
     have g11:l[k]?=some l[k]:=Ge n11;have nk:k<l.length:=by omega
     have mk:k<B1.length:=by omega
     have xI:B1[k]?=some B1[k]:=Ge mk;refine Yi Wk (Yi (show B1.length=(B1.map Dh).length by simp) (Xi (Dh B1[k]) (Yi (Bq xI) (Yi (fun Hr=>?_) (fun Hr=>?_)))))
     .have Hr:B1[k]=true:=Hr;refine Xi (Am l[k]) (Yi (Yi (Nn k) (Bq g11)) (Yi rfl (Xi (Am l[i]) (Yi (Yi (Nn i) (Bq g2)) (Yi rfl (yN (Ax (Bt (Gs l[k].reqs l[i])) (fun Lr=>?_) (fun Lr=>?_))))))))
      .have Lr:(Gs l[k].reqs l[i])=true:=Lr;have ZJ:=gT l[k].reqs l[i] (by grind [Fs]) (fun q hq=>((hx _ (Ah nk)).2 q hq).1) (hv _ (Ah ni));rw[show Gs l[k].reqs l[i]=true from Lr]at ZJ;refine C2 ZJ (Yi aa2 (cU [(1,sl Ad roots),(2,.ref 2 0),(5,.msl 18 B1.length),(6,vb RI),(7,vi i),(8,vb true),(9,vi k)] [(2,.cells (Ic l ifs)),(18,.arr 1 (B1.map Dh))] Z7 Z2 (Yi (by grind [Au]) (Xi ⟨(k+1,true),by omega,by grind [GU]⟩ ?_))));exact⟨Dl l.length k Wk,Z7,Z2,Fh,Tv⟩
      have Lr:(Gs l[k].reqs l[i])=false:=Lr;have lU:=gT l[k].reqs l[i] (by grind [Fs]) (fun q hq=>((hx _ (Ah nk)).2 q hq).1) (hv _ (Ah ni));rw[show Gs l[k].reqs l[i]=false from Lr]at lU;refine C2 lU (Yi aa2 (cU [(1,sl Ad roots),(2,.ref 2 0),(5,.msl 18 B1.length),(6,vb RI),(7,vi i),(8,vb false),(9,vi k)] [(2,.cells (Ic l ifs)),(18,.arr 1 (B1.map Dh))] Z7 Z2 (Yi (by grind [Au]) (Xi ⟨(k+1,false),by omega,by grind [GU]⟩ ?_))));exact⟨Dl l.length k Wk,Z7,Z2,Fh,Tv⟩
     have Hr:B1[k]=false:=Hr;refine Yi aa2 (cU [(1,sl Ad roots),(2,.ref 2 0),(5,.msl 18 B1.length),(6,vb RI),(7,vi i),(8,vb false),(9,vi k)] [(2,.cells (Ic l ifs)),(18,.arr 1 (B1.map Dh))] Z7 Z2 (Yi (by grind [Au]) (Xi ⟨(k+1,false),by omega,by grind [GU]⟩ ?_)));exact⟨Dl l.length k Wk,Z7,Z2,Fh,Tv⟩
    have F2:¬((k:Int)<((l.map Am).length:Int)):=F2;have n11:¬k<l.length:=by simp_all
    refine cU [(1,sl Ad roots),(2,.ref 2 0),(5,.msl 18 B1.length),(6,vb RI),(7,vi i)] [(2,.cells (Ic l ifs)),(18,.arr 1 (B1.map Dh))] Z5 Z2 (Yi (by grind [Au]) (Xi ⟨(i+1,B1,RI),by omega,nV.keep ni (fun h=>by grind)⟩ ?_));exact⟨Dl l.length i Wk,Z5,Z2,Fh,Tv⟩
   have h3:(Gs roots l[i])=false:=h3;have yd:=gT roots l[i] hrl Sw (hv _ (Ah ni));rw[show Gs roots l[i]=false from h3]at yd;refine C1 (C2 yd (cU [(1,sl Ad roots),(2,.ref 2 0),(5,.msl 18 B1.length),(6,vb RI),(7,vi i),(8,vb false)] [(2,.cells (Ic l ifs)),(18,.arr 1 (B1.map Dh))] Z6 Z2 (Xi {q:Nat×Bool // q.1<=l.length/\q.2=Ib l roots B1 l[i] q.1} (Xi (fun q=>⟨[(1,sl Ad roots),(2,.ref 2 0),(5,.msl 18 B1.length),(6,vb RI),(7,vi i),(8,vb q.1.2),(9,vi q.1.1)],[(2,.cells (Ic l ifs)),(18,.arr 1 (B1.map Dh))],Af⟩) (Xi (fun q=>l.length-q.1.1) (Yi (Xi ⟨(0,false),Al _,by grind [UP]⟩ ?_) ?_))))))
   .exact⟨Z7,Z2,Fh,Tv⟩
   intro⟨⟨k,b⟩,k1,hb⟩;have k1:k<=l.length:=k1;have hb:b=Ib l roots B1 l[i] k:=hb;refine Ax (Bt b) (fun XY=>?_) (fun XY=>?_)
   .have XY:b=true:=XY;refine Mm (Aa (fun bb=>(⟨[(1,sl Ad roots),(2,.ref 2 0),(5,.msl 18 B1.length),(6,vb RI),(7,vi i),(8,vb bb),(9,vi k)],[(2,.cells (Ic l ifs)),(18,.arr 1 (B1.map Dh))],Af⟩:LS)) XY) (Yi (fun Qw=>?_) (fun Qw=>?_))
    .have Qw:(k:Int)<((l.map Am).length:Int):=Qw;have n22:k<l.length:=by simp_all
     have g22:l[k]?=some l[k]:=Ge n22;have nk:k<l.length:=by omega
     have mk:k<B1.length:=by omega
     have xI:B1[k]?=some B1[k]:=Ge mk;refine Yi aa2 (cU [(1,sl Ad roots),(2,.ref 2 0),(5,.msl 18 B1.length),(6,vb RI),(7,vi i),(8,vb true),(9,vi k)] [(2,.cells (Ic l ifs)),(18,.arr 1 (B1.map Dh))] Z7 Z2 (Yi (by grind [Au]) (Xi ⟨(k+1,true),by omega,by grind [GU]⟩ ?_)));exact⟨by grind,Z7,Z2,Fh,Tv⟩
    have Qw:¬((k:Int)<((l.map Am).length:Int)):=Qw;have n22:¬k<l.length:=by simp_all
    refine Yi Wk (Yi (show B1.length=(B1.map Dh).length by simp) (Xi (Dh B1[i]) (Yi (Bq gbi) (Yi (fun kf=>?_) (fun kf=>?_)))))
    .have kf:B1[i]=true:=kf;refine cU [(1,sl Ad roots),(2,.ref 2 0),(5,.msl 18 B1.length),(6,vb RI),(7,vi i)] [(2,.cells (Ic l ifs)),(18,.arr 1 (B1.map Dh))] Z5 Z2 (Yi (by grind [Au]) (Xi ⟨(i+1,B1,RI),by omega,nV.keep ni (fun _=>by simp_all)⟩ ?_));exact⟨by grind,Z5,Z2,Fh,Tv⟩
    have kf:B1[i]=false:=kf;refine cU [(1,sl Ad roots),(2,.ref 2 0),(5,.msl 18 B1.length),(7,vi i)] [(2,.cells (Ic l ifs)),(18,.arr 1 (B1.map Dh))] Z4 Z2 (Yi Wk (Yi (show B1.length=(B1.map Dh).length by simp) (Xi (Dh B1[i]) (Yi (Bq gbi) (yN (cU [(1,sl Ad roots),(2,.ref 2 0),(5,.msl 18 B1.length),(6,vb true),(7,vi i)] [(2,.cells (Ic l ifs)),(18,.arr 1 ((B1.map Dh).set i [vb true]))] Z5 Z2 (Yi (by grind [Au]) (Xi ⟨(i+1,B1.set i true,true),by omega,nV.set hc ni (show Ib l roots B1 l[i] l.length=true by grind) (fun _=>kf)⟩ ?_))))))));exact⟨by grind,⟨Zr,Zr,⟨(show AV.msl 18 B1.length=.msl 18 (B1.set i true).length by simp_all),rfl⟩,Zr,Zr,Tv⟩,⟨Zr,⟨(show HO.arr 1 ((B1.map Dh).set i [vb true])=.arr 1 ((B1.set i true).map Dh) by simp_all),rfl⟩,Tv⟩,Fh,Tv⟩
   have XY:b=false:=XY;refine Mm (Aa (fun bb=>(⟨[(1,sl Ad roots),(2,.ref 2 0),(5,.msl 18 B1.length),(6,vb RI),(7,vi i),(8,vb bb),(9,vi k)],[(2,.cells (Ic l ifs)),(18,.arr 1 (B1.map Dh))],Af⟩:LS)) XY) (Yi (fun My=>?_) (fun My=>?_))
   .have My:(k:Int)<((l.map Am).length:Int):=My;have n27:k<l.length:=by simp_all
    have g27:l[k]?=some l[k]:=Ge n27;have nk:k<l.length:=by omega
    have mk:k<B1.length:=by omega
    have xI:B1[k]?=some B1[k]:=Ge mk;refine Yi Wk (Yi (show B1.length=(B1.map Dh).length by simp) (Xi (Dh B1[k]) (Yi (Bq xI) (Yi (fun Wy=>?_) (fun Wy=>?_)))))
    .have Wy:B1[k]=true:=Wy;refine Xi (Am l[k]) (Yi (Yi (Nn k) (Bq g27)) (Yi rfl (Xi (Am l[i]) (Yi (Yi (Nn i) (Bq g2)) (Yi rfl (yN (Ax (Bt (Gs l[k].reqs l[i])) (fun Vs=>?_) (fun Vs=>?_))))))))
     .have Vs:(Gs l[k].reqs l[i])=true:=Vs;have yi:=gT l[k].reqs l[i] (by grind [Fs]) (fun q hq=>((hx _ (Ah nk)).2 q hq).1) (hv _ (Ah ni));rw[show Gs l[k].reqs l[i]=true from Vs]at yi;refine C2 yi (Yi aa2 (cU [(1,sl Ad roots),(2,.ref 2 0),(5,.msl 18 B1.length),(6,vb RI),(7,vi i),(8,vb true),(9,vi k)] [(2,.cells (Ic l ifs)),(18,.arr 1 (B1.map Dh))] Z7 Z2 (Yi (by grind [Au]) (Xi ⟨(k+1,true),by omega,by grind [GU]⟩ ?_))));exact⟨Dl l.length k Wk,Z7,Z2,Fh,Tv⟩
     have Vs:(Gs l[k].reqs l[i])=false:=Vs;have yj:=gT l[k].reqs l[i] (by grind [Fs]) (fun q hq=>((hx _ (Ah nk)).2 q hq).1) (hv _ (Ah ni));rw[show Gs l[k].reqs l[i]=false from Vs]at yj;refine C2 yj (Yi aa2 (cU [(1,sl Ad roots),(2,.ref 2 0),(5,.msl 18 B1.length),(6,vb RI),(7,vi i),(8,vb false),(9,vi k)] [(2,.cells (Ic l ifs)),(18,.arr 1 (B1.map Dh))] Z7 Z2 (Yi (by grind [Au]) (Xi ⟨(k+1,false),by omega,by grind [GU]⟩ ?_))));exact⟨Dl l.length k Wk,Z7,Z2,Fh,Tv⟩
    have Wy:B1[k]=false:=Wy;refine Yi aa2 (cU [(1,sl Ad roots),(2,.ref 2 0),(5,.msl 18 B1.length),(6,vb RI),(7,vi i),(8,vb false),(9,vi k)] [(2,.cells (Ic l ifs)),(18,.arr 1 (B1.map Dh))] Z7 Z2 (Yi (by grind [Au]) (Xi ⟨(k+1,false),by omega,by grind [GU]⟩ ?_)));exact⟨Dl l.length k Wk,Z7,Z2,Fh,Tv⟩
   have My:¬((k:Int)<((l.map Am).length:Int)):=My;have n27:¬k<l.length:=by simp_all
   refine cU [(1,sl Ad roots),(2,.ref 2 0),(5,.msl 18 B1.length),(6,vb RI),(7,vi i)] [(2,.cells (Ic l ifs)),(18,.arr 1 (B1.map Dh))] Z5 Z2 (Yi (by grind [Au]) (Xi ⟨(i+1,B1,RI),by omega,nV.keep ni (fun h=>by grind)⟩ ?_));exact⟨Dl l.length i Wk,Z5,Z2,Fh,Tv⟩
  have h2:¬((i:Int)<((l.map Am).length:Int)):=h2;have n2:¬i<l.length:=by simp_all
  refine Xi ⟨(B1,RI),nV.out Wk⟩ ?_;exact⟨by have q:=nV.mu;simp_all,Z4,Z2,Fh,Tv⟩
 have h1:ch=false:=h1;have Aih:=oH.fin (h1▸o) qu GR hn ZO;refine Mm (Aa (fun bb=>(⟨[(1,sl Ad roots),(2,.ref 2 0),(5,.msl 18 B.length),(6,vb bb)],[(2,.cells (Ic l ifs)),(18,.arr 1 (B.map Dh))],Af⟩:LS)) h1) (Xi {q:Nat×List Sl // q.1<=l.length/\q.2=((l.take q.1).filter fun r=>UD Cl r.path).map Cp} (Xi (fun q=>⟨[(2,.ref 2 0),(5,.msl 18 B.length),(10,.slice (.id 73 4) (q.1.2.map Ae)),(11,vi q.1.1)],[(2,.cells (Ic l ifs)),(18,.arr 1 (B.map Dh)),(73,.tok 4 q.1.2.length)],Af⟩) (Xi (fun q=>l.length-q.1.1) (Yi (Xi ⟨(0,[]),Al _,rfl⟩ ?_) ?_))))
 .exact⟨Z4,Z3,Fh,Tv⟩
 intro⟨⟨j,O⟩,j1,j2⟩;have j1:j<=l.length:=j1;have j2:O=((l.take j).filter fun r=>UD Cl r.path).map Cp:=j2;have hO:O.length<=j:=by
  grind
 refine Yi (fun kg=>?_) (fun kg=>?_)
 .have kg:(j:Int)<((l.map Am).length:Int):=kg;have n37:j<l.length:=by simp_all
  have g37:l[j]?=some l[j]:=Ge n37;have nj:j<l.length:=by omega
  have mj:j<B.length:=by omega
  have gbj:B[j]?=some B[j]:=Ge mj;refine Yi (by simp_all) ?_;refine Yi (show B.length=(B.map Dh).length by simp) (Xi (Dh B[j]) (Yi (Bq gbj) (Yi (fun SJ=>?_) (fun SJ=>?_))))
  .have SJ:B[j]=true:=SJ;refine cU [(2,.ref 2 0),(5,.msl 18 B.length),(10,.slice (.id 73 4) (O.map Ae)),(11,vi j)] [(2,.cells (Ic l ifs)),(18,.arr 1 (B.map Dh)),(73,.tok 4 O.length)] Z4 Z3 (Xi (Am l[j]) (Yi (Yi (Nn j) (Bq g37)) (Yi rfl (Xi (Am l[j]) (Yi (Yi (Nn j) (Bq g37)) (Yi rfl (yN ?_)))))));have b39:Bh 4 [[vs l[j].path,vi l[j].ver.a,vi l[j].ver.b,vi l[j].ver.c]]/\(O.map Ae).length=O.length/\((O.map Ae).length+([[vs l[j].path,vi l[j].ver.a,vi l[j].ver.b,vi l[j].ver.c]]:C0).length)*40<=140737488355328/\(O.map Ae).length+([[vs l[j].path,vi l[j].ver.a,vi l[j].ver.b,vi l[j].ver.c]]:C0).length<=9223372036854775807:=⟨⟨rfl,trivial⟩,aa0,(by grind),(by grind)⟩;refine Yi b39 (Yi aa2 (cU [(2,.ref 2 0),(5,.msl 18 B.length),(10,.slice (.id 73 4) ((O.map Ae)++[[vs l[j].path,vi l[j].ver.a,vi l[j].ver.b,vi l[j].ver.c]])),(11,vi j)] [(2,.cells (Ic l ifs)),(18,.arr 1 (B.map Dh)),(73,.tok 4 ((O.map Ae).length+([[vs l[j].path,vi l[j].ver.a,vi l[j].ver.b,vi l[j].ver.c]]:C0).length))] Z4 Z3 (Yi (by grind [Au]) (Xi ⟨(j+1,(O++[Cp l[j]])),by omega,by show(O++[Cp l[j]])=((l.take (j+1)).filter _).map Cp;rw[Dm,Ge nj,HL,Bk,<-j2];simp_all⟩ ?_))));exact⟨Dl l.length j Wk,⟨Zr,Zr,⟨(show AV.slice (.id 73 4) (O.map Ae++[Ae (Cp l[j])])=.slice (.id 73 4) ((O++[Cp l[j]]).map Ae) by simp),rfl⟩,Zr,Tv⟩,⟨Zr,Zr,⟨(show HO.tok 4 ((O.map Ae).length+([Ae (Cp l[j])]:C0).length)=.tok 4 (O++[Cp l[j]]).length by simp),rfl⟩,Tv⟩,Fh,Tv⟩
  have SJ:B[j]=false:=SJ;refine cU [(2,.ref 2 0),(5,.msl 18 B.length),(10,.slice (.id 73 4) (O.map Ae)),(11,vi j)] [(2,.cells (Ic l ifs)),(18,.arr 1 (B.map Dh)),(73,.tok 4 O.length)] Z4 Z3 (Yi (by grind [Au]) (Xi ⟨(j+1,O),by omega,by show O=((l.take (j+1)).filter _).map Cp;rw[Dm,Ge nj,HL,Bk,<-j2];simp_all⟩ ?_));exact⟨Dl l.length j Wk,Z4,Z3,Fh,Tv⟩
 have kg:¬((j:Int)<((l.map Am).length:Int)):=kg;have n37:¬j<l.length:=by simp_all
 exact .of_eq (Aa (sl Ae) (show O=(l.filter fun r=>UD Cl r.path).map Cp by grind))
theorem QZ{l:List Rl}:∀{n:Nat} {t:List Rq} {d:List CS},t.length+MS d l+1<=n->(∀p∈d,∀q∈Fc l p,q.path∈d\/∃u∈t,u.path=q.path) ->
  (∀p∈d,p∈Fq l n t d)/\(∀u∈t,u.path∈Fq l n t d)/\∀p∈Fq l n t d,∀q∈Fc l p,q.path∈Fq l n t d
 |0,_,_,h,_=>by omega
 |n+1,[],d,_,hc=>by
  grind [Fq]
 |n+1,q::t,d,h,hc=>by
  simp only[DZ]at h;cases hq:d.any (fun p=>decide (p=q.path))with
  |true=>
   have e:Fq l (n+1) (q::t) d=Fq l n t d:=by show(if _ then _ else _)=_;simp_all
   rw[e];have hm:=Jk.1 hq;obtain⟨i1,i2,i3⟩:=QZ (l:=l) (n:=n) (t:=t) (d:=d) Wk (fun p hp u hu=>by
    rcases hc p hp u hu with h | ⟨v,hv,ev⟩
    .exact .inl h
    .rcases AR.1 hv with hv | hv
     .exact .inl (by rw[<-ev,hv];exact hm)
     .exact .inr ⟨v,hv,ev⟩)
   exact⟨i1,fun u hu=>(AR.1 hu).elim (fun eu=>by rw[eu];exact i1 _ hm) (i2 u),i3⟩
  |false=>
   have e:Fq l (n+1) (q::t) d=Fq l n (t++Fc l q.path) (d++[q.path]):=by show(if _ then _ else _)=_;grind
   rw[e];have hp:=Re d q.path hq l;obtain⟨i1,i2,i3⟩:=QZ (l:=l) (n:=n) (t:=t++Fc l q.path) (d:=d++[q.path]) (by rw[AD];omega) (fun p hp u hu=>by
    rcases Bi.1 hp with hp | hp
    .rcases hc p hp u hu with h | ⟨v,hv,ev⟩
     .exact .inl (Bw _ h)
     .rcases AR.1 hv with hv | hv
      .exact .inl (by rw[<-ev,hv];simp)
      .exact .inr ⟨v,Bw _ hv,ev⟩
    .rw[AJ.1 hp]at hu;exact .inr ⟨u,B7 _ hu,rfl⟩)
   exact⟨fun p hp=>i1 p (Bw _ hp),fun u hu=>(AR.1 hu).elim (fun eu=>by rw[eu];exact i1 _ aa0) (fun hu=>i2 u (Bw _ hu)),i3⟩
abbrev JP(l:List Rl)(roots:List Rq):List CS:=Fq l (Hh l roots) roots []
theorem dE(hn:(l.map (·.path)).Nodup){r:Rl}(hr:r∈l):Fc l r.path=r.reqs:=by unfold Fc;rw[HC hn hr]
theorem WR(hn:(l.map (·.path)).Nodup):vY l roots (JP l roots):=by
 obtain⟨_,h2,h3⟩:=QZ (l:=l) (n:=Hh l roots) (t:=roots) (d:=[]) (by grind [UW,Hh]) (fun p hp=>by cases hp);exact⟨h2,fun r hr hp q hq=>h3 _ hp q (by grind [dE])⟩
theorem WS(D:List CS)(h1:∀q∈roots,q.path∈D)(h2:∀r∈l,r.path∈D->∀q∈r.reqs,q.path∈D):∀p∈JP l roots,p∈D:=
 Nr h2 h1 fun p hp=>by cases hp
theorem W4(x:List Rl)(y:Sl):∀a:List Sl,FK x (a++[y])=match FK x a with | none=>none | some l=>match AY x y with | none=>none | some r=>some (l++[r])
 | []=>by
  grind [FK]
 |z::a=>by
  show(match AY x z with | none=>none | some r=>match FK x (a++[y])with | none=>none | some l=>some (r::l))=match(match AY x z with | none=>none | some r=>match FK x a with | none=>none | some l=>some (r::l))with | none=>none | some l=>match AY x y with | none=>none | some r=>some (l++[r])
  rw[W4 x y a];cases AY x z<;>grind
theorem jN(x:List Rl){a:List Sl}(h:FK x a=none):∀b:List Sl,FK x (a++b)=none:=by
 induction a<;>grind [FK]
section
variable {x l:List Rl}{roots:List Rq}{s:List Sl}
theorem bn{A:List Rl}(hi:i<s.length)(h:FK x (s.take i)=some A):FK x (s.take (i+1))=match AY x s[i]with | none=>none | some r=>some (A++[r]):=by
 grind [List.take_add_one,W4]
theorem oc{A:List Rl}(hi:i<s.length)(h:FK x (s.take i)=some A)(hn:AY x s[i]=none):FK x s=none:=by
 have h1:=bn hi h
 grind [jN,List.take_append_drop]
theorem U9(hn:(l.map (·.path)).Nodup)(hs:l.map Cp=s)(hv:∀r∈l,By r.ver=true)(q:Rq):SB q s=!B9 l q:=by
 have e:SB q s=l.any fun r=>decide (r.path=q.path)&&has q.set (plc r.ver):=by
  unfold SB;rw[<-hs,List.any_map];rw[Cy,BC,BC];constructor<;>rintro⟨r,hr,h⟩<;>refine⟨r,hr,?_⟩
  .rw[<-LG (hv r hr)];exact h
  .show(decide (r.path=q.path)&&has q.set (place r.ver))=true
   grind [LG]
 grind [B9,List.mem_of_find?_eq_some,HC]
theorem ci:∀{m:List Rl} {b:Option Rl},B5 b m=0->∀r∈m,CP r=0
 | [],_,_,_,h=>by cases h
 |a::m,b,h,r,hr=>by
  unfold B5 at h;split at h
  .omega
  .rename_i h1;rcases AR.1 hr with rfl | hr
   .omega
   .cases b with
    |none=>exact ci h r hr
    |some c=>
     have h:(if Cp c=Cp a then(5:Int)else if 0<IJ c a then 1 else B5 (some a) m)=0:=h;split at h
     .cases h
     .split at h
      .cases h
      .exact ci h r hr
theorem t7{r:Rl}(hr:r∈x)(h:At x=0):CP r=0:=by
 grind [At,ci]
theorem vI(h0:At x=0)(hi:Bb s=true)(h:FK x s=some l)(hl:s.length<=256):At l=0:=by
 obtain⟨h1,h2,_⟩:=F5 h;have hx:=(BB h0).1;have CL:l.length=s.length:=by grind
 have hm:∀r∈l,CP r=0:=fun r hr=>t7 ((Cv (h2 r hr)).2.1) h0;unfold At;rw[AN Wk];have hp:=(Iq hi).1;rw[<-h1]at hp;have hp:l.Pairwise fun a b=>Ez a.path b.path=true:=Im.1 hp;have gen:∀(l:List Rl) (b:Option Rl),(∀r∈l,CP r=0)->l.Pairwise (fun a b=>Ez a.path b.path=true)->(∀c,b=some c->∀r∈l,Ez c.path r.path=true)->B5 b l=0:=by
  intro l
  induction l with
  |nil=>intro _ _ _ _;rfl
  |cons r l ih=>
   intro b hm hp hb;obtain⟨p1,p2⟩:=Es.1 hp;have ih:=ih (some r) (fun r hr=>hm r (Aj _ hr)) p2 (fun c e=>by cases e;exact p1);unfold B5;rw[AN (by rw[hm r (Ag ..)];decide)];cases b with
   |none=>exact ih
   |some c=>
    have hc:=hb c rfl r (Ag ..);show(if Cp c=Cp r then(5:Int)else if 0<IJ c r then 1 else B5 (some r) l)=0;rw[AN (fun e=>To hc (Aa Sl.path e)),AN (by
     unfold IJ Jm;rw[A3 hc,A3 aa1];decide)]
    exact ih
 simp_all
theorem Vi(h0:At x=0)(hi:Bb s=true)(h:FK x s=some l):CW x roots s=if l.any (fun r=>r.reqs.any (B9 l))then 17 else if roots.any (B9 l)then 17 else if(JP l roots).length<l.length then 8 else 0:=by
 grind [CW]
def GI(roots:List Rq)(l:List Rl):List Rq:=roots++(l.map (·.reqs)).flatten
theorem JG{q:Rq}:q∈GI roots l↔q∈roots\/∃r∈l,q∈r.reqs:=by
 grind [GI]
theorem jS(h0:At x=0)(hi:Bb s=true)(h:FK x s=some l){q:Rq}(hq:q∈GI roots l)(hb:B9 l q=true):CW x roots s=17:=by
 rw[Vi h0 hi h]
 grind [JG]
theorem Vh(h0:At x=0)(hi:Bb s=true)(h:FK x s=some l)(hb:∀q∈GI roots l,B9 l q=false):CW x roots s=if(JP l roots).length<l.length then 8 else 0:=by
 rw[Vi h0 hi h,AN,AN]
 all_goals grind [JG]
theorem Qs{q:Rq}(h:B9 l q=false):∃r∈l,r.path=q.path/\has q.set (plc r.ver)=true:=by
 grind [B9]
theorem jI(hn:(l.map (·.path)).Nodup)(hb:∀q∈GI roots l,B9 l q=false):((l.filter fun r=>UD (JP l roots) r.path).map Cp).length=(JP l roots).length:=by
 rw[Lm,<-Lm (f:=fun r:Rl=>r.path)];have hs:∀p∈JP l roots,p∈l.map (·.path):=WS _ (fun q hq=>by
   obtain⟨r,hr,e,_⟩:=Qs (hb q (JG.2 (.inl hq)))<;>grind)
  (fun r hr _ q hq=>by
   obtain⟨r2,cS,e,_⟩:=Qs (hb q (JG.2 (.inr ⟨r,hr,hq⟩)))<;>grind)
 have yL:((l.filter fun r=>UD (JP l roots) r.path).map (·.path)).Nodup:=List.Nodup.sublist (List.Sublist.map _ List.filter_sublist) hn;have hnc:(JP l roots).Nodup:=Kh .nil;refine Nat.le_antisymm (CB yL fun p hp=>?_) (CB hnc fun p hp=>?_)
 .obtain⟨r,hr,rfl⟩:=Ar.1 hp;exact Jk.1 (Cr.1 hr).2
 .obtain⟨r,hr,e⟩:=Ar.1 (hs p hp);exact Ar.2 ⟨r,Cr.2 ⟨hr,Jk.2 (e▸hp)⟩,e⟩
theorem x6(hn:(l.map (·.path)).Nodup)(hb:∀q∈GI roots l,B9 l q=false):∀q,q∈roots\/(∃r∈l,q∈r.reqs)->∀r∈l,q.path=r.path->has q.set (plc r.ver)=true:=fun q hq r hr e=>by
 obtain⟨r2,cS,e2,h⟩:=Qs (hb q (JG.2 hq));have h1:=HC hn hr;have h2:=HC hn cS;simp_all
theorem uf(hb:∀q∈GI roots l,B9 l q=false):∀q,q∈roots\/(∃r∈l,q∈r.reqs)->∃r∈l,r.path=q.path:=fun q hq=>by
 obtain⟨r,hr,e,_⟩:=Qs (hb q (JG.2 hq))<;>grind
end
end Go.Eng
