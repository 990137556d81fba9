/- Lemmas 29. -/
import Derived.Test.YtkmnnpmneamgoaaGreatDoorPA28
namespace Go.Eng
open Go.Proofs
variable {l:List Rl}{roots:List Rq}{i:Nat}
theorem nV.start{Cl:List ByteArray}:nV l roots Cl (List.replicate l.length false) true:=⟨⟨by simp,fun k hk h=>by simp_all⟩,fun h=>by cases h⟩
set_option maxHeartbeats 4000000 in
theorem c93(l:List Rl)(ifs:List (List AV))(roots:List Rq)(Cl:List ByteArray)(hc:uS l roots Cl)(pV:∀D:List ByteArray,(∀q∈roots,q.path∈D)->(∀r∈l,r.path∈D->∀q∈r.reqs,q.path∈D)->∀p∈Cl,p∈D)
  (Gv:∀q,q∈roots\/(∃r∈l,q∈r.reqs)->∀r∈l,q.path=r.path->has q.set (plc r.ver)=true) (hn:(l.map (·.path)).Nodup) (Y2:∀q,q∈roots\/(∃r∈l,q∈r.reqs)->∃r∈l,r.path=q.path)
  (h0:Av l=0) (hx:∀r∈l,E4 r) (Vj:∀q∈roots,BL q.set) (Jh:roots.length<=1000000):PC 107 [.agg (Ic l ifs),sl Ac roots] (sl Ag ((l.filter fun r=>Ua Cl r.path).map Cq)):=by
 have h67:=uV l ifs hx;rw[h0]at h67;have hl:=(Fb h0).1;have hv:∀r∈l,BK r.ver=true:=fun r hr=>((BC h0).1 r hr).val;refine Ps ⟨[],[],[(18,1)],[],[],[],[],[],[],[],[4,9,11,13,16,21,23]⟩ Tryz.func107 rfl (Nz rfl) (yN (Xi .pure (Xi _ (Yi h67 (Yi (fun h=>absurd h aa2) (fun _=>?_))))));refine Yi (show(0:Int)<=(l.map Am).length/\((l.map Am).length:Int)<=(l.map Am).length/\((l.map Am).length:Int)*1<=140737488355328/\((l.map Am).length:Int)<=9223372036854775807 by grind) (cU [(1,sl Ac roots),(2,.ref 2 0),(5,.msl 18 ((List.replicate ((l.map Am).length:Int).toNat [vb false]):List (List AV)).length)] [(2,.cells (Ic l ifs)),(18,.arr 1 (List.replicate ((l.map Am).length:Int).toNat [vb false]))] Z3 Z2 (Xi {q:List Bool×Bool // nV l roots Cl q.1 q.2} (Xi (fun q=>⟨[(1,sl Ac roots),(2,.ref 2 0),(5,.msl 18 q.1.1.length),(6,vb q.1.2)],[(2,.cells (Ic l ifs)),(18,.arr 1 (q.1.1.map Dg))],Ae⟩) (Xi (fun q=>2*XJ q.1.1+(if q.1.2 then 1 else 0)) (Yi (Xi ⟨(List.replicate l.length false,true),nV.start⟩ ?_) ?_)))))
 .exact⟨⟨Zr,Zr,⟨(show AV.msl 18 (List.replicate ((l.map Am).length:Int).toNat [vb false]).length=.msl 18 (List.replicate l.length false).length by simp),rfl⟩,Zr,Tv⟩,⟨Zr,⟨(show HO.arr 1 (List.replicate ((l.map Am).length:Int).toNat [vb false])=.arr 1 ((List.replicate l.length false).map Dg) by simp),rfl⟩,Tv⟩,Fh,Tv⟩
 intro⟨⟨B,ch⟩,o⟩;have o:nV l roots Cl B ch:=o;have wY:=o.snd.len;refine AA (Bt ch) (fun h1=>?_) (fun h1=>?_)
 .have h1:ch=true:=h1;refine Mj (Aa (fun bb=>(⟨[(1,sl Ac roots),(2,.ref 2 0),(5,.msl 18 B.length),(6,vb bb)],[(2,.cells (Ic l ifs)),(18,.arr 1 (B.map Dg))],Ae⟩:LS)) h1) (Xi {q:Nat×List Bool×Bool // q.1<=l.length/\X5 l roots Cl B q.1 q.2.1 q.2.2} (Xi (fun q=>⟨[(1,sl Ac roots),(2,.ref 2 0),(5,.msl 18 q.1.2.1.length),(6,vb q.1.2.2),(7,vi q.1.1)],[(2,.cells (Ic l ifs)),(18,.arr 1 (q.1.2.1.map Dg))],Ae⟩) (Xi (fun q=>l.length-q.1.1) (Yi (Xi ⟨(0,B,false),Ap _,X5.start o.snd⟩ ?_) ?_))))
  .exact⟨Z5,Z2,Fh,Tv⟩
  intro⟨⟨i,B1,Rk⟩,i1,np⟩;have i1:i<=l.length:=i1;have np:X5 l roots Cl B i B1 Rk:=np;have hB1:=np.snd.len;refine Yi (fun h2=>?_) (fun h2=>?_)
  .have h2:(i:Int)<((l.map Am).length:Int):=h2;have n2:i<l.length:=by simp_all
   have g2:l[i]?=some l[i]:=Ge n2;have ni:i<l.length:=by omega
   have mi:i<B1.length:=by omega
   have zl:B1[i]?=some B1[i]:=Ge mi;refine Xi (Am l[i]) (Yi (Yi (Nn i) (Bk g2)) (Yi rfl (yN (AA (Bt (GA roots l[i])) (fun h3=>?_) (fun h3=>?_)))))
   .have h3:(GA roots l[i])=true:=h3;have YV:=fR roots l[i] Jh Vj (hv _ (Ak ni));rw[show GA roots l[i]=true from h3]at YV;refine Xi .pure (Xi _ (Yi YV (cU [(1,sl Ac roots),(2,.ref 2 0),(5,.msl 18 B1.length),(6,vb Rk),(7,vi i),(8,vb true)] [(2,.cells (Ic l ifs)),(18,.arr 1 (B1.map Dg))] Z6 Z2 (Xi {q:Nat×Bool // q.1<=l.length/\q.2=H5 l roots B1 l[i] q.1} (Xi (fun q=>⟨[(1,sl Ac roots),(2,.ref 2 0),(5,.msl 18 B1.length),(6,vb Rk),(7,vi i),(8,vb q.1.2),(9,vi q.1.1)],[(2,.cells (Ic l ifs)),(18,.arr 1 (B1.map Dg))],Ae⟩) (Xi (fun q=>l.length-q.1.1) (Yi (Xi ⟨(0,true),Ap _,by grind [Un]⟩ ?_) ?_)))))))
    .exact⟨Z7,Z2,Fh,Tv⟩
    intro⟨⟨k,b⟩,k1,hb⟩;have k1:k<=l.length:=k1;have hb:b=H5 l roots B1 l[i] k:=hb;refine AA (Bt b) (fun h5=>?_) (fun h5=>?_)
    .have h5:b=true:=h5;refine Mj (Aa (fun bb=>(⟨[(1,sl Ac roots),(2,.ref 2 0),(5,.msl 18 B1.length),(6,vb Rk),(7,vi i),(8,vb bb),(9,vi k)],[(2,.cells (Ic l ifs)),(18,.arr 1 (B1.map Dg))],Ae⟩:LS)) h5) (Yi (fun h6=>?_) (fun h6=>?_))
     .have h6:(k:Int)<((l.map Am).length:Int):=h6;have n6:k<l.length:=by simp_all
      have g6:l[k]?=some l[k]:=Ge n6;have nk:k<l.length:=by omega
      have mk:k<B1.length:=by omega
      have wM:B1[k]?=some B1[k]:=Ge mk;refine Yi aa3 (cU [(1,sl Ac roots),(2,.ref 2 0),(5,.msl 18 B1.length),(6,vb Rk),(7,vi i),(8,vb true),(9,vi k)] [(2,.cells (Ic l ifs)),(18,.arr 1 (B1.map Dg))] Z7 Z2 (Yi (by grind [As]) (Xi ⟨(k+1,true),by omega,by grind [GX]⟩ ?_)));exact⟨by grind,Z7,Z2,Fh,Tv⟩
     have h6:¬((k:Int)<((l.map Am).length:Int)):=h6;have n6:¬k<l.length:=by simp_all
     refine Yi aa0 (Yi (show B1.length=(B1.map Dg).length by simp) (Xi (Dg B1[i]) (Yi (Bk zl) (Yi (fun h8=>?_) (fun h8=>?_)))))
     .have h8:B1[i]=true:=h8;refine cU [(1,sl Ac roots),(2,.ref 2 0),(5,.msl 18 B1.length),(6,vb Rk),(7,vi i)] [(2,.cells (Ic l ifs)),(18,.arr 1 (B1.map Dg))] Z5 Z2 (Yi (by grind [As]) (Xi ⟨(i+1,B1,Rk),by omega,np.keep ni (fun _=>by simp_all)⟩ ?_));exact⟨by grind,Z5,Z2,Fh,Tv⟩
     have h8:B1[i]=false:=h8;refine cU [(1,sl Ac roots),(2,.ref 2 0),(5,.msl 18 B1.length),(7,vi i)] [(2,.cells (Ic l ifs)),(18,.arr 1 (B1.map Dg))] Z4 Z2 (Yi aa0 (Yi (show B1.length=(B1.map Dg).length by simp) (Xi (Dg B1[i]) (Yi (Bk zl) (yN (cU [(1,sl Ac roots),(2,.ref 2 0),(5,.msl 18 B1.length),(6,vb true),(7,vi i)] [(2,.cells (Ic l ifs)),(18,.arr 1 ((B1.map Dg).set i [vb true]))] Z5 Z2 (Yi (by grind [As]) (Xi ⟨(i+1,B1.set i true,true),by omega,np.set hc ni (show H5 l roots B1 l[i] l.length=true by grind) (fun _=>h8)⟩ ?_))))))));exact⟨by grind,⟨Zr,Zr,⟨(show AV.msl 18 B1.length=.msl 18 (B1.set i true).length by simp_all),rfl⟩,Zr,Zr,Tv⟩,⟨Zr,⟨(show HO.arr 1 ((B1.map Dg).set i [vb true])=.arr 1 ((B1.set i true).map Dg) by simp_all),rfl⟩,Tv⟩,Fh,Tv⟩
    have h5:b=false:=h5;refine Mj (Aa (fun bb=>(⟨[(1,sl Ac roots),(2,.ref 2 0),(5,.msl 18 B1.length),(6,vb Rk),(7,vi i),(8,vb bb),(9,vi k)],[(2,.cells (Ic l ifs)),(18,.arr 1 (B1.map Dg))],Ae⟩:LS)) h5) (Yi (fun Jr=>?_) (fun Jr=>?_))
    .have Jr:(k:Int)<((l.map Am).length:Int):=Jr;have n11:k<l.length:=by simp_all
     have g11:l[k]?=some l[k]:=Ge n11;have nk:k<l.length:=by omega
     have mk:k<B1.length:=by omega
     have wM:B1[k]?=some B1[k]:=Ge mk;refine Yi aa0 (Yi (show B1.length=(B1.map Dg).length by simp) (Xi (Dg B1[k]) (Yi (Bk wM) (Yi (fun N7=>?_) (fun N7=>?_)))))
     .have N7:B1[k]=true:=N7;refine Xi (Am l[k]) (Yi (Yi (Nn k) (Bk g11)) (Yi rfl (Xi (Am l[i]) (Yi (Yi (Nn i) (Bk g2)) (Yi rfl (yN (AA (Bt (GA l[k].reqs l[i])) (fun Nx=>?_) (fun Nx=>?_))))))))
      .have Nx:(GA l[k].reqs l[i])=true:=Nx;have TL:=fR l[k].reqs l[i] (by grind [Fb]) (fun q hq=>((hx _ (Ak nk)).2 q hq).1) (hv _ (Ak ni));rw[show GA l[k].reqs l[i]=true from Nx]at TL;refine Xi _ (Yi TL (Yi aa3 (cU [(1,sl Ac roots),(2,.ref 2 0),(5,.msl 18 B1.length),(6,vb Rk),(7,vi i),(8,vb true),(9,vi k)] [(2,.cells (Ic l ifs)),(18,.arr 1 (B1.map Dg))] Z7 Z2 (Yi (by grind [As]) (Xi ⟨(k+1,true),by omega,by grind [GX]⟩ ?_)))));exact⟨Dl l.length k aa0,Z7,Z2,Fh,Tv⟩
      have Nx:(GA l[k].reqs l[i])=false:=Nx;have ld:=fR l[k].reqs l[i] (by grind [Fb]) (fun q hq=>((hx _ (Ak nk)).2 q hq).1) (hv _ (Ak ni));rw[show GA l[k].reqs l[i]=false from Nx]at ld;refine Xi _ (Yi ld (Yi aa3 (cU [(1,sl Ac roots),(2,.ref 2 0),(5,.msl 18 B1.length),(6,vb Rk),(7,vi i),(8,vb false),(9,vi k)] [(2,.cells (Ic l ifs)),(18,.arr 1 (B1.map Dg))] Z7 Z2 (Yi (by grind [As]) (Xi ⟨(k+1,false),by omega,by grind [GX]⟩ ?_)))));exact⟨Dl l.length k aa0,Z7,Z2,Fh,Tv⟩
     have N7:B1[k]=false:=N7;refine Yi aa3 (cU [(1,sl Ac roots),(2,.ref 2 0),(5,.msl 18 B1.length),(6,vb Rk),(7,vi i),(8,vb false),(9,vi k)] [(2,.cells (Ic l ifs)),(18,.arr 1 (B1.map Dg))] Z7 Z2 (Yi (by grind [As]) (Xi ⟨(k+1,false),by omega,by grind [GX]⟩ ?_)));exact⟨Dl l.length k aa0,Z7,Z2,Fh,Tv⟩
    have Jr:¬((k:Int)<((l.map Am).length:Int)):=Jr;have n11:¬k<l.length:=by simp_all
    refine cU [(1,sl Ac roots),(2,.ref 2 0),(5,.msl 18 B1.length),(6,vb Rk),(7,vi i)] [(2,.cells (Ic l ifs)),(18,.arr 1 (B1.map Dg))] Z5 Z2 (Yi (by grind [As]) (Xi ⟨(i+1,B1,Rk),by omega,np.keep ni (fun h=>by grind)⟩ ?_));exact⟨Dl l.length i aa0,Z5,Z2,Fh,Tv⟩
   have h3:(GA roots l[i])=false:=h3;have xk:=fR roots l[i] Jh Vj (hv _ (Ak ni));rw[show GA roots l[i]=false from h3]at xk;refine Xi .pure (Xi _ (Yi xk (cU [(1,sl Ac roots),(2,.ref 2 0),(5,.msl 18 B1.length),(6,vb Rk),(7,vi i),(8,vb false)] [(2,.cells (Ic l ifs)),(18,.arr 1 (B1.map Dg))] Z6 Z2 (Xi {q:Nat×Bool // q.1<=l.length/\q.2=H5 l roots B1 l[i] q.1} (Xi (fun q=>⟨[(1,sl Ac roots),(2,.ref 2 0),(5,.msl 18 B1.length),(6,vb Rk),(7,vi i),(8,vb q.1.2),(9,vi q.1.1)],[(2,.cells (Ic l ifs)),(18,.arr 1 (B1.map Dg))],Ae⟩) (Xi (fun q=>l.length-q.1.1) (Yi (Xi ⟨(0,false),Ap _,by grind [Un]⟩ ?_) ?_)))))))
   .exact⟨Z7,Z2,Fh,Tv⟩
   intro⟨⟨k,b⟩,k1,hb⟩;have k1:k<=l.length:=k1;have hb:b=H5 l roots B1 l[i] k:=hb;refine AA (Bt b) (fun OG=>?_) (fun OG=>?_)
   .have OG:b=true:=OG;refine Mj (Aa (fun bb=>(⟨[(1,sl Ac roots),(2,.ref 2 0),(5,.msl 18 B1.length),(6,vb Rk),(7,vi i),(8,vb bb),(9,vi k)],[(2,.cells (Ic l ifs)),(18,.arr 1 (B1.map Dg))],Ae⟩:LS)) OG) (Yi (fun Vf=>?_) (fun Vf=>?_))
    .have Vf:(k:Int)<((l.map Am).length:Int):=Vf;have n22:k<l.length:=by simp_all
     have g22:l[k]?=some l[k]:=Ge n22;have nk:k<l.length:=by omega
     have mk:k<B1.length:=by omega
     have wM:B1[k]?=some B1[k]:=Ge mk;refine Yi aa3 (cU [(1,sl Ac roots),(2,.ref 2 0),(5,.msl 18 B1.length),(6,vb Rk),(7,vi i),(8,vb true),(9,vi k)] [(2,.cells (Ic l ifs)),(18,.arr 1 (B1.map Dg))] Z7 Z2 (Yi (by grind [As]) (Xi ⟨(k+1,true),by omega,by grind [GX]⟩ ?_)));exact⟨by grind,Z7,Z2,Fh,Tv⟩
    have Vf:¬((k:Int)<((l.map Am).length:Int)):=Vf;have n22:¬k<l.length:=by simp_all
    refine Yi aa0 (Yi (show B1.length=(B1.map Dg).length by simp) (Xi (Dg B1[i]) (Yi (Bk zl) (Yi (fun jt=>?_) (fun jt=>?_)))))
    .have jt:B1[i]=true:=jt;refine cU [(1,sl Ac roots),(2,.ref 2 0),(5,.msl 18 B1.length),(6,vb Rk),(7,vi i)] [(2,.cells (Ic l ifs)),(18,.arr 1 (B1.map Dg))] Z5 Z2 (Yi (by grind [As]) (Xi ⟨(i+1,B1,Rk),by omega,np.keep ni (fun _=>by simp_all)⟩ ?_));exact⟨by grind,Z5,Z2,Fh,Tv⟩
    have jt:B1[i]=false:=jt;refine cU [(1,sl Ac roots),(2,.ref 2 0),(5,.msl 18 B1.length),(7,vi i)] [(2,.cells (Ic l ifs)),(18,.arr 1 (B1.map Dg))] Z4 Z2 (Yi aa0 (Yi (show B1.length=(B1.map Dg).length by simp) (Xi (Dg B1[i]) (Yi (Bk zl) (yN (cU [(1,sl Ac roots),(2,.ref 2 0),(5,.msl 18 B1.length),(6,vb true),(7,vi i)] [(2,.cells (Ic l ifs)),(18,.arr 1 ((B1.map Dg).set i [vb true]))] Z5 Z2 (Yi (by grind [As]) (Xi ⟨(i+1,B1.set i true,true),by omega,np.set hc ni (show H5 l roots B1 l[i] l.length=true by grind) (fun _=>jt)⟩ ?_))))))));exact⟨by grind,⟨Zr,Zr,⟨(show AV.msl 18 B1.length=.msl 18 (B1.set i true).length by simp_all),rfl⟩,Zr,Zr,Tv⟩,⟨Zr,⟨(show HO.arr 1 ((B1.map Dg).set i [vb true])=.arr 1 ((B1.set i true).map Dg) by simp_all),rfl⟩,Tv⟩,Fh,Tv⟩
   have OG:b=false:=OG;refine Mj (Aa (fun bb=>(⟨[(1,sl Ac roots),(2,.ref 2 0),(5,.msl 18 B1.length),(6,vb Rk),(7,vi i),(8,vb bb),(9,vi k)],[(2,.cells (Ic l ifs)),(18,.arr 1 (B1.map Dg))],Ae⟩:LS)) OG) (Yi (fun Qp=>?_) (fun Qp=>?_))
   .have Qp:(k:Int)<((l.map Am).length:Int):=Qp;have n27:k<l.length:=by simp_all
    have g27:l[k]?=some l[k]:=Ge n27;have nk:k<l.length:=by omega
    have mk:k<B1.length:=by omega
    have wM:B1[k]?=some B1[k]:=Ge mk;refine Yi aa0 (Yi (show B1.length=(B1.map Dg).length by simp) (Xi (Dg B1[k]) (Yi (Bk wM) (Yi (fun kW=>?_) (fun kW=>?_)))))
    .have kW:B1[k]=true:=kW;refine Xi (Am l[k]) (Yi (Yi (Nn k) (Bk g27)) (Yi rfl (Xi (Am l[i]) (Yi (Yi (Nn i) (Bk g2)) (Yi rfl (yN (AA (Bt (GA l[k].reqs l[i])) (fun dG=>?_) (fun dG=>?_))))))))
     .have dG:(GA l[k].reqs l[i])=true:=dG;have xp:=fR l[k].reqs l[i] (by grind [Fb]) (fun q hq=>((hx _ (Ak nk)).2 q hq).1) (hv _ (Ak ni));rw[show GA l[k].reqs l[i]=true from dG]at xp;refine Xi _ (Yi xp (Yi aa3 (cU [(1,sl Ac roots),(2,.ref 2 0),(5,.msl 18 B1.length),(6,vb Rk),(7,vi i),(8,vb true),(9,vi k)] [(2,.cells (Ic l ifs)),(18,.arr 1 (B1.map Dg))] Z7 Z2 (Yi (by grind [As]) (Xi ⟨(k+1,true),by omega,by grind [GX]⟩ ?_)))));exact⟨Dl l.length k aa0,Z7,Z2,Fh,Tv⟩
     have dG:(GA l[k].reqs l[i])=false:=dG;have xq:=fR l[k].reqs l[i] (by grind [Fb]) (fun q hq=>((hx _ (Ak nk)).2 q hq).1) (hv _ (Ak ni));rw[show GA l[k].reqs l[i]=false from dG]at xq;refine Xi _ (Yi xq (Yi aa3 (cU [(1,sl Ac roots),(2,.ref 2 0),(5,.msl 18 B1.length),(6,vb Rk),(7,vi i),(8,vb false),(9,vi k)] [(2,.cells (Ic l ifs)),(18,.arr 1 (B1.map Dg))] Z7 Z2 (Yi (by grind [As]) (Xi ⟨(k+1,false),by omega,by grind [GX]⟩ ?_)))));exact⟨Dl l.length k aa0,Z7,Z2,Fh,Tv⟩
    have kW:B1[k]=false:=kW;refine Yi aa3 (cU [(1,sl Ac roots),(2,.ref 2 0),(5,.msl 18 B1.length),(6,vb Rk),(7,vi i),(8,vb false),(9,vi k)] [(2,.cells (Ic l ifs)),(18,.arr 1 (B1.map Dg))] Z7 Z2 (Yi (by grind [As]) (Xi ⟨(k+1,false),by omega,by grind [GX]⟩ ?_)));exact⟨Dl l.length k aa0,Z7,Z2,Fh,Tv⟩
   have Qp:¬((k:Int)<((l.map Am).length:Int)):=Qp;have n27:¬k<l.length:=by simp_all
   refine cU [(1,sl Ac roots),(2,.ref 2 0),(5,.msl 18 B1.length),(6,vb Rk),(7,vi i)] [(2,.cells (Ic l ifs)),(18,.arr 1 (B1.map Dg))] Z5 Z2 (Yi (by grind [As]) (Xi ⟨(i+1,B1,Rk),by omega,np.keep ni (fun h=>by grind)⟩ ?_));exact⟨Dl l.length i aa0,Z5,Z2,Fh,Tv⟩
  have h2:¬((i:Int)<((l.map Am).length:Int)):=h2;have n2:¬i<l.length:=by simp_all
  refine Xi ⟨(B1,Rk),np.out aa0⟩ ?_;exact⟨by have q:=np.mu;simp_all,Z4,Z2,Fh,Tv⟩
 have h1:ch=false:=h1;have Ahc:=nV.fin (h1▸o) pV Gv hn Y2;refine Mj (Aa (fun bb=>(⟨[(1,sl Ac roots),(2,.ref 2 0),(5,.msl 18 B.length),(6,vb bb)],[(2,.cells (Ic l ifs)),(18,.arr 1 (B.map Dg))],Ae⟩:LS)) h1) (Xi {q:Nat×List Sl // q.1<=l.length/\q.2=((l.take q.1).filter fun r=>Ua Cl r.path).map Cq} (Xi (fun q=>⟨[(2,.ref 2 0),(5,.msl 18 B.length),(10,.slice (.id 73 4) (q.1.2.map Ag)),(11,vi q.1.1)],[(2,.cells (Ic l ifs)),(18,.arr 1 (B.map Dg)),(73,.tok 4 q.1.2.length)],Ae⟩) (Xi (fun q=>l.length-q.1.1) (Yi (Xi ⟨(0,[]),Ap _,rfl⟩ ?_) ?_))))
 .exact⟨Z4,Z3,Fh,Tv⟩
 intro⟨⟨j,O⟩,j1,j2⟩;have j1:j<=l.length:=j1;have j2:O=((l.take j).filter fun r=>Ua Cl r.path).map Cq:=j2;have hO:O.length<=j:=by
  grind
 refine Yi (fun ju=>?_) (fun ju=>?_)
 .have ju:(j:Int)<((l.map Am).length:Int):=ju;have n37:j<l.length:=by simp_all
  have g37:l[j]?=some l[j]:=Ge n37;have nj:j<l.length:=by omega
  have mj:j<B.length:=by omega
  have gbj:B[j]?=some B[j]:=Ge mj;refine Yi (by simp_all) ?_;refine Yi (show B.length=(B.map Dg).length by simp) (Xi (Dg B[j]) (Yi (Bk gbj) (Yi (fun gD=>?_) (fun gD=>?_))))
  .have gD:B[j]=true:=gD;refine cU [(2,.ref 2 0),(5,.msl 18 B.length),(10,.slice (.id 73 4) (O.map Ag)),(11,vi j)] [(2,.cells (Ic l ifs)),(18,.arr 1 (B.map Dg)),(73,.tok 4 O.length)] Z4 Z3 (Xi (Am l[j]) (Yi (Yi (Nn j) (Bk g37)) (Yi rfl (Xi (Am l[j]) (Yi (Yi (Nn j) (Bk g37)) (Yi rfl (yN ?_)))))));have b39:A7 4 [[vs l[j].path,vi l[j].ver.a,vi l[j].ver.b,vi l[j].ver.c]]/\(O.map Ag).length=O.length/\((O.map Ag).length+([[vs l[j].path,vi l[j].ver.a,vi l[j].ver.b,vi l[j].ver.c]]:List (List AV)).length)*40<=140737488355328/\(O.map Ag).length+([[vs l[j].path,vi l[j].ver.a,vi l[j].ver.b,vi l[j].ver.c]]:List (List AV)).length<=9223372036854775807:=⟨⟨rfl,trivial⟩,aa1,(by grind),(by grind)⟩;refine Yi b39 (Yi aa3 (cU [(2,.ref 2 0),(5,.msl 18 B.length),(10,.slice (.id 73 4) ((O.map Ag)++[[vs l[j].path,vi l[j].ver.a,vi l[j].ver.b,vi l[j].ver.c]])),(11,vi j)] [(2,.cells (Ic l ifs)),(18,.arr 1 (B.map Dg)),(73,.tok 4 ((O.map Ag).length+([[vs l[j].path,vi l[j].ver.a,vi l[j].ver.b,vi l[j].ver.c]]:List (List AV)).length))] Z4 Z3 (Yi (by grind [As]) (Xi ⟨(j+1,(O++[Cq l[j]])),by omega,by show(O++[Cq l[j]])=((l.take (j+1)).filter _).map Cq;rw[Ck,Ge nj,HG,BD,<-j2];simp_all⟩ ?_))));exact⟨Dl l.length j aa0,⟨Zr,Zr,⟨(show AV.slice (.id 73 4) (O.map Ag++[Ag (Cq l[j])])=.slice (.id 73 4) ((O++[Cq l[j]]).map Ag) by simp),rfl⟩,Zr,Tv⟩,⟨Zr,Zr,⟨(show HO.tok 4 ((O.map Ag).length+([Ag (Cq l[j])]:List (List AV)).length)=.tok 4 (O++[Cq l[j]]).length by simp),rfl⟩,Tv⟩,Fh,Tv⟩
  have gD:B[j]=false:=gD;refine cU [(2,.ref 2 0),(5,.msl 18 B.length),(10,.slice (.id 73 4) (O.map Ag)),(11,vi j)] [(2,.cells (Ic l ifs)),(18,.arr 1 (B.map Dg)),(73,.tok 4 O.length)] Z4 Z3 (Yi (by grind [As]) (Xi ⟨(j+1,O),by omega,by show O=((l.take (j+1)).filter _).map Cq;rw[Ck,Ge nj,HG,BD,<-j2];simp_all⟩ ?_));exact⟨Dl l.length j aa0,Z4,Z3,Fh,Tv⟩
 have ju:¬((j:Int)<((l.map Am).length:Int)):=ju;have n37:¬j<l.length:=by simp_all
 exact .of_eq (Aa (sl Ag) (show O=(l.filter fun r=>Ua Cl r.path).map Cq by grind))
theorem QA{l:List Rl}:∀{n:Nat} {t:List Rq} {d:List ByteArray},t.length+MN d l+1<=n->(∀p∈d,∀q∈Fe l p,q.path∈d\/∃u∈t,u.path=q.path) ->
  (∀p∈d,p∈Fr l n t d)/\(∀u∈t,u.path∈Fr l n t d)/\∀p∈Fr l n t d,∀q∈Fe l p,q.path∈Fr l n t d
 |0,_,_,h,_=>by omega
 |n+1,[],d,_,hc=>by
  grind [Fr]
 |n+1,q::t,d,h,hc=>by
  simp only[BF]at h;cases hq:d.any (fun p=>decide (p=q.path))with
  |true=>
   have e:Fr l (n+1) (q::t) d=Fr l n t d:=by show(if _ then _ else _)=_;simp_all
   rw[e];have hm:=I4.1 hq;obtain⟨i1,i2,i3⟩:=QA (l:=l) (n:=n) (t:=t) (d:=d) aa0 (fun p hp u hu=>by
    rcases hc p hp u hu with h | ⟨v,hv,ev⟩
    .exact .inl h
    .rcases AF.1 hv with hv | hv
     .exact .inl (by rw[<-ev,hv];exact hm)
     .exact .inr ⟨v,hv,ev⟩)
   exact⟨i1,fun u hu=>(AF.1 hu).elim (fun eu=>by rw[eu];exact i1 _ hm) (i2 u),i3⟩
  |false=>
   have e:Fr l (n+1) (q::t) d=Fr l n (t++Fe l q.path) (d++[q.path]):=by show(if _ then _ else _)=_;grind
   rw[e];have hp:=QG d q.path hq l;obtain⟨i1,i2,i3⟩:=QA (l:=l) (n:=n) (t:=t++Fe l q.path) (d:=d++[q.path]) (by rw[Ay];omega) (fun p hp u hu=>by
    rcases Bc.1 hp with hp | hp
    .rcases hc p hp u hu with h | ⟨v,hv,ev⟩
     .exact .inl (Bw _ h)
     .rcases AF.1 hv with hv | hv
      .exact .inl (by rw[<-ev,hv];simp)
      .exact .inr ⟨v,Bw _ hv,ev⟩
    .rw[AD.1 hp]at hu;exact .inr ⟨u,B8 _ hu,rfl⟩)
   exact⟨fun p hp=>i1 p (Bw _ hp),fun u hu=>(AF.1 hu).elim (fun eu=>by rw[eu];exact i1 _ aa1) (fun hu=>i2 u (Bw _ hu)),i3⟩
abbrev Jy(l:List Rl)(roots:List Rq):List ByteArray:=Fr l (Hi l roots) roots []
theorem cJ(hn:(l.map (·.path)).Nodup){r:Rl}(hr:r∈l):Fe l r.path=r.reqs:=by unfold Fe;rw[Hy hn hr]
theorem Wh(hn:(l.map (·.path)).Nodup):uS l roots (Jy l roots):=by
 obtain⟨_,h2,h3⟩:=QA (l:=l) (n:=Hi l roots) (t:=roots) (d:=[]) (by grind [Uu,Hi]) (fun p hp=>by cases hp);exact⟨h2,fun r hr hp q hq=>h3 _ hp q (by grind [cJ])⟩
theorem Wi(D:List ByteArray)(h1:∀q∈roots,q.path∈D)(h2:∀r∈l,r.path∈D->∀q∈r.reqs,q.path∈D):∀p∈Jy l roots,p∈D:=
 Nc h2 h1 fun p hp=>by cases hp
theorem Wu(x:List Rl)(y:Sl):∀a:List Sl,FN x (a++[y])=match FN x a with | none=>none | some l=>match Bo x y with | none=>none | some r=>some (l++[r])
 | []=>by
  grind [FN]
 |z::a=>by
  show(match Bo x z with | none=>none | some r=>match FN x (a++[y])with | none=>none | some l=>some (r::l))=match(match Bo x z with | none=>none | some r=>match FN x a with | none=>none | some l=>some (r::l))with | none=>none | some l=>match Bo x y with | none=>none | some r=>some (l++[r])
  rw[Wu x y a];cases Bo x z<;>grind
theorem i7(x:List Rl){a:List Sl}(h:FN x a=none):∀b:List Sl,FN x (a++b)=none:=by
 induction a<;>grind [FN]
section
variable {x l:List Rl}{roots:List Rq}{s:List Sl}
theorem ao{A:List Rl}(hi:i<s.length)(h:FN x (s.take i)=some A):FN x (s.take (i+1))=match Bo x s[i]with | none=>none | some r=>some (A++[r]):=by
 grind [List.take_add_one,Wu]
theorem nB{A:List Rl}(hi:i<s.length)(h:FN x (s.take i)=some A)(hn:Bo x s[i]=none):FN x s=none:=by
 have h1:=ao hi h
 grind [i7,List.take_append_drop]
theorem UI(hn:(l.map (·.path)).Nodup)(hs:l.map Cq=s)(hv:∀r∈l,BK r.ver=true)(q:Rq):RZ q s=!B9 l q:=by
 have e:RZ q s=l.any fun r=>decide (r.path=q.path)&&has q.set (plc r.ver):=by
  unfold RZ;rw[<-hs,List.any_map];rw[Dh,Bu,Bu];constructor<;>rintro⟨r,hr,h⟩<;>refine⟨r,hr,?_⟩
  .rw[<-Lz (hv r hr)];exact h
  .show(decide (r.path=q.path)&&has q.set (place r.ver))=true
   grind [Lz]
 grind [B9,List.mem_of_find?_eq_some,Hy]
theorem bl:∀{m:List Rl} {b:Option Rl},B5 b m=0->∀r∈m,CL r=0
 | [],_,_,_,h=>by cases h
 |a::m,b,h,r,hr=>by
  unfold B5 at h;split at h
  .omega
  .rename_i h1;rcases AF.1 hr with rfl | hr
   .omega
   .cases b with
    |none=>exact bl h r hr
    |some c=>
     have h:(if Cq c=Cq a then(5:Int)else if 0<IA c a then 1 else B5 (some a) m)=0:=h;split at h
     .cases h
     .split at h
      .cases h
      .exact bl h r hr
theorem sW{r:Rl}(hr:r∈x)(h:Av x=0):CL r=0:=by
 grind [Av,bl]
theorem uE(h0:Av x=0)(hi:Bp s=true)(h:FN x s=some l)(hl:s.length<=256):Av l=0:=by
 obtain⟨h1,h2,_⟩:=G5 h;have hx:=(BC h0).1;have CD:l.length=s.length:=by grind
 have hm:∀r∈l,CL r=0:=fun r hr=>sW ((CH (h2 r hr)).2.1) h0;unfold Av;rw[AI aa0];have hp:=(Ls hi).1;rw[<-h1]at hp;have hp:l.Pairwise fun a b=>Fp a.path b.path=true:=List.pairwise_map.1 hp;have gen:∀(l:List Rl) (b:Option Rl),(∀r∈l,CL r=0)->l.Pairwise (fun a b=>Fp a.path b.path=true)->(∀c,b=some c->∀r∈l,Fp c.path r.path=true)->B5 b l=0:=by
  intro l
  induction l with
  |nil=>intro _ _ _ _;rfl
  |cons r l ih=>
   intro b hm hp hb;obtain⟨p1,p2⟩:=Dn.1 hp;have ih:=ih (some r) (fun r hr=>hm r (Ai _ hr)) p2 (fun c e=>by cases e;exact p1);unfold B5;rw[AI (by rw[hm r (Ah ..)];decide)];cases b with
   |none=>exact ih
   |some c=>
    have hc:=hb c rfl r (Ah ..);show(if Cq c=Cq r then(5:Int)else if 0<IA c r then 1 else B5 (some r) l)=0;rw[AI (fun e=>SM hc (Aa Sl.path e)),AI (by
     unfold IA Lc;rw[AX hc,AX aa2];decide)]
    exact ih
 simp_all
theorem UQ(h0:Av x=0)(hi:Bp s=true)(h:FN x s=some l):Db x roots s=if l.any (fun r=>r.reqs.any (B9 l))then 17 else if roots.any (B9 l)then 17 else if(Jy l roots).length<l.length then 8 else 0:=by
 grind [Db]
def GM(roots:List Rq)(l:List Rl):List Rq:=roots++(l.map (·.reqs)).flatten
theorem Jn{q:Rq}:q∈GM roots l↔q∈roots\/∃r∈l,q∈r.reqs:=by
 grind [GM]
theorem je(h0:Av x=0)(hi:Bp s=true)(h:FN x s=some l){q:Rq}(hq:q∈GM roots l)(hb:B9 l q=true):Db x roots s=17:=by
 rw[UQ h0 hi h]
 grind [Jn]
theorem UP(h0:Av x=0)(hi:Bp s=true)(h:FN x s=some l)(hb:∀q∈GM roots l,B9 l q=false):Db x roots s=if(Jy l roots).length<l.length then 8 else 0:=by
 rw[UQ h0 hi h,AI,AI]
 all_goals grind [Jn]
theorem PO{q:Rq}(h:B9 l q=false):∃r∈l,r.path=q.path/\has q.set (plc r.ver)=true:=by
 grind [B9]
theorem iW(hn:(l.map (·.path)).Nodup)(hb:∀q∈GM roots l,B9 l q=false):((l.filter fun r=>Ua (Jy l roots) r.path).map Cq).length=(Jy l roots).length:=by
 rw[Lm,<-Lm (f:=fun r:Rl=>r.path)];have hs:∀p∈Jy l roots,p∈l.map (·.path):=Wi _ (fun q hq=>by
   obtain⟨r,hr,e,_⟩:=PO (hb q (Jn.2 (.inl hq)))<;>grind)
  (fun r hr _ q hq=>by
   obtain⟨r2,bR,e,_⟩:=PO (hb q (Jn.2 (.inr ⟨r,hr,hq⟩)))<;>grind)
 have xV:((l.filter fun r=>Ua (Jy l roots) r.path).map (·.path)).Nodup:=List.Nodup.sublist (List.Sublist.map _ List.filter_sublist) hn;have hnc:(Jy l roots).Nodup:=J9 .nil;refine Nat.le_antisymm (CM xV fun p hp=>?_) (CM hnc fun p hp=>?_)
 .obtain⟨r,hr,rfl⟩:=Ar.1 hp;exact I4.1 (B6.1 hr).2
 .obtain⟨r,hr,e⟩:=Ar.1 (hs p hp);exact Ar.2 ⟨r,B6.2 ⟨hr,I4.2 (e▸hp)⟩,e⟩
theorem xe(hn:(l.map (·.path)).Nodup)(hb:∀q∈GM roots l,B9 l q=false):∀q,q∈roots\/(∃r∈l,q∈r.reqs)->∀r∈l,q.path=r.path->has q.set (plc r.ver)=true:=fun q hq r hr e=>by
 obtain⟨r2,bR,e2,h⟩:=PO (hb q (Jn.2 hq));have h1:=Hy hn hr;have h2:=Hy hn bR;simp_all
theorem s5(hb:∀q∈GM roots l,B9 l q=false):∀q,q∈roots\/(∃r∈l,q∈r.reqs)->∃r∈l,r.path=q.path:=fun q hq=>by
 obtain⟨r,hr,e,_⟩:=PO (hb q (Jn.2 hq))<;>grind
end
end Go.Eng
