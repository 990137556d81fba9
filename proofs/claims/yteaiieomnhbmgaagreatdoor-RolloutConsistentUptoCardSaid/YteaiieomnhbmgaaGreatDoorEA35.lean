/- Lemmas 35. -/
import Derived.Test.YteaiieomnhbmgaaGreatDoorEA34
import Derived.Test.YteaiieomnhbmgaaGreatDoorCards
import Derived.Test.YteaiieomnhbmgaaGreatDoorTie
import Derived.ProofKit
import Derived.OpenShut
import Derived.Deep.DeepHandedRow
import Derived.Lib.LaidTab
import Derived.Stop.LaidErr
set_option maxHeartbeats 4000000
namespace Go.Eng
open Go.Proofs
variable (x:List Rl)(ifs:List (List AV))
structure pF(l m:List Sl)(r:Ro)(user:ByteArray):Prop where
 l:l.length<=1048576
 m:m.length<=1048576
 wv:r.waves.length<=1048576
 st:∀v∈r.waves,v.stages.length<=1048576
 pt:∀v∈r.waves,v.paths.length<=1048576
 name:r.name.size<=1048576
 user:user.size<=1048576
theorem fD{x:List Rl}{l m:List Sl}(h:Tn x l m=true):x.length<=16/\l.length<=12/\m.length<=12:=by
 obtain⟨h1,h2⟩:=FB.1 h;obtain⟨h2,h3⟩:=FB.1 h2;exact⟨eh h1,AK h2,AK h3⟩
theorem dY{l m:List Sl}{r:Ro}{user:ByteArray}(hr:pF l m r user)(h:gK r=true):MV r/\(MS r).length<=20/\∀p∈MS r,p.length<=20:=by
 obtain⟨_,h2⟩:=FB.1 h;obtain⟨h2,_⟩:=FB.1 h2;obtain⟨h3,h4⟩:=FB.1 h2;have h4:(MS r).length<=20:=AK h4;have h5:∀p∈MS r,p.length<=20:=fun p hp=>AK (FB.1 (AZ.1 h3 p hp)).1;refine⟨⟨?_,fun v hv=>AG (hr.st v hv) Cl,fun v hv=>AG (h5 v.paths (Of hv)) Cl⟩,h4,h5⟩;rw[MS,Lm]at h4;omega
theorem sa(l m:List Sl)(r:Ro)(user:ByteArray)(AR:Int)(b1 b2:Bool)(UQ:PC 17 [HH x ifs,sl Ae l,sl Ae m] (vb b1))(Ot:PC 18 [.agg (Ce r)] (vb b2))(hb:b1=true->b2=true->100<user.size):PC 6 [HH x ifs,sl Ae l,sl Ae m,.agg (Ce r),vs user,vi AR] (vb true):=by
 refine Ps (pC [6,9] []) Tryz.func6 rfl (Nz rfl) (Xi .pure (Xi _ (Yi N7 (yN (BN (Bt b1) (fun h1=>?_) (fun h1=>?_))))))
 .have h1:b1=true:=h1;refine Xi .pure (Xi _ (Yi (cb h1 UQ) (yN (BN (Bt b2) (fun h2=>?_) (fun h2=>?_)))))
  .have h2:b2=true:=h2;refine Xi .pure (Xi _ (Yi (cb h2 Ot) (Yi (fun h3=>?_) (fun h3=>?_))))
   .have h3:(100:Int)<(user.size:Int):=h3;exact .refl _
   have h3:¬((100:Int)<(user.size:Int)):=h3;exact absurd (hb h1 h2) ch
  have h2:b2=false:=h2;refine Xi .pure (Xi _ (Yi (cb h2 Ot) ?_));exact .refl _
 have h1:b1=false:=h1;refine Xi .pure (Xi _ (Yi (cb h1 UQ) ?_));exact .refl _
theorem r9(l m:List Sl)(r:Ro)(user:ByteArray)(AR:Int)(hx:∀r∈x,En r)(JS:l.length<=12)(FK:m.length<=12)(hr:MV r)(hn:r.name.size<=10000000)(hu:user.size<=100)(UQ:PC 17 [HH x ifs,sl Ae l,sl Ae m] (vb true))(Ot:PC 18 [.agg (Ce r)] (vb true))(c0:¬KV x l m r=0):PC 6 [HH x ifs,sl Ae l,sl Ae m,.agg (Ce r),vs user,vi AR] (vb true):=by
 have Xp:=ku x ifs l m r user AR hx ch ch hr hn ch;have eL:ON x l m r user AR=[]:=by rw[ON,Aj c0]
 have eE:sw x l m r user AR=KV x l m r:=by rw[sw,Aj c0]
 rw[ZN,eL,eE]at Xp;refine Ps (pC [6,9] [4,5,6,8,9,10,11,16,17]) Tryz.func6 rfl (Nz rfl) (Xi .pure (Xi _ (Yi N7 (yN (Xi .pure (Xi _ (Yi UQ (yN (Xi .pure (Xi _ (Yi Ot (Yi (fun h1=>?_) (fun h1=>?_)))))))))))))
 .have h1:(100:Int)<(user.size:Int):=h1;exact absurd h1 ch
 have h1:¬((100:Int)<(user.size:Int)):=h1;refine cU [(1,sl Ae l),(2,sl Ae m),(4,vs user),(5,vi AR),(6,.ref 6 0),(9,.ref 9 0)] [(6,.ro (Ic x ifs)),(9,.ro (Ce r))] Z6 Z2 (yN (yN (Xi .pure (Xi _ (Yi Xp (cU [(1,sl Ae l),(2,sl Ae m),(4,vs user),(5,vi AR),(6,.ref 6 0),(9,.ref 9 0),(13,sl Ae ([]:List Sl)),(14,vi (KV x l m r))] [(6,.ro (Ic x ifs)),(9,.ro (Ce r))] Z8 Z2 (Yi (fun h2=>?_) (fun h2=>?_))))))))
 .have h2:((KV x l m r):Int)≠(0:Int):=h2;refine Yi (fun h3=>?_) (fun h3=>?_)
  .have h3:((([]:List Sl).map Ae).length:Int)=(0:Int):=h3;refine yN (yN (Xi .pure (Xi _ (Yi (Zq x ifs l m r hx ch ch hr) (Yi (fun h4=>?_) (fun h4=>?_))))))
   .have h4:((KV x l m r):Int)=((KV x l m r):Int):=h4;exact .refl _
   have h4:¬(((KV x l m r):Int)=((KV x l m r):Int)):=h4;exact absurd rfl h4
  have h3:¬(((([]:List Sl).map Ae).length:Int)=(0:Int)):=h3;exact absurd rfl h3
 have h2:((KV x l m r):Int)=(0:Int):=AJ h2;exact absurd h2 c0
theorem sb(l m:List Sl)(r:Ro)(user:ByteArray)(AR:Int)(hx:∀r∈x,En r)(JS:l.length<=12)(FK:m.length<=12)(hr:MV r)(hn:r.name.size<=10000000)(hu:user.size<=100)(UQ:PC 17 [HH x ifs,sl Ae l,sl Ae m] (vb true))(Ot:PC 18 [.agg (Ce r)] (vb true))(c0:KV x l m r=0):PC 6 [HH x ifs,sl Ae l,sl Ae m,.agg (Ce r),vs user,vi AR] (vb true):=by
 have hwl:r.waves.length<=1000:=hr.wv;have Xp:=ku x ifs l m r user AR hx ch ch hr hn ch;rw[ZN,(PK user AR c0).2.1]at Xp;have hz:∀v∈r.waves,GK v.stages (-1)<=0:=fun v hv=>by rw[rj ((Tb c0).2 v hv)];exact Bn _
 have g21:=ku x ifs l m r user (-1) hx ch ch hr hn ch;rw[ZN,(PK user (-1) c0).2.1,fg c0 hz]at g21;have hAl:(ON x l m r user AR).length<=1073741824:=by
  rw[(PK user AR c0).2.2,(HR _).length_eq];have q:=PN l m (FL r user AR);omega
 have ml:=oP x ifs (ON x l m r user AR) hx hAl;rw[pN user AR c0]at ml;have ql:=wG l l (show l.length<=1073741824 by omega);rw[Ar rfl]at ql;have hpc:∀v∈r.waves,PC 11 [sl Eh v.stages,vi AR] (.tup [vi (GK v.stages AR),vi 0]):=fun v hv=>by
  have q:=oQ v.stages AR (hr.st v hv);rw[bG,Ao ((Tb c0).2 v hv),(Tb c0).2 v hv]at q;exact q
 refine Ps (pC [6,9] [4,5,6,8,9,10,11,16,17]) Tryz.func6 rfl (Nz rfl) (Xi .pure (Xi _ (Yi N7 (yN (Xi .pure (Xi _ (Yi UQ (yN (Xi .pure (Xi _ (Yi Ot (Yi (fun h1=>?_) (fun h1=>?_)))))))))))))
 .have h1:(100:Int)<(user.size:Int):=h1;exact absurd h1 ch
 have h1:¬((100:Int)<(user.size:Int)):=h1;refine cU [(1,sl Ae l),(2,sl Ae m),(4,vs user),(5,vi AR),(6,.ref 6 0),(9,.ref 9 0)] [(6,.ro (Ic x ifs)),(9,.ro (Ce r))] Z6 Z2 (yN (yN (Xi .pure (Xi _ (Yi Xp (cU [(1,sl Ae l),(2,sl Ae m),(4,vs user),(5,vi AR),(6,.ref 6 0),(9,.ref 9 0),(13,sl Ae (ON x l m r user AR)),(14,vi 0)] [(6,.ro (Ic x ifs)),(9,.ro (Ce r))] Z8 Z2 (Yi (fun h=>absurd h Cl) (fun _=>?_))))))));refine cU [(1,sl Ae l),(2,sl Ae m),(4,vs user),(5,vi AR),(6,.ref 6 0),(9,.ref 9 0),(13,sl Ae (ON x l m r user AR))] [(6,.ro (Ic x ifs)),(9,.ro (Ce r))] Z7 Z2 (yN (yN (Xi .pure (Xi _ (Yi g21 (cU [(1,sl Ae l),(2,sl Ae m),(5,vi AR),(6,.ref 6 0),(9,.ref 9 0),(13,sl Ae (ON x l m r user AR)),(15,sl Ae l),(16,vi 0)] [(6,.ro (Ic x ifs)),(9,.ro (Ce r))] Z8 Z2 (yN (Xi .pure (Xi _ (Yi ml (Yi (fun h=>absurd h Cl) (fun _=>?_))))))))))));refine Yi (fun h=>absurd h Cl) (fun _=>?_);refine Xi .pure (Xi _ (Yi ql (cU [(2,sl Ae m),(5,vi AR),(9,.ref 9 0),(13,sl Ae (ON x l m r user AR))] [(9,.ro (Ce r))] Z4 Z1 (Xi {q:Nat×Bool // q.1<=r.waves.length/\(q.2=true->∀j (hj:j<r.waves.length),j<q.1->GK r.waves[j].stages AR=100)} (Xi (fun q=>⟨[(2,sl Ae m),(5,vi AR),(13,sl Ae (ON x l m r user AR)),(17,vb q.1.2),(87,sl Bs r.waves),(88,vi (r.waves.map Bs).length),(89,vi q.1.1)],[],Af⟩) (Xi (fun q=>r.waves.length-q.1.1) (Yi (Xi ⟨⟨0,true⟩,AA _,fun _ _ _ h=>absurd h (Fi _)⟩ ?_) ?_)))))))
 .exact⟨Z7,Tv,Fh,Tv⟩
 intro⟨⟨i,b⟩,i1,i2⟩;have i1:i<=r.waves.length:=i1;have i2:b=true->∀j (hj:j<r.waves.length),j<i->GK r.waves[j].stages AR=100:=i2;refine BN (Bt b) (fun h2=>?_) (fun h2=>?_)
 .have h2:b=true:=h2;refine MY (Aa (fun bb=>(⟨[(2,sl Ae m),(5,vi AR),(13,sl Ae (ON x l m r user AR)),(17,vb bb),(87,sl Bs r.waves),(88,vi (r.waves.map Bs).length),(89,vi i)],[],Af⟩:LS)) h2) (Yi (fun h3=>?_) (fun h3=>?_))
  .have h3:(i:Int)<((r.waves.map Bs).length:Int):=h3;have n3:=EE h3;refine Xi (Bs r.waves[i]) (Yi (IU n3) (Yi rfl (yN (yN (Xi .pure (Xi _ (Yi (hpc r.waves[i] (Al n3)) (cU [(2,sl Ae m),(5,vi AR),(13,sl Ae (ON x l m r user AR)),(17,vb true),(20,vi (GK r.waves[i].stages AR)),(21,vi 0),(87,sl Bs r.waves),(88,vi (r.waves.map Bs).length),(89,vi i)] [] Z9 Tv (Yi (fun h4=>?_) (fun h4=>?_))))))))))
   .have h4:((GK r.waves[i].stages AR):Int)=(100:Int):=h4;refine Yi (fun _=>?_) (fun h=>absurd Cl h);refine cU [(2,sl Ae m),(5,vi AR),(13,sl Ae (ON x l m r user AR)),(17,vb true),(87,sl Bs r.waves),(88,vi (r.waves.map Bs).length),(89,vi i)] [] Z7 Tv (Yi (Ii i ch) ?_);refine Xi ⟨⟨i+1,true⟩,n3,fun _ j hj IG=>by
      rcases B4 j i with e | e
      .exact i2 h2 j hj e
      .have e:j=i:=by omega
       subst e;exact h4⟩ ?_
    exact⟨Dl r.waves.length i ch,Z7,Tv,Fh,Tv⟩
   have h4:¬(((GK r.waves[i].stages AR):Int)=(100:Int)):=h4;refine cU [(2,sl Ae m),(5,vi AR),(13,sl Ae (ON x l m r user AR)),(17,vb false),(87,sl Bs r.waves),(88,vi (r.waves.map Bs).length),(89,vi i)] [] Z7 Tv (Yi (Ii i ch) (Xi ⟨⟨i+1,false⟩,n3,fun h=>absurd h CL⟩ ?_));exact⟨Dl r.waves.length i ch,Z7,Tv,Fh,Tv⟩
  have h3:¬((i:Int)<((r.waves.map Bs).length:Int)):=h3;have n3:=Dd h3;refine BN (Bt (decide ((ON x l m r user AR)=m))) (fun h7=>?_) (fun h7=>?_)
  .have h7:(decide ((ON x l m r user AR)=m))=true:=h7;refine Xi .pure (Xi _ (Yi (cb h7 (wG (ON x l m r user AR) m hAl)) ?_));exact .refl _
  have h7:(decide ((ON x l m r user AR)=m))=false:=h7;refine Xi .pure (Xi _ (Yi (cb h7 (wG (ON x l m r user AR) m hAl)) ?_));exact absurd (Ar (lh c0 (show l.length<=1073741824 by omega) (show m.length<=1073741824 by omega) fun v hv=>by obtain⟨j,hj,rfl⟩:=BU.1 hv;rw[i2 h2 j hj (by have q:=h3;rw[Lm]at q;omega)];exact Bn _)) (by rw[h7];exact CL)
 have h2:b=false:=h2;refine MY (Aa (fun bb=>(⟨[(2,sl Ae m),(5,vi AR),(13,sl Ae (ON x l m r user AR)),(17,vb bb),(87,sl Bs r.waves),(88,vi (r.waves.map Bs).length),(89,vi i)],[],Af⟩:LS)) h2) (Yi (fun NR=>?_) (fun NR=>?_))
 .have NR:(i:Int)<((r.waves.map Bs).length:Int):=NR;have n10:=EE NR;refine Xi (Bs r.waves[i]) (Yi (IU n10) (Yi rfl (yN (yN (Xi .pure (Xi _ (Yi (hpc r.waves[i] (Al n10)) (cU [(2,sl Ae m),(5,vi AR),(13,sl Ae (ON x l m r user AR)),(17,vb false),(20,vi (GK r.waves[i].stages AR)),(21,vi 0),(87,sl Bs r.waves),(88,vi (r.waves.map Bs).length),(89,vi i)] [] Z9 Tv (cU [(2,sl Ae m),(5,vi AR),(13,sl Ae (ON x l m r user AR)),(17,vb false),(87,sl Bs r.waves),(88,vi (r.waves.map Bs).length),(89,vi i)] [] Z7 Tv (Yi (Ii i ch) (Xi ⟨⟨i+1,false⟩,n10,fun h=>absurd h CL⟩ ?_)))))))))));exact⟨Dl r.waves.length i ch,Z7,Tv,Fh,Tv⟩
 have NR:¬((i:Int)<((r.waves.map Bs).length:Int)):=NR;have n10:=Dd NR;exact .refl _
theorem Adu(l m:List Sl)(r:Ro)(user:ByteArray)(AR:Int)(hL:ph x [])(hr:pF l m r user):PC 6 [HH x ifs,sl Ae l,sl Ae m,.agg (Ce r),vs user,vi AR] (vb true):=by
 have UQ:=tg x ifs l m hL;have Ot:=tn r (AG hr.wv Cl) (fun v hv=>AG (hr.st v hv) Cl) fun v hv=>AG (hr.pt v hv) Cl
 by_cases hg:Tn x l m=true/\gK r=true/\user.size<=100
 .obtain⟨g1,g2,g3⟩:=hg;obtain⟨_,k2,k3⟩:=fD g1;rw[g1]at UQ;rw[g2]at Ot
  by_cases c0:KV x l m r=0
  .exact sb x ifs l m r user AR hL.x k2 k3 (dY hr g2).1 (AG hr.name Cl) g3 UQ Ot c0
  .exact r9 x ifs l m r user AR hL.x k2 k3 (dY hr g2).1 (AG hr.name Cl) g3 UQ Ot c0
 .exact sa x ifs l m r user AR _ _ UQ Ot fun e1 e2=>Nat.lt_of_not_le fun e3=>hg ⟨e1,e2,e3⟩
structure Ab5(a:Ad)(cl:List (List Rq)):Prop where
 ad:MT a
 len:B8 cl
 q:∀q∈cl,B8 q/\∀z∈q,J7 z
end Go.Eng
namespace Go.Proofs.YteaiieomnhbmgaaGreatDoor.joins
open Go Go.Eng Go.Proofs Go.ChangeShapes Go.WideShapes Go.ChangeAt Go.RowKit
section
variable {H:Type}{enc:TypeId×Value->H}{w:World}
theorem all_le{d:DataW H}{l:List (DataW H)}(h:d∈l):Rows.uptoBulk d<=Rows.uptoBulkAll l:=by
 induction l with
 |nil=>cases h
 |cons x r ih=>
  simp only[Rows.uptoBulkAll]
  cases AC.1 h with
  |inl e=>subst e;omega
  |inr e=>have:=ih e;omega
theorem one_le(d:DataW H):1<=Rows.uptoBulk d:=by
 cases d with
 |lit l=>cases l<;>simp[Rows.uptoBulk]
 |nil=>simp[Rows.uptoBulk]
 |ptr d=>simp[Rows.uptoBulk]
 |slice sC spare=>simp[Rows.uptoBulk]
 |agg parts=>simp[Rows.uptoBulk]
 |iface t d=>simp[Rows.uptoBulk]
 |map entries=>simp[Rows.uptoBulk]
 |held h=>simp[Rows.uptoBulk]
theorem len_le(l:List (DataW H)):l.length<=Rows.uptoBulkAll l:=by
 induction l with
 |nil=>simp[Rows.uptoBulkAll]
 |cons x r ih=>have:=one_le x;simp only[Rows.uptoBulkAll,Am];omega
theorem bulk_ok:X9 (H:=H) Rows.uptoBulk where
 slice es sp:=by
  have h1:=len_le es
  refine⟨by simp only[Rows.uptoBulk];omega,fun d hd=>?_⟩
  have:=all_le hd
  simp only[Rows.uptoBulk];omega
 agg ps d hd:=by
  have:=all_le hd
  simp only[Rows.uptoBulk];omega
 str b:=by simp only[Rows.uptoBulk];omega
theorem app_all(l r:List (DataW H)):Rows.uptoBulkAll (l++r)=Rows.uptoBulkAll l+Rows.uptoBulkAll r:=by
 induction l with
 |nil=>simp[Rows.uptoBulkAll]
 |cons x l ih=>simp only[Hr,Rows.uptoBulkAll,ih];omega
abbrev NB:Nat:=1048576
abbrev Op(enc:TypeId×Value->H)(w:World)(t:TypeId){α:Type}(e:α->List AV)(ok:α->Prop):Prop:=KH enc Tryz.prog w Rows.uptoBulk NB t e ok
theorem oI:Op enc w 3 (fun n:Int=>[vi n]) (fun _=>True):=(RM Tryz.underlying3).to id (fun _ _=>⟨rfl,trivial⟩)
theorem oB:Op enc w 4 (fun b:Bool=>[vb b]) (fun _=>True):=dL Tryz.underlying4
theorem oS:Op enc w 9 (fun s:ByteArray=>[vs s]) (fun s=>s.size<=NB):=Y8 bulk_ok Tryz.underlying9
theorem oVer:Op enc w 46 DL (fun _=>True):=
 (Ep bulk_ok Tryz.underlying46 (L:=3) Wk (BJ rfl (n:=1) Wk oI (BJ rfl (n:=1) Wk oI (BJ rfl (n:=1) Wk oI Fr)))).to
  (fun p=>(⟨p.1,p.2.1,p.2.2.1⟩:Ver)) (fun _ _=>⟨rfl,trivial⟩)
theorem oSpan:Op enc w 92 AE (fun _=>True):=
 (Ep bulk_ok Tryz.underlying92 (L:=2) Wk (BJ rfl (n:=1) Wk oI (BJ rfl (n:=1) Wk oI Fr))).to
  (fun p=>(p.1,p.2.1)) (fun _ _=>⟨rfl,trivial⟩)
theorem oSet:Op enc w 51 (fun l:Bx=>[sl AE l]) (fun l=>l.length<=NB):=
 (FI bulk_ok Tryz.underlying51 (m:=1) Wk (fun _=>rfl) oSpan).to id (fun _ h=>⟨rfl,h.1⟩)
abbrev OkRq(q:Rq):Prop:=q.path.size<=NB/\q.set.length<=NB
theorem oRq:Op enc w 95 A8 OkRq:=
 (Ep bulk_ok Tryz.underlying95 (L:=2) Wk (BJ rfl (n:=1) Wk oS (BJ rfl (n:=1) Wk oSet Fr))).to
  (fun p=>(⟨p.1,p.2.1⟩:Rq)) (fun _ h=>⟨rfl,h.1,h.2.1⟩)
abbrev OkRqs(l:List Rq):Prop:=l.length<=NB/\∀q∈l,OkRq q
theorem oRqs:Op enc w 60 (fun l:List Rq=>[sl A8 l]) OkRqs:=
 FI bulk_ok Tryz.underlying60 (m:=1) Wk (fun _=>rfl) oRq
abbrev OkRl(r:Rl):Prop:=r.path.size<=NB/\OkRqs r.reqs
theorem oRl:Op enc w 78 AF OkRl:=
 (Ep bulk_ok Tryz.underlying78 (L:=9) Wk (BJ rfl (n:=1) Wk oS (BJ rfl (n:=3) Wk oVer (BJ rfl (n:=1) Wk oRqs
  (BJ rfl (n:=1) Wk oS (BJ rfl (n:=1) Wk oS (BJ rfl (n:=1) Wk oS (BJ rfl (n:=1) Wk oB Fr)))))))).to
  (fun p=>(⟨p.1,p.2.1,p.2.2.1,p.2.2.2.1,p.2.2.2.2.1,p.2.2.2.2.2.1,p.2.2.2.2.2.2.1⟩:Rl)) (fun _ h=>⟨rfl,h.1,h.2.2.1⟩)
theorem oRls:Op enc w 30 (fun l:List Rl=>[sl AF l]) (fun l=>l.length<=NB/\∀r∈l,OkRl r):=
 FI bulk_ok Tryz.underlying30 (m:=8) Wk (fun _=>rfl) oRl
theorem oIfc:Op enc w 182 (fun s:ByteArray=>[vs s,.junk,.junk,.junk,.junk]) (fun _=>True):=
 (Ep bulk_ok Tryz.underlying182 (L:=5) Wk (BJ rfl (n:=1) Wk oS (BJ rfl (n:=1) Wk (N2 Tryz.underlying177) (BJ rfl (n:=1) Wk (N2 Tryz.underlying178)
  (BJ rfl (n:=1) Wk (N2 Tryz.underlying179) (BJ rfl (n:=1) Wk (N2 Tryz.underlying180) Fr)))))).to (fun p=>p.1) (fun _ _=>⟨rfl,trivial⟩)
theorem oIfs:Op enc w 31 (fun l:List ByteArray=>[sl (fun s=>[vs s,.junk,.junk,.junk,.junk]) l]) (fun l=>l.length<=NB):=
 (FI bulk_ok Tryz.underlying31 (m:=4) Wk (fun _=>rfl) oIfc).to id (fun _ h=>⟨rfl,h.1⟩)
theorem oIx:Op enc w 33 (fun p:List Rl×List (List AV)=>[sl AF p.1,.slice .none p.2]) (fun p=>(p.1.length<=NB/\∀r∈p.1,OkRl r)/\p.2.length<=NB/\∀c∈p.2,c.length=5):=
 (Ep bulk_ok Tryz.underlying33 (L:=2) Wk (BJ rfl (n:=1) Wk oRls (BJ rfl (n:=1) Wk oIfs Fr))).to
  (fun p=>(p.1,p.2.1.map (fun s=>[vs s,.junk,.junk,.junk,.junk]))) (fun _ h=>⟨rfl,h.1,by rw[Bb];exact h.2.1,fun c hc=>by obtain⟨s,_,rfl⟩:=Ai.1 hc;rfl⟩)
theorem oSl:Op enc w 48 Ae (fun y=>y.path.size<=NB):=
 (Ep bulk_ok Tryz.underlying48 (L:=4) Wk (BJ rfl (n:=1) Wk oS (BJ rfl (n:=3) Wk oVer Fr))).to
  (fun p=>(⟨p.1,p.2.1⟩:Sl)) (fun _ h=>⟨rfl,h.1⟩)
theorem oSls:Op enc w 34 (fun l:List Sl=>[sl Ae l]) (fun l=>l.length<=NB/\∀y∈l,y.path.size<=NB):=
 FI bulk_ok Tryz.underlying34 (m:=3) Wk (fun _=>rfl) oSl
theorem oInt:Op enc w 3 (fun n:Int=>[vi n]) Ba:=(RM Tryz.underlying3).to id (fun x h=>⟨rfl,by
  have h1:(-9223372036854775808:Int)<=x:=h.1
  have h2:x<=(9223372036854775807:Int):=h.2
  show -9223372036854775808<=x/\x<9223372036854775808
  omega⟩)
theorem oU8:Op enc w 5 (fun n:Int=>[.v (.int .u8 n)]) (fun n=>0<=n/\n<=255):=(RM Tryz.underlying5).to id (fun _ h=>⟨rfl,h⟩)
theorem oStg:Op enc w 74 Eh (fun _=>True):=
 (Ep bulk_ok Tryz.underlying74 (L:=2) Wk (BJ rfl (n:=1) Wk oI (BJ rfl (n:=1) Wk oI Fr))).to
  (fun p=>(⟨p.1,p.2.1⟩:Uc)) (fun _ _=>⟨rfl,trivial⟩)
theorem oStgs:Op enc w 22 (fun l:List Uc=>[sl Eh l]) (fun l=>l.length<=NB):=
 (FI bulk_ok Tryz.underlying22 (m:=1) Wk (fun _=>rfl) oStg).to id (fun _ h=>⟨rfl,h.1⟩)
theorem oStr:Op enc w 9 Go.Eng.Ax (fun s:ByteArray=>s.size<=NB):=oS
theorem oStrs:Op enc w 52 (fun l:List ByteArray=>[sl Go.Eng.Ax l]) (fun l=>l.length<=NB/\∀s∈l,s.size<=NB):=
 FI bulk_ok Tryz.underlying52 (m:=0) Wk (fun _=>rfl) oStr
abbrev OkWv(v:Wv):Prop:=v.paths.length<=NB/\v.stages.length<=NB
theorem oWv:Op enc w 72 Bs OkWv:=
 (Ep bulk_ok Tryz.underlying72 (L:=2) Wk (BJ rfl (n:=1) Wk oStrs (BJ rfl (n:=1) Wk oStgs Fr))).to
  (fun p=>(⟨p.1,p.2.1⟩:Wv)) (fun _ h=>⟨rfl,h.1.1,h.2.1⟩)
theorem oWvs:Op enc w 35 (fun l:List Wv=>[sl Bs l]) (fun l=>l.length<=NB/\∀v∈l,OkWv v):=
 FI bulk_ok Tryz.underlying35 (m:=1) Wk (fun _=>rfl) oWv
theorem oRo:Op enc w 37 Ce (fun r=>r.name.size<=NB/\r.waves.length<=NB/\∀v∈r.waves,OkWv v):=
 (Ep bulk_ok Tryz.underlying37 (L:=2) Wk (BJ rfl (n:=1) Wk oS (BJ rfl (n:=1) Wk oWvs Fr))).to
  (fun p=>(⟨p.1,p.2.1⟩:Ro)) (fun _ h=>⟨rfl,h.1,h.2.1⟩)
abbrev OkAd(a:Ad):Prop:=a.id.size<=NB/\a.path.size<=NB/\a.set.length<=NB/\(a.syms.length<=NB/\∀s∈a.syms,s.size<=NB)/\a.note.size<=NB
theorem oAd:Op enc w 54 C3 OkAd:=
 (Ep bulk_ok Tryz.underlying54 (L:=5) Wk (BJ rfl (n:=1) Wk oS (BJ rfl (n:=1) Wk oS (BJ rfl (n:=1) Wk oSet (BJ rfl (n:=1) Wk oStrs (BJ rfl (n:=1) Wk oS Fr)))))).to
  (fun p=>(⟨p.1,p.2.1,p.2.2.1,p.2.2.2.1,p.2.2.2.2.1⟩:Ad)) (fun _ h=>⟨rfl,h.1,h.2.1,h.2.2.1,h.2.2.2.1,h.2.2.2.2.1⟩)
theorem oCl:Op enc w 55 (fun l:List (List Rq)=>[sl DH l]) (fun l=>l.length<=NB/\∀q∈l,OkRqs q):=
 FI bulk_ok Tryz.underlying55 (m:=0) Wk (fun _=>rfl) oRqs
theorem few_of{n:Nat}(h:n<=NB):n<=1073741824:=AG h Cl
theorem lim_of{x:List Rl}{roots:List Rq}(h:x.length<=NB/\∀r∈x,OkRl r)(k:OkRqs roots):ph x roots where
 ix:=few_of h.1
 rs:=few_of k.1
 rel r hr:=⟨few_of (h.2 r hr).2.1,few_of (h.2 r hr).1,fun q hq=>⟨few_of ((h.2 r hr).2.2 q hq).2,few_of ((h.2 r hr).2.2 q hq).1⟩⟩
 rq q hq:=⟨few_of (k.2 q hq).2,few_of (k.2 q hq).1⟩
theorem lim0_of{x:List Rl}(h:x.length<=NB/\∀r∈x,OkRl r):ph x []:=lim_of h ⟨AA _,fun q hq=>by cases hq⟩
theorem limr_of{l m:List Sl}{r:Ro}{user:ByteArray}(h1:l.length<=NB/\∀y∈l,y.path.size<=NB)(h2:m.length<=NB/\∀y∈m,y.path.size<=NB)(h3:r.name.size<=NB/\r.waves.length<=NB/\∀v∈r.waves,OkWv v)(h4:user.size<=NB):pF l m r user:=
 ⟨h1.1,h2.1,h3.2.1,fun v hv=>(h3.2.2 v hv).2,fun v hv=>(h3.2.2 v hv).1,h3.1,h4⟩
theorem lima_of{a:Ad}{cl:List (List Rq)}(h:OkAd a)(k:cl.length<=NB/\∀q∈cl,OkRqs q):Ab5 a cl:=
 ⟨⟨few_of h.1,few_of h.2.1,few_of h.2.2.1,few_of h.2.2.2.1.1,fun s hs=>few_of (h.2.2.2.1.2 s hs),few_of h.2.2.2.2⟩,few_of k.1,fun q hq=>⟨few_of (k.2 q hq).1,fun z hz=>⟨few_of ((k.2 q hq).2 z hz).2,few_of ((k.2 q hq).2 z hz).1⟩⟩⟩
theorem clone_of{ifs:List (List AV)}(h:ifs.length<=NB/\∀c∈ifs,c.length=5):PC 103 [.slice .none ifs] (.slice .none ifs):=o46 ifs (few_of h.1) h.2
end
theorem ok_agg{P:Program}{W:World}{base:Nat}{t:TypeId}{v:Value}{fs:Array Field}(hu:P.underlying t=some (.struct fs))(h:Value.okWide P W .any base t v):∃cs,v=.agg cs:=by
 unfold Value.okWide at h
 rw[hu]at h
 obtain⟨cs,e,_⟩:=h
 exact⟨cs,e⟩
theorem ok_slice{P:Program}{W:World}{base:Nat}{t e:TypeId}{v:Value}(hu:P.underlying t=some (.slice e))(h:Value.okWide P W .any base t v):v.oneCell'=true:=by
 unfold Value.okWide at h
 rw[hu]at h
 unfold Cell.okWide Cell.ok at h
 rw[hu]at h
 cases v<;>first | rfl | simp at h
theorem ok_int{P:Program}{W:World}{base:Nat}{t:TypeId}{k:IntKind}{v:Value}(hu:P.underlying t=some (.int k))(h:Value.okWide P W .any base t v):v.oneCell'=true:=by
 unfold Value.okWide at h
 rw[hu]at h
 unfold Cell.okWide Cell.ok at h
 rw[hu]at h
 cases v<;>first | rfl | simp at h
theorem ok_string{P:Program}{W:World}{base:Nat}{t:TypeId}{v:Value}(hu:P.underlying t=some .string)(h:Value.okWide P W .any base t v):v.oneCell'=true:=by
 unfold Value.okWide at h
 rw[hu]at h
 unfold Cell.okWide Cell.ok at h
 rw[hu]at h
 cases v<;>first | rfl | simp at h
theorem int_of_shape{P:Program}{w:World}{g:Nat}{t:TypeId}{k:IntKind}{zero:Array Value}(h:w.ShapedOpen P)(hg:g<P.globals.size)
  (h0:((begin P (fun _ _=>0) default).world.heap[g]?).bind Obj.row?=some (zero,t)) (hz:zero.size=1)
  (hb:P.buildable t=true) (hc:P.cellTypes P.depth t=some [t]) (hu:P.underlying t=some (.int k)):∃p,w.cell? ⟨g,0,none⟩=some (.int k p):=by
 obtain⟨cs,hh,hs,hr⟩:=h.1 g zero t hg h0
 obtain⟨ts,hts,_,GE⟩:=hr hb
 rw[hc]at hts
 cases hts
 have h1:0<cs.size:=by omega
 obtain⟨u,mM,GU⟩:=GE 0 cs[0] (by simp[h1])
 have:u=t:=by simpa using mM.symm
 subst this
 have DT:w.cell? ⟨g,0,none⟩=some cs[0]:=by simp[World.cell?,hh,h1]
 rw[DT]
 unfold Cell.ok at GU
 rw[hu]at GU
 cases hv:cs[0]<;>rw[hv]at GU<;>simp at GU
 obtain⟨rfl,_⟩:=GU
 exact⟨_,rfl⟩
theorem maxLen_cell{W:World}(h:W.ShapedOpen Tryz.prog):∃m,W.cell? ⟨0,0,none⟩=some (.int .i64 m):=
 int_of_shape (t:=3) (zero:=#[.int .i64 0]) h (AK Wk) Wk rfl Wk Wk Tryz.underlying3
def Start(W:World):Prop:=(∃m,W.cell? ⟨0,0,none⟩=some (.int .i64 m))/\∀x∈me,x.1<W.heap.size/\W.cell? ⟨x.1,x.2.1,none⟩=x.2.2
theorem start_of {W : World} {r : List (String × DataW Unit)} {a b : String × DataW Unit} (h : W.ShapedOpen Tryz.prog) (hl : laidMet Tryz.prog (a :: b :: ("internal/strconv.uint64pow10", Rows.laid_internal_strconv_uint64pow10) :: r) W) : Start W := by
 refine⟨maxLen_cell h,?_⟩
 have ht : Go.Lib.TabIs Tryz.prog W "internal/strconv.uint64pow10" .u64 ((List.range 20).map fun i => ((10 ^ i : Nat) : Int)):=
  Go.Lib.tabIs_of_head (g:=1) (t:=355) (e:=98) (n:=20) Wk Wk Wk Wk Wk Wk hl.tail.tail
 have hc := fun i => World.var?_cell (P := Tryz.prog) (n := "internal/strconv.uint64pow10") (g := 1) Wk ht i
 have h0:1<W.heap.size:=Yw (v:=.int .u64 1) ((hc 0).trans rfl)
 intro x hx
 rcases AC.1 hx with rfl | hx
 .exact⟨h0,(hc 20).trans rfl⟩
 .obtain⟨i,hi,rfl⟩:=Ai.1 hx
  have hi:=FC.1 hi
  refine⟨h0,(hc i).trans ?_⟩
  simp[hi]
def Still(W W' : World):Prop:=W'.os=W.os/\W'.output=W.output/\W.heap.size<=W'.heap.size/\∀b,b<W.heap.size->W'.heap[b]?=W.heap[b]?
theorem run_true{f:Nat}{args:List AV}{vals:Array Value}{W:World}(hc:PC f args (vb true))(hM:Start W)(hs:vals.size=args.length)
  (hr:∀(i:Nat) (av:AV) (x:Value),args[i]?=some av->vals[i]?=some x->BO (md W) W Fx av x):Calls Tryz.prog f vals W fun e W'=>e=.returned (.bool true)/\Still W W':=by
 refine(hc.2 (md W) W vals hs (fun i av x q1 q2=>(hr i av x q1 q2).up _) (y8 hM.1 hM.2)).mono fun e W' ⟨v,r,h',g',e1,e2,e3,e4,_⟩=>?_
 subst e1
 obtain⟨rfl,rfl⟩:=e2
 obtain rfl:=e3.v_eq
 exact⟨rfl,e4.os,e4.output,e4.size,fun b hb=>e4.frame b hb (fun r h=>h.elim)⟩
theorem Still.kept{W W' : World}(h:Still W W')(may:MemPlace->Prop):W.keptBut W' may:=by
 refine⟨h.1,h.2.1,fun i hi=>?_⟩
 rw[h.2.2.2 i hi]
 cases hh:W.heap[i]? with
 |none=>rfl
 |some o=>cases o<;>simp
theorem Still.same{W W' : World}(h:Still W W'){p:MemPlace}(hp:p.block<W.heap.size):W.sameAt W' p:=by
 cases p with
 |cell b off=>
  show W'.cell? ⟨b,off,none⟩=W.cell? ⟨b,off,none⟩
  unfold World.cell?
  rw[h.2.2.2 b hp]
 |map b=>exact h.2.2.2 b hp
theorem kids:Kids Tryz.prog (· < Tryz.prog.types.size):=kids_rows Wk Wk
theorem full:∀t e,t<Tryz.prog.types.size->Tryz.prog.underlying t=some (.slice e)->0<Tryz.prog.cellsOf e:=slices_full_of Tryz.prog Wk
theorem carry{H:Type}{enc:TypeId×Value->H}{W W' : World}(h:Still W W'):∀{ts:List TypeId} {vs:List Value} {ds:List (DataW H)} {ps:List MemPlace},DataW.TrodAll enc Tryz.prog W 0 (fun _=>true) true ts vs ds ps->DataW.TrodAll enc Tryz.prog W' 0 (fun _=>true) true ts vs ds ps
 | [],[],[],_,e=>e
 |t::ts,v::vs,d::ds,ps,k=>by
  have DE:=k.lt
  obtain⟨p,q,⟨n,h1⟩,h2,rfl⟩:=k
  exact⟨p,q,⟨n,DataW.trod_carry n _ _ _ h1 (fun x hx=>h.same (DE x (BD _ hx)))⟩,carry h h2,rfl⟩
 | [],[],_::_,_,k=>k.elim
 | [],_::_,_,_,k=>k.elim
 |_::_,[],_,_,k=>k.elim
 |_::_,_::_,[],_,k=>k.elim
theorem post_true{H:Type}{enc:TypeId×Value->H}{W W' : World}{f:Func}{s:ChangeSpec}{args:Array Value}{ds:List (DataW H)}{before:List MemPlace}(Kh:Still W W')(hv:s.vars=[])
  (hW:DataW.Whole enc Tryz.prog f.params.toList s.vars false W args.toList ds [] before) (hr:f.resultTypes=#[4]) (hT:∀t∈f.params.toList,t<Tryz.prog.types.size) (hs:s.fn H ds={ results:=[.lit (.bool true)],args:=ds }) :
  s.post enc Tryz.prog f false true false false W args (.bool true) W':=by
 have hW0:=hW
 obtain⟨p,q,hA,hV,rfl,hz,_⟩:=hW
 rw[hv]at hV
 have hq:q=[]:=hV
 subst hq
 have DE:=hW0.lt
 have uU:s.fn H (ds++[])={ results:=[.lit (.bool true)],args:=ds }:=by rw[BM];exact hs
 refine⟨ds,[],p++[],[],p,[],hW0,?_,?_,?_,Kh.kept _,fun h=>by cases h⟩
 .rw[uU,hr]
  exact⟨[],[],⟨1,by rw[show(Value.bool true).cells.toList=[.bool true]from rfl,DataW.trod_step];unfold DataW.trodStep;rw[Tryz.underlying4]⟩,rfl,rfl⟩
 .rw[uU]
  exact(carry Kh hA).respare kids full hT (fun x hx=>by simpa using DE x (BD _ hx))
 .rw[uU,hv];rfl
end Go.Proofs.YteaiieomnhbmgaaGreatDoor.joins
namespace Go.Proofs.YteaiieomnhbmgaaGreatDoor.joins
open Go Go.Eng Go.Proofs Go.ChangeShapes Go.WideShapes Go.ChangeAt Go.RowKit
theorem own:ownKnob Tryz.prog.godebug=none:=by kernel_rfl
def flatD:Nat->DataW Unit->List Value
 |0,_=>[]
 |n+1,.agg l=>l.flatMap (flatD n)
 |_+1,.lit (.int k i)=>[.int k i]
 |_+1,_=>[]
def layIn(d:DataW Unit):Obj->Obj
 |.cells _ t frozen=>.cells (flatD 4 d).toArray t frozen
 |o=>o
noncomputable def laidWorld(os:Os):World:=
 { World.holding Tryz.prog os ⟨#[],#[],[]⟩with heap:=((((((World.holding Tryz.prog os ⟨#[],#[],[]⟩).heap.modify 2 (layIn Rows.laid_math_bits_deBruijn32tab)).modify 3 (layIn Rows.laid_math_bits_deBruijn64tab)).modify 4 (layIn Rows.laid_unicode_utf8_first)).modify 5 (layIn Rows.laid_unicode_utf8_acceptRanges)).modify 1 (layIn Rows.laid_internal_strconv_uint64pow10)) }
abbrev nilV:Value:=.slice none 0 0
theorem arr1{args:Array Value}{a:Value}(h:args.toList=[a]):args=#[a]:=by
 cases args;simp_all
theorem arr2{args:Array Value}{a b:Value}(h:args.toList=[a,b]):args=#[a,b]:=by
 cases args;simp_all
theorem arr3{args:Array Value}{a b c:Value}(h:args.toList=[a,b,c]):args=#[a,b,c]:=by
 cases args;simp_all
theorem arr4{args:Array Value}{a b c d:Value}(h:args.toList=[a,b,c,d]):args=#[a,b,c,d]:=by
 cases args;simp_all
theorem arr5{args:Array Value}{a b c d e:Value}(h:args.toList=[a,b,c,d,e]):args=#[a,b,c,d,e]:=by
 cases args;simp_all
theorem arr6{args:Array Value}{a b c d e f:Value}(h:args.toList=[a,b,c,d,e,f]):args=#[a,b,c,d,e,f]:=by
 cases args;simp_all
theorem arr7{args:Array Value}{a b c d e f g:Value}(h:args.toList=[a,b,c,d,e,f,g]):args=#[a,b,c,d,e,f,g]:=by
 cases args;simp_all
theorem looksOff:false=Tryz.pinned.checked.prog.looks []:=by kernel_rfl
theorem noStand:∀t∈([3,5,9,22,33,34,37,54,55]:List Nat),Tryz.pinned.checked.prog.wantsStandIn t=false:=by
 intro t ht
 simp only[AC,ML,or_false]at ht
 rcases ht with rfl | rfl | rfl | rfl | rfl | rfl | rfl | rfl | rfl<;>exact(show Tryz.prog.wantsStandIn _=false by kernel_rfl)
end Go.Proofs.YteaiieomnhbmgaaGreatDoor.joins
