/- Lemmas 19. -/
import Derived.Test.YtkjhcikodmiceaaGreatDoorUA18
namespace Go.Eng
open Go.Proofs
variable {d:List (List Tm)}{roots:List Rq}{l:List Nf}{BF:List (Value×AV)}{i:Nat}(x y:List Rl)(j:Nat)(s:List Sl)(ifs:List (List AV))(r:Rl)(p:ByteArray)
theorem Lz{l:List Rq}(h:A8 l=0):l.length<=16:=by
 grind [A8]
theorem Iy{x:List Rl}(h:AC x=0):x.length<=256/\∀r∈x,r.reqs.length<=16:=by
 have h1:x.length<=256:=by
  grind [AC]
 exact⟨h1,fun r hr=>Lz ((Bz h).1 r hr).reqs⟩
theorem fM{x:List Rl}(h:∀r∈x,r.reqs.length<=16):((x.map (·.reqs)).flatten).length<=x.length*16:=by
 induction x<;>grind
theorem M6{x:List Rl}(h1:AC x=0)(h2:A8 roots=0)(h3:l.length<=65536):(Ha x roots l).length<=100000:=by
 grind [Iy,fM,Lz,Ha]
theorem Qh.fewI{U:List ByteArray}{t:List Tm}(h:Qh U t)(hu:U.length<=100000):bt t:=
 ⟨by have:=h.len;omega,fun u hu=>Qz (h.1.canon u hu)⟩
abbrev ZS(roots:List Rq)(l:List Nf):AV:=
 if(B9 x roots l).2=0 then .tup [.cptr (B2 x (.slice .none ifs) roots (B9 x roots l).1),vi 0]else .tup [.v (.pointer none),vi (B9 x roots l).2]
theorem LN{x:List Rl}{ifs:List (List AV)}{e:Int}(h:B9 x roots l=(d,e))(he:e≠0):AV.tup [.v (.pointer none),vi e]=ZS x ifs roots l:=by
 grind
theorem fp{x:List Rl}{ifs:List (List AV)}(h:B9 x roots l=(d,0)):AV.tup [.cptr (B2 x (.slice .none ifs) roots d),vi 0]=ZS x ifs roots l:=by
 grind
theorem kh{x:List Rl}(h:i<l.length)(hg:BA x roots (l.take i) []=some d) :
  BA x roots (l.take (i+1)) []=match Bo x roots d l[i]with | none=>none | some t=>some (d++[t]):=by
 grind [List.take_add_one,BA,EG]
theorem kg{x:List Rl}(h:BA x roots (l.take i) []=none):BA x roots l []=none:=by
 grind [List.take_append_drop,EG]
abbrev xE:MF:=⟨[],[],[],[],[25],[],[],[(26,(25,3,901,1))],[],[],[3,5,9]⟩
theorem c36(roots:List Rq)(l:List Nf)(hx:∀r∈x,Ir r)(hr:∀q∈roots,KL q)(kk:AC x=0->jD x ifs roots):PC 106 [.agg (Ic x ifs),sl Ac roots,sl AG l] (ZS x ifs roots l):=by
 have ed:B9 x roots l=if AC x≠0\/A8 roots≠0 then([],(1:Int))else if 65536<l.length then([],(7:Int))else match BA x roots l []with | none=>([],(18:Int)) | some d=>(d,(0:Int)):=rfl
 refine Ps xE Tryz.func106 rfl (Nz rfl) (yN (Xi .pure (Xi _ (Yi (qA Tj x ifs hx) (Yi ?_ ?_)))))
 .intro h;have h:AC x≠0:=h;exact .of_eq (LN (by rw[ed,A1 (.inl h)]) Wk)
 intro h1;have h1:¬AC x≠0:=h1;refine Xi .pure (Xi _ (Yi (tA Tj roots hr) (Yi ?_ ?_)))
 .intro h;have h:A8 roots≠0:=h;exact .of_eq (LN (by rw[ed,A1 (.inr h)]) Wk)
 intro h2;have h2:¬A8 roots≠0:=h2;have e1:=FH h1;have e2:=FH h2;refine cU [(1,sl Ac roots),(2,sl AG l),(3,.ref 3 0)] [(3,.cells (Ic x ifs))] Z3 Z1 (Yi ?_ ?_)
 .intro h;have h:(65536:Int)<(l.map AG).length:=h;exact .of_eq (LN (by rw[ed,AO ch,A1 (by grind)]) Wk)
 intro h;have h:¬(65536:Int)<(l.map AG).length:=h;have h3:l.length<=65536:=by grind
 have ed2:B9 x roots l=match BA x roots l []with | none=>([],(18:Int)) | some d=>(d,(0:Int)):=by grind
 have hU:=M6 (x:=x) (roots:=roots) (l:=l) e1 e2 h3;have wA:=Iy e1;refine cU [(1,sl Ac roots),(2,sl AG l),(3,.ref 3 0)] [(3,.cells (Ic x ifs))] Z3 Z1 (yN (Xi {p:Nat×List (List Tm) // p.1<=l.length/\BA x roots (l.take p.1) []=some p.2/\p.2.length=p.1/\∀t∈p.2,Qh (Ha x roots l) t} (Xi (fun p=>⟨[(8,.ref 25 0),(26,sl AG l),(27,vi (l.map AG).length),(28,vi p.1.1)],[(25,.cells [sl Al x,.slice .none ifs,sl Ac roots,.slice (.id 901 1) (p.1.2.map Ap)]),(901,.tok 1 (p.1.2.map Ap).length)],Ab⟩) (Xi (fun p=>l.length-p.1.1) (Yi (Xi ⟨(0,[]),Ar _,rfl,rfl,fun t ht=>by cases ht⟩ ?_) ?_)))))
 .exact⟨Z4,Z2,Fh,Tv⟩
 intro⟨⟨i,d⟩,i1,i2,i3,i4⟩;have i1:i<=l.length:=i1;have i2:BA x roots (l.take i) []=some d:=i2;have i3:d.length=i:=i3;have i4:∀t∈d,Qh (Ha x roots l) t:=i4;refine Yi ?_ ?_
 .intro h;have h:(i:Int)<(l.map AG).length:=h;have h:i<l.length:=by simp_all
  have hg:l[i]?=some l[i]:=Ge h;refine Xi (AG l[i]) (Yi (Yi ch (by simp_all)) (Yi rfl ?_));refine Yi (Nz rfl) (yN (cU [(8,.ref 25 0),(10,.ref 10 0),(26,sl AG l),(27,vi (l.map AG).length),(28,vi i)] [(10,.cells (AG l[i])),(25,.cells [sl Al x,.slice .none ifs,sl Ac roots,.slice (.id 901 1) (d.map Ap)]),(901,.tok 1 (d.map Ap).length)] Z5 Z3 (yN ?_)));have BX:=c66 x ifs roots d l[i] ch (fun q hq=>(hr q hq).1) ch (fun r W4 q hq=>((hx r W4).2 q hq).1) (kk e1) (fun t ht=>(i4 t ht).fewI hU);have wE:=kh h i2;cases WY:Bo x roots d l[i]with
  |none=>
   refine Xi (.gen [(25,1000),(901,1001)] 0) (Yi rfl (BX.imp ?_));intro v g q;have q1:v=vb false:=by simp_all
   refine AJ q.2 (fun d' q2=>?_);have pi:=q2.1;subst q1;subst pi;rw[WY]at wE;have hn:BA x roots l []=none:=kg wE;exact .of_eq (LN (by rw[ed2,hn]) Wk)
  |some t=>
   refine Xi (.gen [(25,1000),(901,1001)] 0) (Yi rfl (BX.imp ?_));intro v g q;have q1:v=vb true:=by simp_all
   refine AJ q.2 (fun d' q2=>?_);have pi:=q2.1;have un:=q2.2 t WY;subst q1;subst pi;rw[WY]at wE;refine Yi (Ii i ch) ?_;have ox:=OS (Ao h) i4 WY;refine Xi ⟨(i+1,d'),by omega,by simp_all,by simp_all,fun u hu=>?_⟩ ?_
   .grind
   .exact⟨Dl l.length i ch,Z4,Z2,Fh,Tv⟩
 .intro h;have h:¬(i:Int)<(l.map AG).length:=h;have h:¬i<l.length:=by simp_all
  have hn:BA x roots l []=some d:=by grind
  exact .of_eq (fp (by simp_all))
theorem Yz{x:List Rl}:(B9 x roots l).1.length<=65536:=by
 grind [B9,G1,List.length_nil]
abbrev IP:AV:=.agg (Ic x ifs)
abbrev Nh:D7:=⟨true,[.str,.int .i64,.int .i64,.int .i64]⟩
abbrev Uj(y:Sl):Value:=.agg #[.string y.path,.int .i64 y.ver.a,.int .i64 y.ver.b,.int .i64 y.ver.c]
abbrev MW:Value×AV:=(Uj (Dd r),.agg (Al r))
def AE:List Rl->List ByteArray->List ByteArray
 | [],acc=>acc
 |r::x,acc=>AE x (if acc.any (fun p=>decide (p=r.path))then acc else acc++[r.path])
abbrev cM:Value×AV:=(.string p,sl Al (x.filter fun r=>decide (r.path=p)))
abbrev pq:AV:=if AC x=0 then .tup [.agg [.cmap Nh (x.map MW),.cmap BS ((AE x []).map (cM x))],vi 0]else .tup [.agg [.cmap Nh [],.cmap BS []],vi (AC x)]
abbrev dX:Prop:=PC 51 [IP x ifs] (pq x)
theorem vI:PC 86 [.agg dW] (.agg dW):=by
 refine Ps D0 Tryz.func86 rfl (Nz rfl) (yN (Xi Unit (Xi (fun _=>⟨[(1,.ref 1 0),(2,.ref 2 0),(10,vi 0),(11,vi 0)],[(1,.cells dW),(2,.cells dW)],Ab⟩) (Xi (fun _=>0) (Yi (Xi () ?_) ?_)))))
 .exact⟨Z4,Z2,Fh,Tv⟩
 intro _;refine Yi ?_ ?_
 .intro h;exact absurd (show(0:Int)<0 from h) Wk
 .intro _;refine Yi (Nz rfl) (Yi (Nz rfl) (yN ?_));exact .refl _
theorem kZ{y z:Sl}(h:Uj y=Uj z):y=z:=by
 obtain⟨p,⟨a,b,c⟩⟩:=y<;>simp_all
theorem Vw{x:List Rl}{y:Sl}{a:AV}(h:(Uj y,a)∈x.map MW):∃r∈x,Dd r=y/\a=.agg (Al r):=by
 grind [kZ]
theorem WI{x:List Rl}(hx:AC x=0){r:Rl}(hr:r∈x):Bg x (Dd r)=some r:=by
 unfold Bg;rw[AO ch];cases h:x.find? (fun s=>decide (Dd s=Dd r))with
 |none=>
  grind
 |some s=>
  have h1:=GY h;simp only[A5]at h1;have hs:=BO h;have hp:=(Bz hx).2
  grind [List.mem_iff_getElem,List.pairwise_iff_getElem,M0]
theorem tx(v:Ver)(RG:dX x ifs)(hx:∀r∈x,Ir r):PC 40 [IP x ifs,vs p,.agg (Gi v)] (Mx (Bg x ⟨p,v⟩)):=by
 have hz:=vI
 by_cases h0:AC x=0
 .have RG:PC 51 [IP x ifs] (.tup [.agg [.cmap Nh (x.map MW),.cmap BS ((AE x []).map (cM x))],vi 0]):=by
   grind
  refine Ps (Ec []) Tryz.func40 rfl (Nz rfl) (yN (Xi .pure (Xi _ (Yi (RG) (yN (yN (Yi ?_ ?_)))))))
  .intro a ha;refine AJ (Vw (y:=⟨p,v⟩) ha) (fun r hr=>?_);have e:=hr.2.2;subst e;have hf:Bg x ⟨p,v⟩=some r:=by grind [WI]
   have pS:=(Iy h0).2 r hr.1;have hc:=c98 r ch (fun q hq=>((hx r hr.1).2 q hq).1);refine yN (yN (Xi .pure (Xi _ (Yi (hc) (Yi (Nz rfl) (yN ?_))))));exact .of_eq (show AV.tup [.agg (Al r),vb true]=Mx (Bg x ⟨p,v⟩) by rw[hf])
  .intro hn;have hf:Bg x ⟨p,v⟩=none:=by
    cases h:Bg x ⟨p,v⟩with
    |none=>rfl
    |some r=>
     obtain⟨_,h2,h3⟩:=CK h;exact absurd (Ak.2 ⟨r,h2,by simp_all⟩) (hn (.agg (Al r)))
   refine yN (yN (Xi .pure (Xi _ (Yi (hz) (Yi (Nz rfl) (yN ?_))))));exact .of_eq (show AV.tup [.agg dW,vb false]=Mx (Bg x ⟨p,v⟩) by rw[hf])
 .have RG:PC 51 [IP x ifs] (.tup [.agg [.cmap Nh [],.cmap BS []],vi (AC x)]):=by
   grind
  have hf:Bg x ⟨p,v⟩=none:=by grind [Bg]
  refine Ps (Ec []) Tryz.func40 rfl (Nz rfl) (yN (Xi .pure (Xi _ (Yi (RG) (yN (yN (Yi ?_ ?_)))))))
  .intro a ha;cases ha
  .intro _;refine yN (yN (Xi .pure (Xi _ (Yi (hz) (Yi (Nz rfl) (yN ?_))))));exact .of_eq (show AV.tup [.agg dW,vb false]=Mx (Bg x ⟨p,v⟩) by rw[hf])
abbrev D1(l:List Rl):AS:=(l.filter fun r=>!r.yanked).map fun r=>(plc r.ver,plc r.ver+1)
theorem ZE(l:List Rl):(D1 l).length<=l.length:=by
 grind
theorem eQ{acc:List ByteArray}{p:ByteArray}:(acc.any fun q=>decide (q=p))=true↔p∈acc:=by
 simp_all
theorem GQ:∀(x:List Rl) (acc:List ByteArray) (p:ByteArray),p∈AE x acc↔p∈acc\/∃r∈x,r.path=p
 | [],acc,p=>by simp[AE]
 |r::x,acc,p=>by
  rw[AE,GQ x]
  grind
abbrev m0:MF:=(pT [] [(7,2)] [])
theorem TU(L:List Rl)(i:Nat)(h:i<L.length):D1 (L.take (i+1))=D1 (L.take i)++(if L[i].yanked then []else [(plc L[i].ver,plc L[i].ver+1)]):=by
 unfold D1;rw[FL,Ge h,List.filter_append,Bm]
 grind
theorem qu(RG:dX x ifs):PC 147 [IP x ifs,vs p] (sl Aj (Br x p)):=by
 by_cases h0:AC x=0
 .have RG:PC 51 [IP x ifs] (.tup [.agg [.cmap Nh (x.map MW),.cmap BS ((AE x []).map (cM x))],vi 0]):=by
   grind
  have oK:=(Iy h0).1;obtain⟨L,hLd⟩:∃L,L=x.filter fun r=>decide (r.path=p):=⟨_,rfl⟩;have hL:Kg x p=L:=by grind [Kg]
  have y9:L.length<=256:=by grind
  refine Ps m0 Tryz.func147 rfl (Nz rfl) (yN (Xi .pure (Xi _ (Yi (RG) (yN (Yi ?_ ?_))))))
  .intro a ha;have ea:a=sl Al L:=by grind
   subst ea;refine Xi {i:Nat // i<=L.length} (Xi (fun i=>⟨[(7,.slice (.id 7 2) ((D1 (L.take i.1)).map Aj)),(18,sl Al L),(19,vi (L.map Al).length),(20,vi i.1)],[(7,.tok 2 ((D1 (L.take i.1)).map Aj).length)],Ab⟩) (Xi (fun i=>L.length-i.1) (Yi (Xi ⟨0,Ar _⟩ ?_) ?_)))
   .exact⟨Z4,Z1,Fh,Tv⟩
   intro⟨i,i1⟩;have X4:=ZE (L.take i);rw[CB]at X4;refine Yi ?_ ?_
   .intro h;have h:i<L.length:=by simp_all
    have hg:L[i]?=some L[i]:=Ge h;refine Xi (Al L[i]) (Yi (Yi ch (by simp_all)) (Yi rfl ?_));refine Yi (Nz rfl) (yN (Yi ?_ ?_))
    .intro hy;refine Yi (by grind [AQ]) ?_;have es:D1 (L.take (i+1))=D1 (L.take i):=by rw[TU L i h,hy];simp
     have e1:AV.slice (.id 7 2) ((D1 (L.take i)).map Aj)=.slice (.id 7 2) ((D1 (L.take (i+1))).map Aj):=by rw[es]
     have e2:HO.tok 2 ((D1 (L.take i)).map Aj).length=.tok 2 ((D1 (L.take (i+1))).map Aj).length:=by rw[es]
     refine Xi ⟨i+1,by omega⟩ ?_;exact⟨by grind,⟨⟨e1,rfl⟩,Zr,Zr,Zr,Tv⟩,⟨⟨e2,rfl⟩,Tv⟩,Fh,Tv⟩
    .intro hy;have tZ:=aS L[i].ver;refine yN (Xi _ (Yi (vF L[i]) (yN (Xi _ (Yi (vF L[i]) (Yi (by grind [AQ]) ?_))))));have Di:BJ 2 [[vi (plc L[i].ver),vi (plc L[i].ver+1)]]/\((D1 (L.take i)).map Aj).length=((D1 (L.take i)).map Aj).length/\(((D1 (L.take i)).map Aj).length+[[vi (plc L[i].ver),vi (plc L[i].ver+1)]].length)*16<=140737488355328/\((D1 (L.take i)).map Aj).length+[[vi (plc L[i].ver),vi (plc L[i].ver+1)]].length<=9223372036854775807:=
      ⟨⟨rfl,trivial⟩,rfl,by grind,by grind⟩
     refine Yi Di (Yi aa0 (Yi (by grind [AQ]) ?_));have es:D1 (L.take (i+1))=D1 (L.take i)++[(plc L[i].ver,plc L[i].ver+1)]:=by rw[TU L i h,hy];simp
     have e1:AV.slice (.id 7 2) ((D1 (L.take i)).map Aj++[[vi (plc L[i].ver),vi (plc L[i].ver+1)]])=.slice (.id 7 2) ((D1 (L.take (i+1))).map Aj):=by simp_all
     have e2:HO.tok 2 (((D1 (L.take i)).map Aj).length+[[vi (plc L[i].ver),vi (plc L[i].ver+1)]].length)=.tok 2 ((D1 (L.take (i+1))).map Aj).length:=by simp_all
     refine Xi ⟨i+1,by omega⟩ ?_;exact⟨by grind,⟨⟨e1,rfl⟩,Zr,Zr,Zr,Tv⟩,⟨⟨e2,rfl⟩,Tv⟩,Fh,Tv⟩
   .intro h;have h:¬i<L.length:=by simp_all
    have et:L.take i=L:=Bd ch;have hc:PC 221 [sl Aj (D1 (L.take i))] (sl Aj (canon (D1 (L.take i)))):=Wl _ ch;refine Xi .pure (Xi _ (Yi (hc) ?_));exact .of_eq (show sl Aj (canon (D1 (L.take i)))=sl Aj (Br x p) by grind [Br])
  .intro hn;have hL:Kg x p=[]:=by
    rw[hL,hLd,List.filter_eq_nil_iff];intro r hr he;have he:=BD he;exact hn _ (Ak.2 ⟨p,(GQ x [] p).2 (.inr ⟨r,hr,he⟩),rfl⟩)
   refine Xi Unit (Xi (fun _=>⟨[(7,.slice (.id 7 2) []),(19,vi 0),(20,vi 0)],[(7,.tok 2 0)],Ab⟩) (Xi (fun _=>0) (Yi (Xi () ?_) ?_)))
   .exact⟨Z3,Z1,Fh,Tv⟩
   intro _;refine Yi ?_ ?_
   .intro h;exact absurd (show(0:Int)<0 from h) Wk
   intro _;have hc:PC 221 [sl Aj []] (sl Aj (canon [])):=Wl [] (by simp_all);refine Xi .pure (Xi _ (Yi (hc) ?_));exact .of_eq (show sl Aj (canon [])=sl Aj (Br x p) by grind [Br])
 .have RG:PC 51 [IP x ifs] (.tup [.agg [.cmap Nh [],.cmap BS []],vi (AC x)]):=by
   grind
  have hL:Kg x p=[]:=by grind [Kg]
  refine Ps m0 Tryz.func147 rfl (Nz rfl) (yN (Xi .pure (Xi _ (Yi (RG) (yN (Yi ?_ ?_))))))
  .intro a ha;cases ha
  .intro _;refine Xi Unit (Xi (fun _=>⟨[(7,.slice (.id 7 2) []),(19,vi 0),(20,vi 0)],[(7,.tok 2 0)],Ab⟩) (Xi (fun _=>0) (Yi (Xi () ?_) ?_)))
   .exact⟨Z3,Z1,Fh,Tv⟩
   intro _;refine Yi ?_ ?_
   .intro h;exact absurd (show(0:Int)<0 from h) Wk
   intro _;have hc:PC 221 [sl Aj []] (sl Aj (canon [])):=Wl [] (by simp_all);refine Xi .pure (Xi _ (Yi (hc) ?_));exact .of_eq (show sl Aj (canon [])=sl Aj (Br x p) by grind [Br])
theorem MI:Cr (Br x p):=by
 grind [Br,Hl,BN]
theorem uY(roots:List Rq)(RG:dX x ifs):jD x ifs roots:=by
 intro d i;have h1:=qu x ifs i.path RG;have h2:=nK i.path (Br x i.path) (MI x i.path);refine A7 (H5 (Ec [2])) [(1000,1000),(1001,1001)] rfl Bu hm rfl Tryz.func319 aa0 rfl (Nz rfl) aa0 rfl (yN (Xi _ (Yi (h1) (Xi _ (Yi (h2) (Yi aa0 (cU [(6,sl Am (EK i.path (Br x i.path)))] [(1000,HP x ifs roots d),(1001,HX d)] Z1 Z2 (Yi ?_ ?_))))))))
 .intro h3;have h3:(0:Int)<((EK i.path (Br x i.path)).map Am).length:=h3;have e:AV.tup [sl Am (EK i.path (Br x i.path)),vb true]=KI (QG (EK i.path (Br x i.path))):=Xu h3;exact Xi _ (Yi (.refl _) (Yi e rfl))
 .intro h3;have h3:¬(0:Int)<((EK i.path (Br x i.path)).map Am).length:=h3;have e:AV.tup [sl Am (EK i.path (Br x i.path)),vb false]=KI (QG (EK i.path (Br x i.path))):=aI h3;exact Xi _ (Yi (.refl _) (Yi e rfl))
theorem c77(y:Sl)(q:Rq):PC 184 [.agg (Ah y),.cptr (Ac q)] (vb (decide (y.path=q.path))):=by
 refine Ps D0 Tryz.func184 rfl (Nz rfl) (Yi ?_ ?_)
 .intro h;have h:y.path=q.path:=h;exact .of_eq (Aa vb (As h).symm)
 .intro h;have h:¬y.path=q.path:=h;exact .of_eq (Aa vb (Av h).symm)
theorem c79(y:Sl)(p:ByteArray):PC 186 [.agg (Ah y),.cptr [vs p]] (vb (decide (y.path=p))):=by
 refine Ps D0 Tryz.func186 rfl (Nz rfl) (Yi ?_ ?_)
 .intro h;have h:y.path=p:=h;exact .of_eq (Aa vb (As h).symm)
 .intro h;have h:¬y.path=p:=h;exact .of_eq (Aa vb (Av h).symm)
theorem c90(q:Rq)(r:Rl)(pl:Int)(hq:Cr q.set):PC 187 [.agg (Ac q),.cptr (Al r),.cptr [vi pl]] (vb (decide (q.path=r.path)&&!has q.set pl)):=by
 have hc:=nT q.set pl hq;cases hh:has q.set pl with
 |true=>
  rw[hh]at hc;refine Ps D0 Tryz.func187 rfl (Nz rfl) (Yi ?_ ?_)
  .intro h;have h:q.path=r.path:=h;refine Xi .pure (Xi _ (Yi (hc) ?_));exact .of_eq (Aa vb (show false=(decide (q.path=r.path)&&!true) by simp_all))
  .intro h;have h:¬q.path=r.path:=h;exact .of_eq (Aa vb (show false=(decide (q.path=r.path)&&!true) by simp_all))
 |false=>
  rw[hh]at hc;refine Ps D0 Tryz.func187 rfl (Nz rfl) (Yi ?_ ?_)
  .intro h;have h:q.path=r.path:=h;refine Xi .pure (Xi _ (Yi (hc) ?_));exact .of_eq (Aa vb (show true=(decide (q.path=r.path)&&!false) by simp_all))
  .intro h;have h:¬q.path=r.path:=h;exact .of_eq (Aa vb (show false=(decide (q.path=r.path)&&!false) by simp_all))
abbrev dI:AV:=if Cq s=false then .tup [sl Al [],vi 1]else match IE x s with
 |none=>.tup [sl Al [],vi 6]
 |some l=>.tup [sl Al l,vi 0]
abbrev xH:MF:=(pT [] [(7,9)] [7,11,13])
theorem sm(e:Int):DC (.tup [nzA,vi e]) (.tup [.slice .none [],vi e]):=DC.tup ⟨.nil,.refl _,trivial⟩
theorem c85(P:List (Value×AV))(h0:AC x=0)(hs:Cr s):PC 52 [.agg [.cmap Nh (x.map MW),.cmap BS P],sl Ah s] (dI x s):=by
 unfold Cr at hs;refine Ps xH Tryz.func52 rfl (Nz rfl) ?_;refine Xi {i:Nat // 1<=i/\(s=[]\/i<=s.length)/\Cq s=(match s[i-1]? with | none=>true | some y=>Ld (some y.path) (s.drop i))} (Xi (fun i=>⟨[(1,sl Ah s),(2,.ref 2 0),(6,vi i.1)],[(2,.cells [.cmap Nh (x.map MW),.cmap BS P])],Ab⟩) (Xi (fun i=>s.length-i.1) (Yi (Xi ⟨1,Ai _,by grind,by cases s<;>rfl⟩ ?_) ?_)))
 .exact⟨Z3,Z1,Fh,Tv⟩
 intro⟨i,h1,h2,h3⟩;refine Yi ?_ ?_
 .intro h;have h:(i:Int)<(s.map Ah).length:=h;have h:i<s.length:=by simp_all
  have hg:s[i]?=some s[i]:=Ge h;have h' : i-1<s.length:=by omega
  have wC : s[i-1]?=some s[i-1]:=Ge h';have e1:((i:Int)-1).toNat=i-1:=by omega
  have mP:Cq s=(EL s[i-1].path s[i].path&&Ld (some s[i].path) (s.drop (i+1))):=by
   grind [gI]
  refine Yi (by grind [AQ]) (Xi (Ah s[i-1]) (Yi (Yi (by grind) (by simp_all)) (Yi rfl ?_)));refine Xi (Ah s[i]) (Yi (Yi ch (by simp_all)) (Yi rfl ?_));refine Yi ?_ ?_
  .intro h4;have h4:Op.bytesLess s[i-1].path.toList s[i].path.toList=false:=h4;rw[<-Gg]at h4;refine Yi aa0 ?_;have e:AV.tup [.slice .none [],vi 1]=dI x s:=by grind
   exact(sm 1).trans (.of_eq e)
  .intro h4;have h4:¬Op.bytesLess s[i-1].path.toList s[i].path.toList=false:=h4;rw[<-Gg,Bool.not_eq_false]at h4;refine Yi aa0 (Yi (by grind [AQ]) (Xi ⟨i+1,by omega,.inr ch,by simp_all⟩ ?_));exact⟨Dl s.length i ch,Z3,Z1,Fh,Tv⟩
 intro h;have h:¬(i:Int)<(s.map Ah).length:=h;have h:¬i<s.length:=by simp_all
 have AbR:Cq s=true:=by
  rcases h2 with h2 | h2
  .grind
  .have e:i=s.length:=by omega
   rw[h3,e,List.drop_length];cases s[s.length-1]?<;>rfl
 have es:dI x s=match IE x s with
  |none=>.tup [sl Al [],vi 6]
  |some l=>.tup [sl Al l,vi 0]:=by simp_all
 refine cU [(1,sl Ah s),(2,.ref 2 0),(7,.slice (.id 7 9) [])] [(2,.cells [.cmap Nh (x.map MW),.cmap BS P]),(7,.tok 9 0)] Z3 Z2 (Xi {p:Nat×List Rl // p.1<=s.length/\p.2.length=p.1/\IE x s=(IE x (s.drop p.1)).map (p.2++·)} (Xi (fun p=>⟨[(2,.ref 2 0),(7,.slice (.id 7 9) (p.1.2.map Al)),(30,sl Ah s),(31,vi (s.map Ah).length),(32,vi p.1.1)],[(2,.cells [.cmap Nh (x.map MW),.cmap BS P]),(7,.tok 9 (p.1.2.map Al).length)],Ab⟩) (Xi (fun p=>s.length-p.1.1) (Yi (Xi ⟨(0,[]),Ar _,rfl,by simp_all⟩ ?_) ?_))))
 .exact⟨Z5,Z2,Fh,Tv⟩
 intro⟨⟨j,l⟩,j1,j2,j3⟩;have j1:j<=s.length:=j1;have j2:l.length=j:=j2;have j3:IE x s=(IE x (s.drop j)).map (l++·):=j3;refine Yi ?_ ?_
 .intro hj;have hj:(j:Int)<(s.map Ah).length:=hj;have hj:j<s.length:=by simp_all
  have hg:s[j]?=some s[j]:=Ge hj;have hd:s.drop j=s[j]::s.drop (j+1):=FA hj;refine Xi (Ah s[j]) (Yi (Yi ch (by grind)) (Yi rfl (Yi (Nz rfl) (yN (yN (Yi ?_ ?_))))))
  .intro a ha;refine AJ (Vw (y:=s[j]) ha) (fun r hr=>?_);have e:=hr.2.2;subst e;have hf:Bg x s[j]=some r:=by grind [WI]
   have j4:IE x s=(IE x (s.drop (j+1))).map ((l++[r])++·):=by
    rw[j3,hd,IE,hf]
    grind
   refine yN (cU [(2,.ref 2 0),(7,.slice (.id 7 9) (l.map Al)),(10,.ref 10 0),(11,vb true),(30,sl Ah s),(31,vi (s.map Ah).length),(32,vi j)] [(2,.cells [.cmap Nh (x.map MW),.cmap BS P]),(7,.tok 9 (l.map Al).length),(10,.cells (Al r))] Z7 Z3 (cU [(2,.ref 2 0),(7,.slice (.id 7 9) (l.map Al)),(10,.ref 10 0),(30,sl Ah s),(31,vi (s.map Ah).length),(32,vi j)] [(2,.cells [.cmap Nh (x.map MW),.cmap BS P]),(7,.tok 9 (l.map Al).length),(10,.cells (Al r))] Z6 Z3 (yN ?_)));have Di:BJ 9 [Al r]/\(l.map Al).length=(l.map Al).length/\((l.map Al).length+[Al r].length)*120<=140737488355328/\(l.map Al).length+[Al r].length<=9223372036854775807:=
    ⟨⟨rfl,trivial⟩,rfl,by grind,by grind⟩
   refine Yi Di (Yi (Ii j ch) ?_);have e1:AV.slice (.id 7 9) (l.map Al++[Al r])=.slice (.id 7 9) ((l++[r]).map Al):=by grind
   have e2:HO.tok 9 ((l.map Al).length+[Al r].length)=.tok 9 ((l++[r]).map Al).length:=by grind
   refine Xi ⟨(j+1,l++[r]),by omega,by grind,j4⟩ ?_;exact⟨by grind,⟨Zr,⟨e1,rfl⟩,Zr,Zr,Zr,Tv⟩,⟨Zr,⟨e2,rfl⟩,Tv⟩,Fh,Tv⟩
  .intro hn;have hf:Bg x s[j]=none:=by
    cases h:Bg x s[j]with
    |none=>rfl
    |some r=>
     obtain⟨_,h2,h3⟩:=CK h;exact absurd (Ak.2 ⟨r,h2,by grind⟩) (hn (.agg (Al r)))
   have j4:IE x s=none:=by grind [IE]
   refine yN (cU [(11,vb false)] [] Z1 Tv ?_)
   have e:AV.tup [.slice .none [],vi 6]=dI x s:=by grind
   exact(sm 6).trans (.of_eq e)
 .intro hj;have hj:¬(j:Int)<(s.map Ah).length:=hj;have hj:¬j<s.length:=by simp_all
  have j4:IE x s=some l:=by grind [IE]
  have e:AV.tup [sl Al l,vi 0]=dI x s:=by simp_all
  exact .of_eq e
abbrev Li:Value×AV:=(.string r.path,.agg (Al r))
theorem QE{m:List Rl}{p:ByteArray}{a:AV}(h:(Value.string p,a)∈m.map Li):∃r∈m,r.path=p/\a=.agg (Al r):=by
 grind
theorem Jv:∀{m:List Rl},(m.map (·.path)).Nodup->∀{r:Rl},r∈m->m.find? (fun s=>decide (s.path=r.path))=some r
 |a::m,hn,r,hr=>by
  rw[Bb,FG]at hn;rw[II];rcases AA.1 hr with rfl | hr
  .simp
  .have:¬a.path=r.path:=fun e=>hn.1 (Ak.2 ⟨r,hr,e.symm⟩)
   rw[Av this];exact Jv hn.2 hr
theorem c86(m:List Rl)(hn:(m.map (·.path)).Nodup)(q:Rq)(hq:Cr q.set):PC 53 [.agg (Ac q),.cptr [.cmap BS (m.map Li)]] (vb (CC m q)):=by
 refine Ps (Ec [2]) Tryz.func53 rfl (Nz rfl) (Yi ?_ ?_)
 .intro a ha;refine AJ (QE ha) (fun r hr=>?_);have e:=hr.2.2;subst e;have hf:m.find? (fun s=>decide (s.path=q.path))=some r:=by grind [Jv]
  have hb:CC m q=!has q.set (plc r.ver):=by grind [CC]
  have hc:=nT q.set (plc r.ver) hq;refine yN (cU [(2,.ref 2 0),(4,.ref 4 0),(5,vb true)] [(2,.cells (Ac q)),(4,.cells (Al r))] Z3 Z2 (yN (Xi _ (Yi (vF r) (Bs (Bt (has q.set (plc r.ver))) (fun e=>?_) (fun e=>?_))))))
  .rw[e]at hc;refine Xi _ (Yi (hc) (Yi aa0 ?_));exact .of_eq (Aa vb (show false=CC m q by simp_all))
  .rw[e]at hc;refine Xi _ (Yi (hc) (Yi aa0 ?_));exact .of_eq (Aa vb (show true=CC m q by simp_all))
 .intro NW;have hf:m.find? (fun s=>decide (s.path=q.path))=none:=by
   rw[List.find?_eq_none];intro r hr he;have he:=BD he;exact NW _ (Ak.2 ⟨r,hr,by rw[<-he]⟩)
  have hb:CC m q=true:=by grind [CC]
  refine yN (cU [(2,.ref 2 0),(4,.ref 4 0),(5,vb false)] [(2,.cells (Ac q)),(4,.cells dW)] Z3 Z2 (Yi aa0 ?_));exact .of_eq (Aa vb hb.symm)
theorem Kh:∀(y:List Rl) (acc:List ByteArray) (r:Rl),AE (y++[r]) acc=if(AE y acc).any (fun p=>decide (p=r.path))then AE y acc else AE y acc++[r.path]
 | [],acc,r=>rfl
 |s::y,acc,r=>by rw[HM,AE,AE,Kh y]
theorem Ei:∀(y:List Rl) (acc:List ByteArray),acc.Nodup->(AE y acc).Nodup
 | [],_,h=>h
 |s::y,acc,h=>by
  rw[AE];refine Ei y _ ?_
  grind
abbrev Zi:List (List AV):=(y.filter fun r=>decide (r.path=p)).map Al
abbrev qS(q:ByteArray×Nat):Value×AV:=(.string q.1,.slice (.id (q.2+50) 9) (Zi y q.1))
abbrev RF:List (Value×AV):=(AE y []).zipIdx.map (qS y)
def Ko(l:Nat):HO:=match(AE y [])[l]? with
 |some q=>.tok 9 (Zi y q).length
 |none=>.free
def Ud:HO:=bif Nat.ble 50 j then Ko y (j-50)else .free
theorem G6(l:Nat):Ud y (l+50)=Ko y l:=by
 grind [Ud,Nat.ble_eq]
theorem ol{j:Nat}(h:j<50):Ud y j=.free:=by
 grind [Ud,Nat.ble_eq]
open Classical in
theorem HG{k:Value}{a:AV}(h:∀a',(k,a')∉BF):Ej BF k a=BF++[(k,a)]:=by
 grind [Ej]
open Classical in
theorem Xt{k:Value}{a a' : AV}(h:(k,a')∈BF):Ej BF k a=BF.map fun p=>if p.1=k then(k,a)else p:=by
 unfold Ej;rw[A1 ⟨a',h⟩]
section
variable {y:List Rl}{r:Rl}{k:Nat}
theorem L5(h:(AE y [])[k]?=some r.path):AE (y++[r]) []=AE y []:=by
 grind [Kh]
theorem L4(h:r.path∉AE y []):AE (y++[r]) []=AE y []++[r.path]:=by
 grind [Kh]
theorem Io{l:List ByteArray}(hd:l.Nodup){i j:Nat}{p:ByteArray}(h1:l[i]?=some p)(h2:l[j]?=some p):i=j:=by
 grind [List.getElem_inj]
open Classical in
theorem kj(h:(AE y [])[k]?=some r.path):Ej (RF y) (.string r.path) (.slice (.id (k+50) 9) (Zi y r.path++[Al r]))=RF (y++[r]):=by
 have hd:=Ei y [] Jj;have hm:qS y (r.path,k)∈RF y:=Ak.2 ⟨_,GZ.2 h,rfl⟩;rw[Xt (a':=.slice (.id (k+50) 9) (Zi y r.path)) hm];unfold RF;rw[L5 h,Bx];refine BK fun q hq=>?_
 grind [Io]
theorem aN(h:r.path∉AE y []):Zi y r.path=[]:=by
 grind [List.filter_eq_nil_iff,GQ]
theorem fW(h:r.path∉AE y [])(a:AV):(Value.string r.path,a)∉RF y:=by
 grind
theorem ki(h:r.path∉AE y []):Ej (RF y) (.string r.path) (.slice (.id ((AE y []).length+50) 9) [Al r])=RF (y++[r]):=by
 grind [HG,L4,List.map_congr_left,aN]
theorem fY{p:ByteArray}{j:Nat}(h:(AE y [])[j]?=some p):(Value.string p,AV.slice (.id (j+50) 9) (Zi y p))∈RF y/\∀b,(Value.string p,b)∈RF y->b=AV.slice (.id (j+50) 9) (Zi y p):=by
 refine⟨Ak.2 ⟨(p,j),GZ.2 h,rfl⟩,fun b hb=>?_⟩
 grind [Io,Ei]
theorem jc{p:ByteArray}{j:Nat}(h:(AE y [])[j]?=some p):Ko y j=.tok 9 (Zi y p).length:=by
 grind [Ko]
theorem mc(h:(AE y [])[k]?=some r.path)(l:Nat):(bif Nat.beq (l+50) (k+50)then HO.tok 9 ((Zi y r.path).length+1)else Ko y l)=Ko (y++[r]) l:=by
 grind [Nat.beq_refl,Ko,L5,Nat.eq_of_beq_eq_true,Io,Ei]
theorem ma(h:r.path∉AE y [])(l:Nat):(bif Nat.beq (l+50) ((AE y []).length+50)then HO.tok 9 1 else Ko y l)=Ko (y++[r]) l:=by
 grind [Nat.beq_refl,Ko,L4,aN,Nat.eq_of_beq_eq_true]
end
theorem OR{h:Nat->HO}:∀{BF:List (Value×AV)},(∀p∈BF,RT h p.2=true)->PQ h BF=true
 | [],_=>rfl
 |p::r,hk=>by
  unfold PQ;rw[hk p (Ad ..)];exact OR (fun q hq=>hk q (Af _ hq))
theorem J6{h:Nat->HO}(hh:∀l,h (l+50)=Ko y l):PQ h (RF y)=true:=by
 refine OR fun p hp=>?_;obtain⟨q,h1,rfl⟩:=Ak.1 hp;show Qr h (q.2+50)=true
 grind [Qr,jc]
theorem Iw{y:List Rl}{h h' : Nat->HO}(hh:∀l,h (l+50)=Ko y l)(j:Nat):Ud y j=.free\/(h j=Ud y j/\W7 h' (Ud y j)=true):=by
 by_cases hj:j<50
 .grind [ol]
 .obtain⟨l,rfl⟩:∃l,j=l+50:=⟨j-50,by omega⟩
  right
  rw[G6];refine⟨hh l,?_⟩;unfold Ko;cases (AE y [])[l]?<;>rfl
theorem lO{x:List Rl}(hx:AC x=0)(hi:i<x.length):Ej ((x.take i).map MW) (Uj (Dd x[i])) (.agg (Al x[i]))=(x.take (i+1)).map MW:=by
 rw[HG]
 .rw[FL,Ge hi,Bm];rfl
 intro a ha;obtain⟨r,hr,he,_⟩:=Vw ha;obtain⟨j,hj,e2⟩:=CF.1 hr;rw[CB]at hj;rw[List.getElem_take]at e2;have hp:=(Bz hx).2
 grind [List.pairwise_iff_getElem,M0]
abbrev su:MF:=⟨[],[],[],[],[8,9],[9],[40],[],[],[],[8,9,10,11]⟩
abbrev zT:List AV:=[.v (.map none),.v (.map none)]
theorem jU(oa:PC 47 [IP x ifs] (vi (AC x)))(h0:AC x≠0):dX x ifs:=by
 have ht:pq x=.tup [.agg [.cmap Nh [],.cmap BS []],vi (AC x)]:=by simp_all
 unfold dX;rw[ht];refine Ps su Tryz.func51 rfl (Nz rfl) (Xi 0 (Xi 0 (yN (Xi 0 (yN (Xi .pure (Xi _ (Yi (oa) (Xi 0 (Yi ?_ ?_))))))))))
 .intro _;refine Xi 0 (yN (yN (yN ?_)));exact .refl _
 .intro h;exact absurd h (fun hc=>hc h0)
theorem GP:∀(y:List Rl) (acc:List ByteArray),(AE y acc).length<=acc.length+y.length
 | [],acc=>by simp[AE]
 |r::y,acc=>by
  rw[AE];refine AH (GP y _) ?_
  grind
section
attribute [local irreducible] Hs
theorem nS(oa:PC 47 [IP x ifs] (vi (AC x)))(h0:AC x=0)(B5:x.length<=256):dX x ifs:=by
 have ht:pq x=.tup [.agg [.cmap Nh (x.map MW),.cmap BS ((AE x []).map (cM x))],vi 0]:=by simp_all
 unfold dX;rw[ht];rw[h0]at oa;refine Ps su Tryz.func51 rfl (Nz rfl) (Xi 0 (Xi 0 (yN (Xi 0 (yN (Xi .pure (Xi _ (Yi (oa) (Xi 0 (Yi ?_ ?_))))))))))
 .intro hc;exact absurd (show(0:Int)≠0 from hc) Wk
 intro _;refine Xi 0 (Xi {i:Nat // i<=x.length} (Xi (fun i=>⟨[(2,.ref 2 0),(4,.ref 4 0),(18,sl Al x),(19,vi (x.map Al).length),(20,vi i.1)],[(2,.cells zT),(4,.cells [.mref 8,.mref 9]),(8,.map Nh ((x.take i.1).map MW)),(9,.mapU BS (RF (x.take i.1)))],Ud (x.take i.1)⟩) (Xi (fun i=>x.length-i.1) (Yi (Xi ⟨0,Ar _⟩ ?_) ?_))))
 .refine⟨Z5,Z4,fun j=>.inl ?_,Tv⟩;show Ud [] j=.free;unfold Ud;cases Nat.ble 50 j<;>rfl
 intro⟨i,i1⟩;refine Xi 0 (Yi ?_ ?_)
 .intro h;have h:i<x.length:=by simp_all
  have hg:x[i]?=some x[i]:=Ge h;have NX:x.take (i+1)=x.take i++[x[i]]:=by simp_all
  refine Xi 0 (Xi (Al x[i]) (Yi (Yi ch (by simp_all)) (Yi rfl ?_)));refine Yi (Nz rfl) (yN (Xi ⟨[(2,.ref 2 0),(4,.ref 4 0),(7,.ref 7 0),(18,sl Al x),(19,vi (x.map Al).length),(20,vi i)],[(2,.cells zT),(4,.cells [.mref 8,.mref 9]),(7,.cells (Al x[i])),(8,.map Nh ((x.take i).map MW)),(9,.mapU BS (RF (x.take i)))],Ud (x.take i)⟩ (Yi ?_ ?_)))
  .exact⟨Z6,⟨Zr,Zr,Zr,Zr,⟨rfl,J6 _ (G6 _)⟩,Tv⟩,Iw (G6 _),Tv⟩
  refine Xi 0 (yN (Xi _ (Yi (nB x[i]) (yN (Yi aa0 ?_)))));have e8:Ej ((x.take i).map MW) (Uj (Dd x[i])) (.agg (Al x[i]))=(x.take (i+1)).map MW:=lO h0 h;refine Xi ⟨[(2,.ref 2 0),(4,.ref 4 0),(7,.ref 7 0),(18,sl Al x),(19,vi (x.map Al).length),(20,vi i)],[(2,.cells zT),(4,.cells [.mref 8,.mref 9]),(7,.cells (Al x[i])),(8,.map Nh ((x.take (i+1)).map MW)),(9,.mapU BS (RF (x.take i)))],Ud (x.take i)⟩ (Yi ?_ ?_)
  .exact⟨Z6,⟨Zr,Zr,Zr,⟨Aa (HO.map Nh) e8,rfl⟩,⟨rfl,J6 _ (G6 _)⟩,Tv⟩,Iw (G6 _),Tv⟩
  have hL:((x.take i).filter (fun r=>decide (r.path=x[i].path))).length<=256:=by
   grind
  have hP:∀l,Ud (x.take i) (l+50)=Ko (x.take i) l:=G6 _;refine Bs (Classical.em (x[i].path∈AE (x.take i) [])) (fun hp=>?_) (fun hp=>?_)
  .refine AJ (DA.1 hp) (fun k hk=>?_);have hu:=fY hk;refine Xi 0 ?_;refine Or.inl (Xi (.slice (.id (k+50) 9) (Zi (x.take i) x[i].path)) (Yi hu ?_));refine yN ?_;have hr:Ud (x.take i) (k+50)=.tok 9 (Zi (x.take i) x[i].path).length:=by rw[hP,jc hk]
   have hl:(Zi (x.take i) x[i].path).length<=256:=by grind
   refine PG (e:=70) (m:=8) (es2:=[Al x[i]]) rfl rfl rfl (fun _ h=>h) hr ⟨rfl,trivial⟩ (by show(_+1)*120<=_;omega) (by grind) ?_;have rE:k<256:=by
    have:=(AZ.1 hk).1
    have:=GP (x.take i) []
    grind
   have oF:=hk;refine Yi (Ie ⟨AD _,AD _,AD _,AD _,AD _,AD _,AD _,AD _,AD _,AD _,Dz (show 39<10000000 by decide),Dz ch,Dz (show 9<10000000 by decide),trivial⟩ aa0) ?_;have e9:Ej (RF (x.take i)) (.string x[i].path) (.slice (.id (k+50) 9) (Zi (x.take i) x[i].path++[Al x[i]]))=RF (x.take (i+1)):=by rw[NX];exact kj oF
   have hG:∀l,(bif Nat.beq (l+50) (k+50)then HO.tok 9 ((Zi (x.take i) x[i].path).length+1)else Ko (x.take i) l)=Ko (x.take (i+1)) l:=by rw[NX];exact mc oF
   refine Xi ⟨[(2,.ref 2 0),(4,.ref 4 0),(18,sl Al x),(19,vi (x.map Al).length),(20,vi i)],[(2,.cells zT),(4,.cells [.mref 8,.mref 9]),(8,.map Nh ((x.take (i+1)).map MW)),(9,.mapU BS (RF (x.take (i+1))))],Ud (x.take (i+1))⟩ (Yi ?_ ?_)
   .refine⟨Z5,⟨Zr,Zr,Zr,⟨Aa (HO.mapU BS) e9,J6 _ (G6 _)⟩,Tv⟩,Iw (fun l=>?_),Tv⟩;show(bif Nat.beq (l+50) (k+50)then HO.tok 9 ((Zi (x.take i) x[i].path).length+1)else Ud (x.take i) (l+50))=_
    grind
   refine Xi 0 (Yi (Ii i ch) (Xi ⟨i+1,by omega⟩ ?_));exact⟨by grind,Z5,⟨Zr,Zr,Zr,⟨rfl,J6 _ (G6 _)⟩,Tv⟩,Iw (G6 _),Tv⟩
  .have oF:=hp;have NV:(AE (x.take i) []).length<=256:=by
    have:=GP (x.take i) []
    grind
   have hn:=fW hp;refine Xi ((AE (x.take i) []).length+50) ?_;refine Or.inr (Yi hn ?_);refine yN ?_;have hr:Ud (x.take i) ((AE (x.take i) []).length+50)=.free:=by
    rw[hP];unfold Ko;simp_all
   refine PF (e:=70) (m:=8) (es2:=[Al x[i]]) rfl rfl rfl (fun _ h=>h) hr rfl ⟨rfl,trivial⟩ (by show 1*120<=_;omega) (by simp_all) ?_;refine Yi (Ie ⟨AD _,AD _,AD _,AD _,AD _,AD _,AD _,AD _,AD _,AD _,Dz (show 39<10000000 by decide),Dz (by show _+50<10000000;omega),Dz (show 9<10000000 by decide),trivial⟩ aa0) ?_;have e9:Ej (RF (x.take i)) (.string x[i].path) (.slice (.id ((AE (x.take i) []).length+50) 9) [Al x[i]])=RF (x.take (i+1)):=by rw[NX];exact ki oF
   have hG:∀l,(bif Nat.beq (l+50) ((AE (x.take i) []).length+50)then HO.tok 9 1 else Ko (x.take i) l)=Ko (x.take (i+1)) l:=by rw[NX];exact ma oF
   refine Xi ⟨[(2,.ref 2 0),(4,.ref 4 0),(18,sl Al x),(19,vi (x.map Al).length),(20,vi i)],[(2,.cells zT),(4,.cells [.mref 8,.mref 9]),(8,.map Nh ((x.take (i+1)).map MW)),(9,.mapU BS (RF (x.take (i+1))))],Ud (x.take (i+1))⟩ (Yi ?_ ?_)
   .refine⟨Z5,⟨Zr,Zr,Zr,⟨Aa (HO.mapU BS) e9,J6 _ (G6 _)⟩,Tv⟩,Iw (fun l=>?_),Tv⟩;show(bif Nat.beq (l+50) ((AE (x.take i) []).length+50)then HO.tok 9 1 else Ud (x.take i) (l+50))=_;simp_all
   refine Xi 0 (Yi (Ii i ch) (Xi ⟨i+1,by omega⟩ ?_));exact⟨by grind,Z5,⟨Zr,Zr,Zr,⟨rfl,J6 _ (G6 _)⟩,Tv⟩,Iw (G6 _),Tv⟩
 .intro h;have h:¬i<x.length:=by simp_all
  have et:x.take i=x:=Bd ch;refine Xi ⟨[(2,.ref 2 0),(4,.ref 4 0)],[(2,.cells zT),(4,.cells [.mref 8,.mref 9]),(8,.map Nh ((x.take i).map MW)),(9,.mapU BS (RF (x.take i)))],Ud (x.take i)⟩ (Yi ?_ ?_)
  .exact⟨Z2,⟨Zr,Zr,Zr,⟨rfl,J6 _ (G6 _)⟩,Tv⟩,Iw (G6 _),Tv⟩
  refine Xi 0 (yN (yN (yN ?_)));have es:∀h:Nat->HO,Qw h (RF (x.take i))=(AE x []).map (cM x):=fun h=>by
   rw[et];unfold Qw RF;rw[Bx];refine B7 fun j=>?_;rw[BC,BC,List.getElem?_zipIdx];cases (AE x [])[j]?<;>rfl
  have e1:(x.take i).map MW=x.map MW:=by rw[et]
  exact .of_eq (show AV.tup [.agg [.cmap Nh ((x.take i).map MW),.cmap BS (Qw _ (RF (x.take i)))],vi 0]=_ by rw[e1,es])
end
theorem c84(hx:∀r∈x,Ir r):dX x ifs:=by
 by_cases h0:AC x=0
 .exact nS x ifs (qA Tj x ifs hx) h0 (Iy h0).1
 .exact jU x ifs (qA Tj x ifs hx) h0
abbrev sv(n:Nat):MF:=⟨[],[(2,n)],[],[],[],[],[5],[],[],[],[2,3]⟩
theorem qF(l:List Rq)(hl:Cr l):AW Tryz.prog 57 [sl Ac l] (Ae [] Ab) fun r h'=>r=.slice (.id 2000 2) (l.map Ac)/\h'=Ae [(2000,.tok 2 (l.map Ac).length)] Ab:=by
 refine A7 (H5 (sv 2)) [(2,2000)] rfl Bu hm rfl Tryz.func57 aa0 rfl (Nz rfl) aa0 rfl ?_;have Di:BJ 2 (l.map Ac)/\([]:List (List AV)).length=0/\(([]:List (List AV)).length+(l.map Ac).length)*40<=140737488355328/\([]:List (List AV)).length+(l.map Ac).length<=9223372036854775807:=by
  grind [Df]
 have e2:HO.tok 2 (([]:List (List AV)).length+(l.map Ac).length)=.tok 2 (l.map Ac).length:=by simp_all
 have e3:AV.slice (.id 2000 2) ([]++l.map Ac)=.slice (.id 2000 2) (l.map Ac):=rfl;have full:∀st:St,(∃s:LS,St.le (H5 (sv 2)) st s/\True)->True:=fun _ _=>trivial;refine Xi 0 (Xi 0 (Yi ?_ ?_))
 .intro _;refine cU [(0,sl Ac l)] [] Z1 Tv (Xi 2 (Yi Di ?_));exact Xi _ (Yi (.refl _) (Yi e3 (Aa (fun o=>Ae [(2000,o)] Ab) e2)))
 .intro h;have h:l.map Ac=[]:=h;refine Yi ?_ ?_
  .refine Xi ⟨[],[],Ab⟩ (Yi ⟨trivial,trivial,fun _=>.inl rfl,Be aa0⟩ ?_);refine Xi 0 ?_;exact Xi _ (Yi (.refl _) (Yi (show AV.slice (.id 2000 2) []=_ by rw[h]) (show Ae [(2000,HO.tok 2 0)] Ab=_ by simp_all)))
  .refine cU [(0,sl Ac l)] [] Z1 Tv (Xi 2 (Yi Di ?_));exact Xi _ (Yi (.refl _) (Yi e3 (Aa (fun o=>Ae [(2000,o)] Ab) e2)))
theorem nQ(l:List Sl)(hl:Cr l):AW Tryz.prog 76 [sl Ah l] (Ae [] Ab) fun r h'=>r=.slice (.id 2000 4) (l.map Ah)/\h'=Ae [(2000,.tok 4 (l.map Ah).length)] Ab:=by
 refine A7 (H5 (sv 4)) [(2,2000)] rfl Bu hm rfl Tryz.func76 aa0 rfl (Nz rfl) aa0 rfl ?_;have Di:BJ 4 (l.map Ah)/\([]:List (List AV)).length=0/\(([]:List (List AV)).length+(l.map Ah).length)*40<=140737488355328/\([]:List (List AV)).length+(l.map Ah).length<=9223372036854775807:=by
  grind [Df]
 have e2:HO.tok 4 (([]:List (List AV)).length+(l.map Ah).length)=.tok 4 (l.map Ah).length:=by simp_all
 have e3:AV.slice (.id 2000 4) ([]++l.map Ah)=.slice (.id 2000 4) (l.map Ah):=rfl;refine Xi 0 (Xi 0 (Yi ?_ ?_))
 .intro _;refine cU [(0,sl Ah l)] [] Z1 Tv (Xi 2 (Yi Di ?_));exact Xi _ (Yi (.refl _) (Yi e3 (Aa (fun o=>Ae [(2000,o)] Ab) e2)))
 .intro h;refine Yi ?_ ?_
  .refine Xi ⟨[],[],Ab⟩ (Yi ⟨trivial,trivial,fun _=>.inl rfl,Be aa0⟩ ?_);refine Xi 0 ?_;exact Xi _ (Yi (.refl _) (Yi (show AV.slice (.id 2000 4) []=_ by rw[h]) (show Ae [(2000,HO.tok 4 0)] Ab=_ by simp_all)))
  .refine cU [(0,sl Ah l)] [] Z1 Tv (Xi 2 (Yi Di ?_));exact Xi _ (Yi (.refl _) (Yi e3 (Aa (fun o=>Ae [(2000,o)] Ab) e2)))
abbrev xG:MF:=⟨[9,16],[],[],[],[],[],[],[],[(98,3)],[],[5,6,7,8,10,11,13,14]⟩
abbrev X6(p:List Sk×Bool):AV:=.tup [sl Ay p.1,vb p.2]
def VP(d:List (List Tm))(v:TJ)(o:Rl)(x:List Rl)(k:List Sk):List Sk×Bool:=match k with
  | []=>([],false)
  |y::k'=>if !decide (y.path=v.rel.path)||!decide (y.place=plc o.ver)then([],false)else match El d y.inf with
   |none=>([],false)
   |some t=>if BG t (v.before++[Dd o])then CM d v x k' else([],false)
theorem UA(d:List (List Tm))(v:TJ)(o:Rl)(x:List Rl)(k:List Sk):CM d v (o::x) k =
  if !decide (o.path=v.rel.path)||o.yanked||!decide (plc o.ver<plc v.rel.ver)then CM d v x k else
  if v.needs.any (fun q=>decide (q.path=v.rel.path)&&!has q.set (plc o.ver))then CM d v x k else VP d v o x k:=by
 cases k<;>rfl
theorem L7{v:TJ}{x:List Rl}(h:i<x.length){k:List Sk}{p:List Sk×Bool}(e:p=CM d v (x.drop i) k)(hs:(!decide (x[i].path=v.rel.path)||x[i].yanked||!decide (plc x[i].ver<plc v.rel.ver))=true\/v.needs.any (fun q=>decide (q.path=v.rel.path)&&!has q.set (plc x[i].ver))=true):p=CM d v (x.drop (i+1)) k:=by
 grind [List.drop_eq_getElem_cons,UA]
theorem l7{v:TJ}{x:List Rl}(h:i<x.length){k:List Sk}{p:List Sk×Bool}(e:p=CM d v (x.drop i) k)(h1:x[i].path=v.rel.path)(h2:x[i].yanked=false)(h3:plc x[i].ver<plc v.rel.ver)(h4:v.needs.any (fun q=>decide (q.path=v.rel.path)&&!has q.set (plc x[i].ver))=false):p=VP d v x[i] (x.drop (i+1)) k:=by
 grind [List.drop_eq_getElem_cons,UA]
theorem JK:DC (.tup [nzA,vb false]) (X6 ([],false)):=DC.tup ⟨.nil,.refl _,trivial⟩
theorem dK(k:List Sk):(((k.map Ay).take ((k.map Ay).length:Int).toNat).drop (1:Int).toNat)=(k.drop 1).map Ay:=by
 grind [List.take_length,List.map_drop]
theorem c47(ifs:AV)(roots:List Rq)(d:List (List Tm))(k:List Sk)(before:List Sl)(needs:List Rq)(r:Rl)(hx:x.length<=256)(_hd:d.length<=65536)(ht:∀t∈d,UO t)(hb:before.length<=1000)(hn:Cr needs)(hq:∀q∈needs,Cr q.set) :
  PC 110 [.cptr (B2 x ifs roots d),sl Ay k,sl Ah before,sl Ac needs,.agg (Al r)] (X6 (CM d ⟨before,needs,r⟩ x k)):=by
 have we:Cr before:=by omega
 obtain⟨P,hP⟩:∃P,P=CM d ⟨before,needs,r⟩ x k:=⟨_,rfl⟩;rw[<-hP];refine Ps xG Tryz.func110 rfl (Nz rfl) (yN (Xi .pure (Xi _ (Yi (nR r.ver) (Xi {p:Nat×List Sk // p.1<=x.length/\P=CM d ⟨before,needs,r⟩ (x.drop p.1) p.2} (Xi (fun p=>⟨[(0,.cptr (B2 x ifs roots d)),(1,sl Ay p.1.2),(2,sl Ah before),(3,sl Ac needs),(9,.ref 9 0),(12,vi (plc r.ver)),(29,sl Al x),(30,vi (x.map Al).length),(31,vi p.1.1)],[(9,.ro (Al r))],Ab⟩) (Xi (fun p=>x.length-p.1.1) (Yi (Xi ⟨(0,k),Ar _,hP⟩ ?_) ?_))))))))
 .exact⟨Z9,Z1,Fh,Tv⟩
 intro⟨⟨i,k⟩,i1,i2⟩;have i1:i<=x.length:=i1;have i2:P=CM d ⟨before,needs,r⟩ (x.drop i) k:=i2;refine Yi ?_ ?_
 .intro h;have h:(i:Int)<(x.map Al).length:=h;have h:i<x.length:=by simp_all
  have hg:x[i]?=some x[i]:=Ge h;refine Xi (Al x[i]) (Yi (Yi ch (by simp_all)) (Yi rfl ?_));refine Yi (Nz rfl) (yN (cU [(0,.cptr (B2 x ifs roots d)),(1,sl Ay k),(2,sl Ah before),(3,sl Ac needs),(9,.ref 9 0),(12,vi (plc r.ver)),(15,.ref 15 0),(29,sl Al x),(30,vi (x.map Al).length),(31,vi i)] [(9,.ro (Al r)),(15,.cells (Al x[i]))] Z10 Z2 (yN (Xi .pure (Xi _ (Yi (nR x[i].ver) (yN (cU [(0,.cptr (B2 x ifs roots d)),(1,sl Ay k),(2,sl Ah before),(3,sl Ac needs),(9,.ref 9 0),(12,vi (plc r.ver)),(15,.ref 15 0),(16,.ref 16 0),(29,sl Al x),(30,vi (x.map Al).length),(31,vi i)] [(9,.ro (Al r)),(15,.cells (Al x[i])),(16,.ro [vi (plc x[i].ver)])] Z11 Z3 (Yi ?_ ?_)))))))))
  .intro h1;have h1:x[i].path≠r.path:=h1;have i3:=L7 h i2 (.inl (by simp_all));refine cU [(0,.cptr (B2 x ifs roots d)),(1,sl Ay k),(2,sl Ah before),(3,sl Ac needs),(9,.ref 9 0),(12,vi (plc r.ver)),(29,sl Al x),(30,vi (x.map Al).length),(31,vi i)] [(9,.ro (Al r))] Z9 Z1 (Yi (by grind [AQ]) (Xi ⟨(i+1,k),by omega,i3⟩ ?_));exact⟨by grind,Z9,Z1,Fh,Tv⟩
  intro h1;have h1:¬x[i].path≠r.path:=h1;have h1:x[i].path=r.path:=BI.1 h1;refine Yi ?_ ?_
  .intro h2;have h2:x[i].yanked=true:=h2;have i3:=L7 h i2 (.inl (by simp_all));refine cU [(0,.cptr (B2 x ifs roots d)),(1,sl Ay k),(2,sl Ah before),(3,sl Ac needs),(9,.ref 9 0),(12,vi (plc r.ver)),(29,sl Al x),(30,vi (x.map Al).length),(31,vi i)] [(9,.ro (Al r))] Z9 Z1 (Yi (by grind [AQ]) (Xi ⟨(i+1,k),by omega,i3⟩ ?_));exact⟨by grind,Z9,Z1,Fh,Tv⟩
  intro h2;have h2:x[i].yanked=false:=h2;refine Yi ?_ ?_
  .intro h3;have h3:plc r.ver<=plc x[i].ver:=h3;have i3:=L7 h i2 (.inl (by simp_all));refine cU [(0,.cptr (B2 x ifs roots d)),(1,sl Ay k),(2,sl Ah before),(3,sl Ac needs),(9,.ref 9 0),(12,vi (plc r.ver)),(29,sl Al x),(30,vi (x.map Al).length),(31,vi i)] [(9,.ro (Al r))] Z9 Z1 (Yi (by grind [AQ]) (Xi ⟨(i+1,k),by omega,i3⟩ ?_));exact⟨by grind,Z9,Z1,Fh,Tv⟩
  intro h3;have h3:¬plc r.ver<=plc x[i].ver:=h3;have h3:plc x[i].ver<plc r.ver:=by omega
  refine cU [(0,.cptr (B2 x ifs roots d)),(1,sl Ay k),(2,sl Ah before),(3,sl Ac needs),(9,.ref 9 0),(12,vi (plc r.ver)),(15,.ref 15 0),(16,.ref 16 0),(29,sl Al x),(30,vi (x.map Al).length),(31,vi i)] [(9,.ro (Al r)),(15,.cells (Al x[i])),(16,.ro [vi (plc x[i].ver)])] Z11 Z3 ?_
  have wk:∀q∈needs,PC 187 ([.agg (Ac q)]++[.cptr (Al r),.cptr [vi (plc x[i].ver)]]) (vb (decide (q.path=r.path)&&!has q.set (plc x[i].ver))):=fun q hh=>c90 q r (plc x[i].ver) (hq q hh);have J8:=vG (fF:=187) (caps:=[.cptr (Al r),.cptr [vi (plc x[i].ver)]]) (fun c hc=>by
   rcases AA.1 hc with rfl | hc
   .intro h;rfl
   .obtain rfl:=AB.1 hc;intro h;rfl) needs (fun q=>decide (q.path=r.path)&&!has q.set (plc x[i].ver)) wk hn
  refine Bs (Bt (needs.any fun q=>decide (q.path=r.path)&&!has q.set (plc x[i].ver))) (fun h4=>?_) (fun h4=>?_)
  .rw[h4]at J8;refine Xi .pure (Xi _ (Yi (J8) ?_));have i3:=L7 h i2 (.inr h4);refine cU [(0,.cptr (B2 x ifs roots d)),(1,sl Ay k),(2,sl Ah before),(3,sl Ac needs),(9,.ref 9 0),(12,vi (plc r.ver)),(29,sl Al x),(30,vi (x.map Al).length),(31,vi i)] [(9,.ro (Al r))] Z9 Z1 (Yi (by grind [AQ]) (Xi ⟨(i+1,k),by omega,i3⟩ ?_));exact⟨by grind,Z9,Z1,Fh,Tv⟩
  rw[h4]at J8;refine Xi .pure (Xi _ (Yi (J8) ?_));have i4:P=VP d ⟨before,needs,r⟩ x[i] (x.drop (i+1)) k:=l7 h i2 h1 h2 h3 h4;refine cU [(0,.cptr (B2 x ifs roots d)),(1,sl Ay k),(2,sl Ah before),(3,sl Ac needs),(9,.ref 9 0),(12,vi (plc r.ver)),(15,.ref 15 0),(16,.ref 16 0),(29,sl Al x),(30,vi (x.map Al).length),(31,vi i)] [(9,.ro (Al r)),(15,.cells (Al x[i])),(16,.ro [vi (plc x[i].ver)])] Z11 Z3 (Yi ?_ ?_)
  .intro hh;have hh:((k.map Ay).length:Int)=0:=hh;refine Yi aa0 ?_;have e:P=([],false):=by rw[i4,show k=[]from AI (by simp_all)];rfl
   exact JK.trans (.of_eq (show X6 ([],false)=X6 P by rw[e]))
  intro hk;have hk:¬((k.map Ay).length:Int)=0:=hk;refine AJ (show ∃y k',k=y::k' by cases k<;>simp_all) (fun y hy=>?_)
  refine AJ hy (fun k' hy=>?_);have kM:(k.map Ay)[(0:Int).toNat]?=some (Ay y):=by simp_all
  have i5:P=VP d ⟨before,needs,r⟩ x[i] (x.drop (i+1)) (y::k'):=by simp_all
  refine Xi (Ay y) (Yi (Yi Wk kM) (Yi rfl (Yi ?_ ?_)))
  .intro hh;have hh:y.path≠r.path:=hh;refine Yi aa0 ?_;have e:P=([],false):=by rw[i5];show(if _ then _ else _)=_;simp_all
   exact JK.trans (.of_eq (show X6 ([],false)=X6 P by rw[e]))
  intro h5;have h5:¬y.path≠r.path:=h5;have h5:y.path=r.path:=BI.1 h5;refine Xi (Ay y) (Yi (Yi Wk kM) (Yi rfl (Yi ?_ ?_)))
  .intro hh;have hh:y.place≠plc x[i].ver:=hh;refine Yi aa0 ?_;have e:P=([],false):=by rw[i5];show(if _ then _ else _)=_;simp_all
   exact JK.trans (.of_eq (show X6 ([],false)=X6 P by rw[e]))
  intro h6;have h6:¬y.place≠plc x[i].ver:=h6;have h6:y.place=plc x[i].ver:=BI.1 h6;have i6:P=match El d y.inf with | none=>([],false) | some t=>if BG t (before++[Dd x[i]])then CM d ⟨before,needs,r⟩ (x.drop (i+1)) k' else([],false):=by
   rw[i5];show(if _ then _ else _)=_;simp_all
  refine Xi (Ay y) (Yi (Yi Wk kM) (Yi rfl (Yi ?_ ?_)))
  .intro hh;have hh:y.inf<0:=hh;refine Yi aa0 ?_;have e:P=([],false):=by grind [El]
   exact JK.trans (.of_eq (show X6 ([],false)=X6 P by rw[e]))
  intro h7;have h7:¬y.inf<0:=h7;refine Xi (Ay y) (Yi (Yi Wk kM) (Yi rfl (Yi ?_ ?_)))
  .intro hh;have hh:((d.map Ap).length:Int)<=y.inf:=hh;refine Yi aa0 ?_;have e:P=([],false):=by grind [El]
   exact JK.trans (.of_eq (show X6 ([],false)=X6 P by rw[e]))
  intro h8;have h8:¬((d.map Ap).length:Int)<=y.inf:=h8;rw[Lm]at h8;refine Yi aa0 (AJ (show ∃j:Nat,y.inf=j from⟨y.inf.toNat,by omega⟩) (fun j hj=>?_));have tU:j<d.length:=by omega
  have tM:d[j]?=some d[j]:=Ge tU;have wW:El d y.inf=some d[j]:=by grind [El]
  rw[wW]at i6;have i6:P=if BG d[j] (before++[Dd x[i]])then CM d ⟨before,needs,r⟩ (x.drop (i+1)) k' else([],false):=i6
  refine cU [(0,.cptr (B2 x ifs roots d)),(1,sl Ay k),(2,sl Ah before),(3,sl Ac needs),(9,.ref 9 0),(12,vi (plc r.ver)),(15,.ref 15 0),(29,sl Al x),(30,vi (x.map Al).length),(31,vi i)] [(9,.ro (Al r)),(15,.cells (Al x[i]))] Z10 Z2 (Xi 4 (Xi (before.map Ah) (Yi rfl (Yi (nQ before we) (yN ?_)))));have Di:BJ 4 [[vs x[i].path,vi x[i].ver.a,vi x[i].ver.b,vi x[i].ver.c]]/\(before.map Ah).length=(before.map Ah).length/\((before.map Ah).length+[[vs x[i].path,vi x[i].ver.a,vi x[i].ver.b,vi x[i].ver.c]].length)*40<=140737488355328/\(before.map Ah).length+[[vs x[i].path,vi x[i].ver.a,vi x[i].ver.b,vi x[i].ver.c]].length<=9223372036854775807:=
   ⟨⟨rfl,trivial⟩,rfl,by grind,by grind⟩
  refine Yi Di (Yi aa0 (cU [(0,.cptr (B2 x ifs roots d)),(1,sl Ay k),(2,sl Ah before),(3,sl Ac needs),(9,.ref 9 0),(12,vi (plc r.ver)),(18,.slice (.id 19800 4) (before.map Ah++[[vs x[i].path,vi x[i].ver.a,vi x[i].ver.b,vi x[i].ver.c]])),(29,sl Al x),(30,vi (x.map Al).length),(31,vi i)] [(9,.ro (Al r)),(19800,.tok 4 ((before.map Ah).length+[[vs x[i].path,vi x[i].ver.a,vi x[i].ver.b,vi x[i].ver.c]].length))] Z10 Z2 ?_))
  have kJ:PC 188 [sl Am d[j],.slice .none (before.map Ah++[[vs x[i].path,vi x[i].ver.a,vi x[i].ver.b,vi x[i].ver.c]])] (vb (BG d[j] (before++[Dd x[i]]))):=by
   have:=vH d[j] (before++[Dd x[i]]) (ht _ (Ao tU)) (by grind)
   grind [Dd]
  have hgd:(d.map Ap)[y.inf.toNat]?=some (Ap d[j]):=by simp_all
  refine Xi (Ay y) (Yi (Yi Wk kM) (Yi rfl (Xi (Ap d[j]) (Yi (Yi ch hgd) (Yi rfl (Bs (Bt (BG d[j] (before++[Dd x[i]]))) (fun h9=>?_) (fun h9=>?_)))))))
  .rw[h9]at kJ;refine Xi _ (Yi (kJ) (Yi aa0 ?_));rw[A1 h9]at i6;have oz:1<=(k.map Ay).length:=by omega
   refine cU [(0,.cptr (B2 x ifs roots d)),(1,sl Ay k),(2,sl Ah before),(3,sl Ac needs),(9,.ref 9 0),(12,vi (plc r.ver)),(29,sl Al x),(30,vi (x.map Al).length),(31,vi i)] [(9,.ro (Al r))] Z9 Z1 ?_;refine Yi (by grind) (Yi (fun c hc=>by
    obtain⟨z,_,rfl⟩:=Ak.1 hc;rfl) ?_)
   have ek:AV.slice .none (((k.map Ay).take ((k.map Ay).length:Int).toNat).drop (1:Int).toNat)=sl Ay k':=by grind [dK]
   refine cU [(0,.cptr (B2 x ifs roots d)),(1,sl Ay k'),(2,sl Ah before),(3,sl Ac needs),(9,.ref 9 0),(12,vi (plc r.ver)),(29,sl Al x),(30,vi (x.map Al).length),(31,vi i)] [(9,.ro (Al r))] ⟨Zr,⟨ek,rfl⟩,Zr,Zr,Zr,Zr,Zr,Zr,Zr,Tv⟩ Z1 (Yi (Ii i ch) (Xi ⟨(i+1,k'),by omega,i6⟩ ?_));exact⟨by grind,Z9,Z1,Fh,Tv⟩
  .rw[h9]at kJ;refine Xi _ (Yi (kJ) (Yi aa0 ?_));have e:P=([],false):=by simp_all
   exact JK.trans (.of_eq (show X6 ([],false)=X6 P by rw[e]))
 .intro h;have h:¬(i:Int)<(x.map Al).length:=h;have h:¬i<x.length:=by simp_all
  have e:P=(k,true):=by rw[i2,Tg ch];rfl
  exact .of_eq (show X6 (k,true)=X6 P by rw[e])
abbrev sH(a:Bool×List Sk):List (Nat×HO):=[(1000,.cells [sl Ay a.2]),(1001,.cells [vb a.1])]
theorem c46(ifs:AV)(roots:List Rq)(d:List (List Tm))(a:Bool×List Sk)(before:List Sl)(needs:List Rq)(r:Rl)(hx:x.length<=256)(hd:d.length<=65536)(ht:∀t∈d,UO t)(hb:before.length<=1000)(hn:Cr needs)(hq:∀q∈needs,Cr q.set) :
  AW Tryz.prog 109 [sl Ah before,sl Ac needs,.agg (Al r),.cptr [.cptr (B2 x ifs roots d)],.ref 1000 0,.ref 1001 0] (Ae (sH a) Ab) fun v h'=>v=.tup []/\h'=Ae (sH (Cw x d a ⟨before,needs,r⟩)) Ab:=by
 obtain⟨b,k⟩:=a;have hc:=c47 x ifs roots d k before needs r hx hd ht hb hn hq;obtain⟨p,hp⟩:∃p,p=CM d ⟨before,needs,r⟩ x k:=⟨_,rfl⟩;have es:Cw x d (b,k) ⟨before,needs,r⟩=(b&&p.2&&!r.yanked,p.1):=by grind [Cw]
 rw[<-hp]at hc;rw[es];obtain⟨k2,ok⟩:=p;have fin:∀z:Bool,z=(b&&ok&&!r.yanked)->Ae (sH (z,k2)) Ab=Ae (sH (b&&(k2,ok).2&&!r.yanked,(k2,ok).1)) Ab:=fun z hz=>by rw[hz]
 cases ok with
 |false=>
  refine A7 (H5 D0) [(1000,1000),(1001,1001)] rfl Bu hm rfl Tryz.func109 aa0 rfl (Nz rfl) aa0 rfl (yN (Xi .pure (Xi _ (Yi (hc) (Yi ?_ ?_)))))
  .intro h1;refine yN (yN ?_);exact Xi _ (Yi (.refl _) (Yi rfl (fin false (by simp_all))))
  .intro h1;refine yN (yN ?_);exact Xi _ (Yi (.refl _) (Yi rfl (fin false (by simp_all))))
 |true=>
  refine A7 (H5 D0) [(1000,1000),(1001,1001)] rfl Bu hm rfl Tryz.func109 aa0 rfl (Nz rfl) aa0 rfl (yN (Xi .pure (Xi _ (Yi (hc) (Yi ?_ ?_)))))
  .intro h1;have h1:b=true:=h1;refine Yi ?_ ?_
   .intro h2;have h2:r.yanked=true:=h2;refine yN (yN ?_);exact Xi _ (Yi (.refl _) (Yi rfl (fin false (by simp_all))))
   .intro h2;have h2:r.yanked=false:=h2;refine yN (yN ?_);exact Xi _ (Yi (.refl _) (Yi rfl (fin true (by simp_all))))
  .intro h1;have h1:b=false:=h1;refine yN (yN ?_);exact Xi _ (Yi (.refl _) (Yi rfl (fin false (by simp_all))))
end Go.Eng
