/- Lemmas 33. -/
import Derived.Test.YtkjhcikodmiceaaGreatDoorRA32
import Derived.Shelf.Sort.Plain
import Derived.Shelf.Slices.CompactS
import Derived.Ground.NamesProg
set_option maxHeartbeats 4000000
namespace Go.Proofs
open Go.Shelf
def Tryz.laySortStr_ren:Go.Shelf.Ren:=⟨fun | 190=>77 | 125=>146 | 258=>145 | 128=>219 | 129=>220 | 302=>210 | 303=>211 | 304=>212 | 305=>213 | 306=>214 | 307=>215 | 308=>216 | 309=>217 | 310=>218 | 333=>282 | 329=>283 | 330=>284 | 334=>285 | 335=>286 | 336=>252 | 344=>338 | n=>n,fun | 31=>144 | 9=>9 | 3=>3 | 46=>240 | 0=>0 | 51=>299 | 53=>229 | 4=>4 | 183=>309 | 182=>308 | 131=>150 | 5=>5 | 218=>372 | 222=>208 | 228=>408 | 229=>409 | n=>n,fun | n=>n⟩
theorem Tryz.laySortStr:Go.Proofs.Lays.n190 Tryz.prog Tryz.laySortStr_ren:={
 mixed:=by kernel_rfl
 f125:=Go.Eng.A0a Tryz.func146
 f128:=Go.Eng.A0a Tryz.func219
 f129:=Go.Eng.A0a Tryz.func220
 f190:=Go.Eng.A0a Tryz.func77
 f258:=Go.Eng.A0a Tryz.func145
 f302:=Go.Eng.A0a Tryz.func210
 f303:=Go.Eng.A0a Tryz.func211
 f304:=Go.Eng.A0a Tryz.func212
 f305:=Go.Eng.A0a Tryz.func213
 f306:=Go.Eng.A0a Tryz.func214
 f307:=Go.Eng.A0a Tryz.func215
 f308:=Go.Eng.A0a Tryz.func216
 f309:=Go.Eng.A0a Tryz.func217
 f310:=Go.Eng.A0a Tryz.func218
 f329:=Go.Eng.A0a Tryz.func283
 f330:=Go.Eng.A0a Tryz.func284
 f333:=Go.Eng.A0a Tryz.func282
 f334:=Go.Eng.A0a Tryz.func285
 f335:=Go.Eng.A0a Tryz.func286
 f336:=Go.Eng.A0a Tryz.func252
 f344:=Go.Eng.A0a Tryz.func338
 t0:=Tryz.underlying0
 a0:=Tryz.isAgg0
 z0:=Tryz.sizeOf0
 v0:=Tryz.zeroValue0
 t3:=Tryz.underlying3
 a3:=Tryz.isAgg3
 z3:=Tryz.sizeOf3
 v3:=Tryz.zeroValue3
 t4:=Tryz.underlying4
 a4:=Tryz.isAgg4
 z4:=Tryz.sizeOf4
 v4:=Tryz.zeroValue4
 t5:=Tryz.underlying5
 a5:=Tryz.isAgg5
 z5:=Tryz.sizeOf5
 v5:=Tryz.zeroValue5
 t9:=Tryz.underlying9
 a9:=Tryz.isAgg9
 z9:=Tryz.sizeOf9
 v9:=Tryz.zeroValue9
 t31:=Tryz.underlying144
 a31:=Tryz.isAgg144
 z31:=Tryz.sizeOf144
 v31:=Tryz.zeroValue144
 t46:=Tryz.underlying240
 a46:=Tryz.isAgg240
 z46:=Tryz.sizeOf240
 v46:=Tryz.zeroValue240
 t51:=Tryz.underlying299
 a51:=Tryz.isAgg299
 z51:=Tryz.sizeOf299
 v51:=Tryz.zeroValue299
 t53:=Tryz.underlying229
 a53:=Tryz.isAgg229
 z53:=Tryz.sizeOf229
 v53:=Tryz.zeroValue229
 t131:=Tryz.underlying150
 a131:=Tryz.isAgg150
 z131:=Tryz.sizeOf150
 v131:=Tryz.zeroValue150
 t182:=Tryz.underlying308
 a182:=Tryz.isAgg308
 z182:=Tryz.sizeOf308
 v182:=Tryz.zeroValue308
 t183:=Tryz.underlying309
 a183:=Tryz.isAgg309
 z183:=Tryz.sizeOf309
 v183:=Tryz.zeroValue309
 t218:=Tryz.underlying372
 a218:=Tryz.isAgg372
 z218:=Tryz.sizeOf372
 v218:=Tryz.zeroValue372
 t222:=Tryz.underlying208
 a222:=Tryz.isAgg208
 z222:=Tryz.sizeOf208
 v222:=Tryz.zeroValue208
 t228:=Tryz.underlying408
 a228:=Tryz.isAgg408
 z228:=Tryz.sizeOf408
 v228:=Tryz.zeroValue408
 t229:=Tryz.underlying409
 a229:=Tryz.isAgg409
 z229:=Tryz.sizeOf409
 v229:=Tryz.zeroValue409 }
def Tryz.layCompactStr_ren:Go.Shelf.Ren:=⟨fun | 194=>79 | n=>n,fun | 31=>144 | 9=>9 | 3=>3 | 4=>4 | 0=>0 | n=>n,fun | n=>n⟩
theorem Tryz.layCompactStr:Go.Proofs.Lays.n194 Tryz.prog Tryz.layCompactStr_ren:={
 mixed:=by kernel_rfl
 f194:=Go.Eng.A0a Tryz.func79
 t0:=Tryz.underlying0
 a0:=Tryz.isAgg0
 z0:=Tryz.sizeOf0
 v0:=Tryz.zeroValue0
 t3:=Tryz.underlying3
 a3:=Tryz.isAgg3
 z3:=Tryz.sizeOf3
 v3:=Tryz.zeroValue3
 t4:=Tryz.underlying4
 a4:=Tryz.isAgg4
 z4:=Tryz.sizeOf4
 v4:=Tryz.zeroValue4
 t9:=Tryz.underlying9
 a9:=Tryz.isAgg9
 z9:=Tryz.sizeOf9
 v9:=Tryz.zeroValue9
 t31:=Tryz.underlying144
 a31:=Tryz.isAgg144
 z31:=Tryz.sizeOf144
 v31:=Tryz.zeroValue144 }
end Go.Proofs
namespace Go.Eng
open Go.Proofs Go.Shelf Go.RowKit Go.Lib Go.Sort
variable (ss:List ByteArray)(zs:List (List UInt8))(s:ByteArray)
abbrev bu:List UInt8:=s.data.toList
abbrev lc(l:List UInt8):ByteArray:=⟨l.toArray⟩
theorem lG:lc (bu s)=s:=by cases s;simp
theorem Ms:((zs.map lc).map Di).flatten=(zs.map Go.Proofs.encStr).map AV.v:=by
 induction zs with
 |nil=>rfl
 |cons z zs ih=>rw[Bb,Bb,By,ih];rfl
theorem VM:(ss.map bu).map lc=ss:=by
 rw[BI,show lc ∘ bu=id from funext lG,Jk]
theorem zJ(t:List ByteArray)(hl:Cz ss)(CU:ss≠[])(hp:t.Perm ss)(ht:(t.map bu).Pairwise fun a b=>a<=b) :
  Bd Tryz.prog 77 [.msl 1000 ss.length] (Ag [(1000,.arr 1 (ss.map Di))] Ad) fun r h'=>r=.tup []/\h'=Ag [(1000,.arr 1 (t.map Di))] Ad:=by
 have hE:FN Tryz.prog 77:=dI 77 Tryz.func77 aa3 rfl;obtain⟨zs,hz⟩:∃zs,zs=ss.map bu:=⟨_,rfl⟩;have EQ:ss=zs.map lc:=by rw[hz,VM]
 have Ix:=Po (P:=Tryz.prog) (f:=77) (es:=ss.map Di) (sz:=1) (rest:=[]) (Q:=fun Fp=>Fp=t.map Di) hE ?_ ?_
 .rw[Lm]at Ix;refine⟨hE,fun g w vals q1 q2 q3=>(Ix.2 g w vals q1 q2 q3).mono fun _ _ ⟨v,r,h',g',e1,⟨e2,Fp,p1,p3⟩,rest⟩=>⟨v,r,h',g',e1,⟨e2,by rw[p3,p1]⟩,rest⟩⟩
 .intro e;exact absurd (DO.1 e) CU
 .intro g w b cap F hr hF hH hb;have vW:F.toList=zs.map Go.Proofs.encStr:=KN (by rw[<-Ms,<-EQ];exact hr);have oz:F=zs.toArray.map Go.Proofs.encStr:=K7.1 (by rw[vW];simp);have WU:zs.length=ss.length:=by rw[hz,Lm]
  have tc:Holds Go.Proofs.encStr w b 0 zs.toArray:=fun j hj=>by
   have:=hH j (by rw[oz];simpa using hj)
   refine⟨this.1.trans ?_,this.2⟩;rw[oz,NA _ j (by simpa using hj),NA _ j hj];simp
  have hc:=Any.slices_Sort_string Tryz.laySortStr b 0 cap zs w tc hb B0;have htz:(zs.mergeSort fun x y=>decide (x<=y))=t.map bu:=by
   have Iy:(zs.mergeSort fun x y=>decide (x<=y)).Perm zs:=List.mergeSort_perm _ _;have uf:=List.pairwise_mergeSort (le:=fun x y:List UInt8=>decide (x<=y)) (fun a b c h1 h2=>by simp only[AQ]at *;exact List.le_trans h1 h2) (fun a b=>by simp only[Ja,AQ];exact List.le_total a b) zs;refine List.Perm.eq_of_pairwise (le:=fun a b=>a<=b) (fun a b _ _ h k=>List.le_antisymm h k) (uf.imp fun h=>BR h) ht (Iy.trans ?_);rw[hz];exact(hp.map bu).symm
  rw[htz,WU]at hc;rw[Lm];refine hc.mono ?_
  rintro e w' ⟨rfl,n,os,rfl⟩
  have BW:t.length=ss.length:=hp.length_eq;refine⟨rfl,(t.map bu).toArray.map Go.Proofs.encStr,t.map Di,n,os,?_,rfl,by simp[BW],fun cs hcs=>?_,fun g w _=>?_,by rw[P0]⟩
  .rw[oz];simp[BW,WU]
  .obtain⟨x,_,rfl⟩:=Ar.1 hcs;rfl
  .have e1:t.map Di=((t.map bu).map lc).map Di:=by rw[VM]
   rw[e1,Ms];have e:(((t.map bu).toArray.map Go.Proofs.encStr).toList)=(t.map bu).map Go.Proofs.encStr:=aa0
   rw[e];exact MH _ _ _ _ fun x hx=>by
    obtain⟨z,_,rfl⟩:=Ar.1 hx;rfl
def B4:List ByteArray:=(Lib.compact (ss.map bu)).map lc
theorem QE:(Lib.compact zs).length<=zs.length:=by
 unfold Lib.compact Lib.compactUpTo;rw[Lm];exact AO (CL _ _) (by rw[List.length_range];exact Ai _)
theorem zK(hl:Cz ss)(CU:ss≠[]) :
  Bd Tryz.prog 79 [.msl 1000 ss.length] (Ag [(1000,.arr 1 (ss.map Di))] Ad) fun r h'=>r=.msl 2000 (B4 ss).length/\h'=Ag [(1000,.dead),(2000,.arr 1 ((B4 ss).map Di))] Ad:=by
 have hE:FN Tryz.prog 79:=dI 79 Tryz.func79 aa3 rfl;obtain⟨zs,hz⟩:∃zs,zs=ss.map bu:=⟨_,rfl⟩;have EQ:ss=zs.map lc:=by rw[hz,VM]
 have WU:zs.length=ss.length:=by rw[hz,Lm]
 have hcl:=QE zs;have Ix:=Uu (P:=Tryz.prog) (f:=79) (es:=ss.map Di) (sz:=1) (rest:=[]) (n':=(Lib.compact zs).length) (Q:=fun Fp=>Fp=((Lib.compact zs++List.replicate (zs.length-(Lib.compact zs).length) []).map lc).map Di) hE (fun e=>CU (DO.1 e)) (by rw[Lm];omega) ?_
 .rw[Lm]at Ix;have ez:B4 ss=(Lib.compact zs).map lc:=by unfold B4;rw[hz]
  refine⟨hE,fun g w vals q1 q2 q3=>(Ix.2 g w vals q1 q2 q3).mono fun _ _ ⟨x,r,h',g',e1,⟨e2,Fp,p1,p2⟩,rest⟩=>⟨x,r,h',g',e1,⟨by rw[e2,ez,Lm],by
   rw[p2,p1,ez,AG,AG,Lq (by rw[Lm,Lm];exact Ai _),Bj (by rw[Lm,Lm];exact Ai _)]⟩,rest⟩⟩
 .intro g w b cap F hr hF hH hb hc;rw[Lm]at hF hc⊢;have vW:F.toList=zs.map Go.Proofs.encStr:=KN (by rw[<-Ms,<-EQ];exact hr);have oz:F=zs.toArray.map Go.Proofs.encStr:=K7.1 (by rw[vW];simp);have tc:Holds Go.Proofs.encStr w b 0 zs.toArray:=fun j hj=>by
   have:=hH j (by rw[oz];simpa using hj)
   refine⟨this.1.trans ?_,this.2⟩;rw[oz,NA _ j (by simpa using hj),NA _ j hj];simp
  have hcon:=Any.slices_Compact_string Tryz.layCompactStr b 0 cap zs w tc B0 B0;rw[WU]at hcon;refine hcon.mono ?_
  rintro e w' ⟨rfl,q,rfl⟩
  refine⟨rfl,(Lib.compact zs++List.replicate (zs.length-(Lib.compact zs).length) []).toArray.map Go.Proofs.encStr,_,q,#[],?_,rfl,?_,fun cs hcs=>?_,fun g w _=>?_,?_⟩
  .rw[oz];simp;omega
  .simp;omega
  .obtain⟨x,_,rfl⟩:=Ar.1 hcs;rfl
  .rw[Ms];have e:((Lib.compact zs++List.replicate (zs.length-(Lib.compact zs).length) []).toArray.map Go.Proofs.encStr).toList=(Lib.compact zs++List.replicate (zs.length-(Lib.compact zs).length) []).map Go.Proofs.encStr:=aa0
   rw[e];exact MH _ _ _ _ fun x hx=>by
    obtain⟨z,_,rfl⟩:=Ar.1 hx;rfl
  .rw[P0,grow_empty,WU]
end Go.Eng
namespace Go.Eng
open Go.Proofs
variable {i:Nat}(l:List Sl)(p:ByteArray)(m:List Sl)
structure Mv where
 path:ByteArray
 a:Int
 b:Int
abbrev FQ(m:Mv):List AV:=[vs m.path,vi m.a,vi m.b]
abbrev plP(s:Sl):Value×AV:=(.string s.path,vi (place s.ver))
abbrev JJ:List (Value×AV):=l.map plP
def Q0:Int:=match BD l p with | some s=>place s.ver | none=>-1
def Wt(p:ByteArray):Option Mv:=if Q0 l p≠Q0 m p then some ⟨p,Q0 l p,Q0 m p⟩else none
abbrev L3(ps:List ByteArray):List Mv:=ps.filterMap (Wt l m)
structure MS(l:List Sl):Prop where
 few:Cz l
 val:∀s∈l,Ct s.ver=true
 inc:l.Pairwise uo
theorem MS.step{l:List Sl}(h:MS l)(hi:i<l.length)(h0:0<i):E0 (l[i-1]' B0).path l[i].path=true:=(BT.1 h.inc) (i-1) i B0 hi B0
theorem jV{l:List Sl}(h:MS l)(hi:i<l.length):∀b,(Value.string l[i].path,b)∉JJ (l.take i):=fun b hb=>by
 obtain⟨s,hs,e⟩:=Ar.1 hb;obtain⟨j,hj,rfl⟩:=CY.1 hs;rw[List.getElem_take]at e;rw[Bv]at hj;have q:=(BT.1 h.inc) j i B0 hi B0;have e2:l[j].path=l[i].path:=by injection e with e1;injection e1
 rw[uo,e2,CO]at q;cases q
theorem qV{l:List Sl}(h:MS l){p:ByteArray}{a:AV}(ha:(Value.string p,a)∈JJ l):a=vi (Q0 l p):=by
 obtain⟨s,hs,e⟩:=Ar.1 ha;have e1:s.path=p:=by injection e with e1;injection e1
 have e2:vi (place s.ver)=a:=by injection e
 rw[<-e2];unfold Q0;rw[<-e1,Nv (eQ ocP h.inc) hs]
theorem qW{l:List Sl}{p:ByteArray}(h:∀a,(Value.string p,a)∉JJ l):Q0 l p=-1:=by
 unfold Q0;rw[show BD l p=none from NZ.2 fun s hs e=>h _ (Ar.2 ⟨s,hs,by rw[<-BR e]⟩)]
theorem cj{l m:List Sl}{ps:List ByteArray}{k:Nat}(h:k<ps.length):L3 l m (ps.take (k+1))=L3 l m (ps.take k)++(Wt l m ps[k]).toList:=by
 unfold L3;rw[MK h,List.filterMap_append]
 congr 1
theorem ux(hl:MS l):Bd Tryz.prog 75 [sl Al l] (Ag [] Ad) fun r h'=>r=.tup [.mref 2000,vb true]/\h'=Ag [(2000,.map Cc (JJ l))] Ad:=by
 have hfl:l.length<=1073741824:=hl.few;refine Bm (IF Ea) [(9,2000)] rfl BB hm rfl Tryz.func75 aa3 rfl (Nz rfl) aa3 rfl (Xi {q:Nat // q<=l.length} (Xi (fun q=>⟨[(0,sl Al l),(4,.mref 9),(10,sl Al l),(11,vi (l.map Al).length),(12,vi q.1)],[(9,.map Cc (JJ (l.take q.1)))],Ad⟩) (Xi (fun q=>l.length-q.1) (Yi (Xi ⟨0,Ao _⟩ ?_) ?_))))
 .exact⟨Z5,Z1,Fh,Bp aa3⟩
 intro⟨i,i1⟩;refine Yi (fun h1=>?_) (fun h1=>?_)
 .have h1:(i:Int)<((l.map Al).length:Int):=h1;have n1:=IN h1;refine Xi (Al l[i]) (Yi (LX n1) (Yi rfl (yN (yN (yN (Xi .pure (Xi _ (Yi (by have q:=pX l[i].ver;rw[As (hl.val _ (Am n1)),As (hl.val _ (Am n1))]at q;exact q) ?_))))))));refine Yi (fun h=>absurd h aa2) (fun _=>?_);refine Yi (fun h2=>?_) (fun h2=>?_)
  .have h2:(0:Int)<(i:Int):=h2;refine Yi (by show A8 ((i:Int)-(1:Int));unfold A8;omega) ?_;have yQ:0<i:=B0
   refine Xi (Al (l[i-1])) (Yi (Yi (show(0:Int)<=(i:Int)-1 by omega) (by rw[show((i:Int)-1).toNat=i-1 by omega];exact Fj (Ge B0))) (Yi rfl ?_));refine Yi (fun h3=>?_) (fun h3=>?_)
   .have h3:E0 (l[i-1]).path l[i].path=false:=(Gw _ _).trans h3;exact absurd (hl.step n1 yQ) (by rw[h3];decide)
   refine Yi aa3 (Yi (Ii i B0) (Xi ⟨i+1,n1⟩ ?_));exact⟨Dl l.length i B0,Z5,⟨⟨(show HO.map Cc (EF (JJ (l.take i)) (.string l[i].path) (vi (place l[i].ver)))=.map Cc (JJ (l.take (i+1))) by rw[J6 (jV hl n1),MK n1];unfold JJ;rw[AG];rfl),rfl⟩,Tv⟩,Fh,Bp aa3⟩
  refine Yi aa3 (Yi (Ii i B0) (Xi ⟨i+1,n1⟩ ?_));exact⟨Dl l.length i B0,Z5,⟨⟨(show HO.map Cc (EF (JJ (l.take i)) (.string l[i].path) (vi (place l[i].ver)))=.map Cc (JJ (l.take (i+1))) by rw[J6 (jV hl n1),MK n1];unfold JJ;rw[AG];rfl),rfl⟩,Tv⟩,Fh,Bp aa3⟩
 have h1:¬((i:Int)<((l.map Al).length:Int)):=h1;have n1:=FH h1;have ei:l.take i=l:=Bj (by have q:=h1;rw[Lm]at q;omega);exact Xi _ (Yi (.refl _) ⟨rfl,show Ag [(2000,HO.map Cc (JJ (l.take i)))] Ad=Ag [(2000,.map Cc (JJ l))] Ad by rw[ei]⟩)
theorem uy(hl:MS l):PC 78 [.cmap Cc (JJ l),vs p] (vi (Q0 l p)):=by
 refine Ps Ea Tryz.func78 rfl (Nz rfl) (Yi (fun a ha=>?_) (fun OF=>?_))
 .have ea:=qV hl ha;subst ea;exact .refl _
 exact .of_eq (show vi (-1)=vi (Q0 l p) by rw[qW OF])
theorem o75(t:List ByteArray)(hl:MS l)(hm2:MS m)(hfs:l.length+m.length<=1073741824)(CU:l++m≠[])(hp:t.Perm ((l++m).map (·.path)))(ht:(t.map bu).Pairwise fun a b=>a<=b):PC 34 [sl Al l,sl Al m] (.tup [sl FQ (L3 l m (B4 t)),vi 0]):=by
 obtain⟨LM,qg⟩:∃LM,LM=l++m:=⟨_,rfl⟩;have hm:=hm2;rw[<-qg]at hp;have hLl:LM.length=l.length+m.length:=by rw[qg,Aa]
 refine CV (T4 ⟨[],[(14,3)],[(10,1)],[(34,[12000,12500])],[],[],[],[],[],[],[6,7,8,9,11,13,14,15,16,17,18,19,21]⟩) rfl BB Go.Eng.hm rfl Tryz.func34 aa3 rfl (Nz rfl) aa3 (Xi (.gen [] 1) (Yi rfl (Bd.to2 (ux l hl) ?_)));refine Xi (.gen [] 1) (Yi rfl (Bd.to2 (ux m hm) ?_));refine cU [(0,sl Al l),(1,sl Al m),(6,.mref 12000),(8,.mref 12500),(10,.msl 10 0)] [(10,.arr 1 []),(12000,.map Cc (JJ l)),(12500,.map Cc (JJ m))] Z5 Z3 (Xi (.gen [] 1) (Yi rfl (Bd.to2 (pW l hl.few) ?_)));have b4:BX 4 (m.map Al)/\(l.map Al).length=(l.map Al).length/\((l.map Al).length+(m.map Al).length)*40<=140737488355328/\(l.map Al).length+(m.map Al).length<=9223372036854775807:=⟨(DK (enc:=Al) (n:=4) (fun _=>rfl) m),rfl,(by simp only[Lm];omega),(by simp only[Lm];omega)⟩;refine Yi b4 (Xi {q:Nat×List ByteArray // q.1<=LM.length/\q.2=(LM.take q.1).map (·.path)} (Xi (fun q=>⟨[(6,.mref 12000),(8,.mref 12500),(10,.msl 10 q.1.2.length),(37,.slice (.id 13500 4) (LM.map Al)),(38,vi (LM.length:Nat)),(39,vi q.1.1)],[(10,.arr 1 (q.1.2.map Di)),(12000,.rom Cc (JJ l)),(12500,.rom Cc (JJ m)),(13500,.tok 4 LM.length)],Ad⟩) (Xi (fun q=>LM.length-q.1.1) (Yi (Xi ⟨(0,[]),Ao _,rfl⟩ ?_) ?_))))
 .exact⟨⟨Zr,Zr,Zr,⟨(show AV.slice (.id 13500 4) (l.map Al++m.map Al)=.slice (.id 13500 4) (LM.map Al) by rw[qg,AG]),rfl⟩,⟨(show vi ((l.map Al++m.map Al:List (List AV)).length:Int)=vi ((LM.length:Nat):Int) by rw[qg,Aa,Aa,Lm,Lm]),rfl⟩,Zr,Tv⟩,⟨Zr,Zr,Zr,⟨(show HO.tok 4 ((l.map Al).length+(m.map Al).length)=.tok 4 LM.length by rw[qg,Aa,Lm,Lm]),rfl⟩,Tv⟩,Fh,Tv⟩
 intro⟨⟨i,P⟩,i1,i2⟩;have i2:P=(LM.take i).map (·.path):=i2;have i3:P.length<=i:=by rw[i2,Lm,Bv];omega
 refine cU [(6,.mref 12000),(8,.mref 12500),(10,.msl 10 P.length),(37,.slice (.id 13500 4) (LM.map Al)),(38,vi (LM.length:Nat)),(39,vi i)] [(10,.arr 1 (P.map Di)),(12000,.rom Cc (JJ l)),(12500,.rom Cc (JJ m)),(13500,.tok 4 LM.length)] Z6 Z4 (Yi (fun h5=>?_) (fun h5=>?_))
 .have n5:i<LM.length:=B0
  refine cU [(6,.mref 12000),(8,.mref 12500),(10,.msl 10 P.length),(37,.slice (.id 13500 4) (LM.map Al)),(38,vi (LM.length:Nat)),(39,vi i)] [(10,.arr 1 (P.map Di)),(12000,.rom Cc (JJ l)),(12500,.rom Cc (JJ m)),(13500,.tok 4 LM.length)] Z6 Z4 (Xi (Al LM[i]) (Yi (LX n5) (Yi rfl (yN (yN (cU [(6,.mref 12000),(8,.mref 12500),(10,.msl 10 P.length),(12,.ref 12 0),(37,.slice (.id 13500 4) (LM.map Al)),(38,vi (LM.length:Nat)),(39,vi i)] [(10,.arr 1 (P.map Di)),(12,.cells (Al LM[i])),(12000,.rom Cc (JJ l)),(12500,.rom Cc (JJ m)),(13500,.tok 4 LM.length)] Z7 Z5 ?_))))))
  have b6:BX 1 [[vs LM[i].path]]/\(P.map Di).length=P.length/\((P.map Di).length+([[vs LM[i].path]]:List (List AV)).length)*16<=140737488355328/\(P.map Di).length+([[vs LM[i].path]]:List (List AV)).length<=9223372036854775807:=⟨⟨rfl,trivial⟩,(by rw[Lm]),(by simp only[Lm,AF,A0];omega),(by simp only[Lm,AF,A0];omega)⟩;refine Yi b6 (Yi (Ii i B0) (Xi ⟨(i+1,P++[LM[i].path]),n5,by show P++[LM[i].path]=_;rw[MK n5,AG,i2];rfl⟩ ?_));exact⟨Dl LM.length i B0,⟨Zr,Zr,⟨(show AV.msl 10 ((P.map Di).length+([[vs LM[i].path]]:List (List AV)).length)=.msl 10 (P++[LM[i].path]).length by rw[Aa,Lm];rfl),rfl⟩,Zr,Zr,Zr,Tv⟩,⟨⟨(show HO.arr 1 (P.map Di++[[vs LM[i].path]])=.arr 1 ((P++[LM[i].path]).map Di) by rw[AG];rfl),rfl⟩,Zr,Zr,Zr,Tv⟩,Fh,Tv⟩
 have vX:P=LM.map (·.path):=by rw[i2,Bj (by have q:=h5;omega)]
 have hPf:Cz P:=by unfold Cz;rw[vX,Lm,qg,Aa];exact hfs
 have hPn:P≠[]:=fun e=>by rw[vX]at e;exact CU (by rw[<-qg];exact DO.1 e)
 have yg:t.length=P.length:=by rw[vX];exact hp.length_eq
 have wz:t.length<=1073741824:=by rw[yg];exact hPf
 have zC:t≠[]:=fun e=>hPn (AU (by rw[<-yg,e];rfl));have hcl:(B4 t).length<=t.length:=by unfold B4;rw[Lm];exact AO (QE _) (by rw[Lm];exact Ai _)
 refine cU [(6,.mref 12000),(8,.mref 12500),(10,.msl 10 P.length)] [(10,.arr 1 (P.map Di)),(12000,.rom Cc (JJ l)),(12500,.rom Cc (JJ m))] Z3 Z3 (Xi (.gen [(10,1000)] 0) (Yi rfl (Bd.to2 (zJ P t hPf hPn (by rw[vX];exact hp) ht) ?_)));refine cU [(6,.mref 12000),(8,.mref 12500),(10,.msl 10 P.length),(13,.v (.func (.func 78) #[] #[]))] [(10,.arr 1 (t.map Di)),(12000,.rom Cc (JJ l)),(12500,.rom Cc (JJ m))] Z4 Z3 (cU [(6,.mref 12000),(8,.mref 12500),(10,.msl 10 t.length),(13,.v (.func (.func 78) #[] #[])),(14,.slice (.id 14 3) [])] [(10,.arr 1 (t.map Di)),(14,.tok 3 0),(12000,.rom Cc (JJ l)),(12500,.rom Cc (JJ m))] ⟨Zr,Zr,⟨(Ab (AV.msl 10) yg.symm),rfl⟩,Zr,Zr,Tv⟩ Z4 (Xi (.gen [(10,1000)] 1) (Yi rfl (Bd.to2 (zK t (by unfold Cz;omega) zC) ?_))));refine Xi {q:Nat×List Mv // q.1<=(B4 t).length/\q.2=L3 l m ((B4 t).take q.1)} (Xi (fun q=>⟨[(6,.mref 12000),(8,.mref 12500),(13,.v (.func (.func 78) #[] #[])),(14,.slice (.id 14 3) (q.1.2.map FQ)),(52,.msl 15200 (B4 t).length),(53,vi (B4 t).length),(54,vi q.1.1)],[(14,.tok 3 q.1.2.length),(12000,.rom Cc (JJ l)),(12500,.rom Cc (JJ m)),(15200,.arr 1 ((B4 t).map Di))],Ad⟩) (Xi (fun q=>(B4 t).length-q.1.1) (Yi (Xi ⟨(0,[]),Ao _,rfl⟩ ?_) ?_)))
 .exact⟨Z7,Z4,Fh,Tv⟩
 intro⟨⟨k,O⟩,k1,k2⟩;have k2:O=L3 l m ((B4 t).take k):=k2;have k3:O.length<=k:=by rw[k2];exact AO (List.length_filterMap_le ..) (by rw[Bv];omega)
 refine cU [(6,.mref 12000),(8,.mref 12500),(13,.v (.func (.func 78) #[] #[])),(14,.slice (.id 14 3) (O.map FQ)),(52,.msl 15200 (B4 t).length),(53,vi (B4 t).length),(54,vi k)] [(14,.tok 3 O.length),(12000,.rom Cc (JJ l)),(12500,.rom Cc (JJ m)),(15200,.arr 1 ((B4 t).map Di))] Z7 Z4 (Yi (fun Oz=>?_) (fun Oz=>?_))
 .have nb:k<(B4 t).length:=B0
  have n10:=nb;have gb:(B4 t)[k]?=some (B4 t)[k]:=Ge nb;refine cU [(6,.mref 12000),(8,.mref 12500),(13,.v (.func (.func 78) #[] #[])),(14,.slice (.id 14 3) (O.map FQ)),(52,.msl 15200 (B4 t).length),(53,vi (B4 t).length),(54,vi k)] [(14,.tok 3 O.length),(12000,.rom Cc (JJ l)),(12500,.rom Cc (JJ m)),(15200,.arr 1 ((B4 t).map Di))] Z7 Z4 (Yi (by show(0:Int)<=k/\(k:Int)<((B4 t).length:Nat);omega) (Yi (show(B4 t).length=((B4 t).map Di).length by rw[Lm]) (Xi (Di ((B4 t)[k])) (Yi (Fj gb) (cU [(6,.mref 12000),(8,.mref 12500),(13,.v (.func (.func 78) #[] #[])),(14,.slice (.id 14 3) (O.map FQ)),(16,vs ((B4 t)[k])),(52,.msl 15200 (B4 t).length),(53,vi (B4 t).length),(54,vi k)] [(14,.tok 3 O.length),(12000,.rom Cc (JJ l)),(12500,.rom Cc (JJ m)),(15200,.arr 1 ((B4 t).map Di))] Z8 Z4 (Xi .pure (Xi _ (Yi (uy l (B4 t)[k] hl) (Xi .pure (Xi _ (Yi (uy m (B4 t)[k] hm) (yN (cU [(6,.mref 12000),(8,.mref 12500),(13,.v (.func (.func 78) #[] #[])),(14,.slice (.id 14 3) (O.map FQ)),(17,.ref 17 0),(52,.msl 15200 (B4 t).length),(53,vi (B4 t).length),(54,vi k)] [(14,.tok 3 O.length),(17,.cells [vs ((B4 t)[k]),vi (Q0 l (B4 t)[k]),vi (Q0 m (B4 t)[k])]),(12000,.rom Cc (JJ l)),(12500,.rom Cc (JJ m)),(15200,.arr 1 ((B4 t).map Di))] Z8 Z5 (Yi (fun IS=>?_) (fun IS=>?_)))))))))))))))
  .refine cU [(6,.mref 12000),(8,.mref 12500),(13,.v (.func (.func 78) #[] #[])),(14,.slice (.id 14 3) (O.map FQ)),(17,.ref 17 0),(52,.msl 15200 (B4 t).length),(53,vi (B4 t).length),(54,vi k)] [(14,.tok 3 O.length),(17,.cells [vs ((B4 t)[k]),vi (Q0 l (B4 t)[k]),vi (Q0 m (B4 t)[k])]),(12000,.rom Cc (JJ l)),(12500,.rom Cc (JJ m)),(15200,.arr 1 ((B4 t).map Di))] Z8 Z5 (yN (Yi (Zm rfl B0 aa2) (Yi (Ii k B0) ?_)));have eO:=cj (l:=l) (m:=m) n10;have eM:Wt l m (B4 t)[k]=some ⟨(B4 t)[k],(Q0 l (B4 t)[k]),(Q0 m (B4 t)[k])⟩:=As IS;rw[eM]at eO;refine Xi ⟨(k+1,(O++[(⟨(B4 t)[k],(Q0 l (B4 t)[k]),(Q0 m (B4 t)[k])⟩:Mv)])),n10,by show(O++[(⟨(B4 t)[k],(Q0 l (B4 t)[k]),(Q0 m (B4 t)[k])⟩:Mv)])=_;rw[eO,k2];rfl⟩ ?_;exact⟨by show(B4 t).length-(k+1)<(B4 t).length-k;omega,⟨Zr,Zr,Zr,⟨(show AV.slice (.id 14 3) (O.map FQ++[[vs (B4 t)[k],vi (Q0 l (B4 t)[k]),vi (Q0 m (B4 t)[k])]])=.slice (.id 14 3) ((O++[(⟨(B4 t)[k],(Q0 l (B4 t)[k]),(Q0 m (B4 t)[k])⟩:Mv)]).map FQ) by rw[AG];rfl),rfl⟩,Zr,Zr,Zr,Tv⟩,⟨⟨hkA,rfl⟩,Zr,Zr,Zr,Tv⟩,Fh,Tv⟩
  have IS:((Q0 l (B4 t)[k]):Int)=((Q0 m (B4 t)[k]):Int):=AY IS;refine Yi (Ii k B0) ?_;have eO:=cj (l:=l) (m:=m) n10;have eM:Wt l m (B4 t)[k]=none:=AB (fun c=>c IS);rw[eM]at eO;rw[show(none:Option Mv).toList=[]from rfl,B5]at eO;refine Xi ⟨(k+1,O),n10,by show O=_;rw[eO,k2]⟩ ?_;exact⟨by show(B4 t).length-(k+1)<(B4 t).length-k;omega,Z7,Z4,Fh,Tv⟩
 refine cU [(14,.slice (.id 14 3) (O.map FQ))] [(14,.tok 3 O.length)] Z1 Z1 ?_
 have ek:(B4 t).take k=B4 t:=Bj B0;have eO:O=L3 l m (B4 t):=by rw[k2,ek]
 exact .of_eq (Ab (fun z=>AV.tup [sl FQ z,vi 0]) eO)
instance:DecidableEq Mv:=fun x y=>decidable_of_iff (x.path=y.path/\x.a=y.a/\x.b=y.b) ⟨fun⟨h1,h2,h3⟩=>by cases x;cases y;simp_all,fun h=>by subst h;exact⟨rfl,rfl,rfl⟩⟩
theorem uu{a b:Mv}(h:a.path=b.path/\a.a=b.a/\a.b=b.b/\True):a=b:=by cases a;cases b;simp_all
theorem uv{a b:Mv}(h:¬(a.path=b.path/\a.a=b.a/\a.b=b.b/\True)):a≠b:=fun e=>h (by subst e;exact⟨rfl,rfl,rfl,trivial⟩)
theorem o35(a b:List Mv)(ha:Cz a):PC 35 [sl FQ a,sl FQ b] (vb (decide (a=b))):=by
 have yn:a.length<=1073741824:=ha;refine Ps Ea Tryz.func35 rfl (Nz rfl) (Yi (fun h1=>?_) (fun h1=>?_))
 .exact .of_eq (show vb false=vb (decide (a=b)) by rw[Au (fun e=>absurd (Ab (fun z=>((z.map FQ).length:Int)) e) h1)])
 have h1:((a.map FQ).length:Int)=((b.map FQ).length:Int):=AY h1;have hl:a.length=b.length:=by have q:=h1;rw[Lm,Lm]at q;omega
 refine Xi {q:Nat // q<=a.length/\∀j (hj:j<a.length),j<q->a[j]=b[j]'(hl▸hj)} (Xi (fun q=>⟨[(0,sl FQ a),(1,sl FQ b),(12,vi (a.map FQ).length),(13,vi q.1)],[],Ad⟩) (Xi (fun q=>a.length-q.1) (Yi (Xi ⟨0,Ao _,fun _ _ h=>absurd h (CR _)⟩ ?_) ?_)))
 .exact⟨Z4,Tv,Fh,Tv⟩
 intro⟨i,i1,i2⟩;refine Yi (fun h3=>?_) (fun h3=>?_)
 .have h3:(i:Int)<((a.map FQ).length:Int):=h3;have n3:=IN h3;have qq:i<b.length:=by have q:=h3;rw[Lm]at q;omega
  refine Xi (FQ a[i]) (Yi (LX n3) (Yi rfl (yN (Xi (FQ b[i]) (Yi (LX qq) (Yi rfl (yN (Yi (fun h4=>?_) (fun h4=>?_)))))))))
  .refine Yi aa3 (Yi (Ii i B0) ?_);refine Xi ⟨i+1,n3,fun j hj JY=>if e:j<i then i2 j hj e else by
     have e:j=i:=B0
     subst e;exact uu h4⟩ ?_
   exact⟨Dl a.length i B0,Z4,Tv,Fh,Tv⟩
  refine Yi aa3 ?_;exact .of_eq (show vb false=vb (decide (a=b)) by rw[Au (gM (i:=i) (ha:=n3) (hb:=qq) (uv h4))])
 have h3:¬((i:Int)<((a.map FQ).length:Int)):=h3;have n3:=FH h3;exact .of_eq (show vb true=vb (decide (a=b)) by rw[Ay (cd hl fun j hj=>i2 j hj (by have q:=h3;rw[Lm]at q;omega))])
abbrev pa:ByteArray:=⟨#[97,47,118,49]⟩
abbrev pb:ByteArray:=⟨#[98,47,118,49]⟩
abbrev oa(m:Int):Ver:=⟨1,m,0⟩
abbrev fU(m:Int)(q:List Rq)(y:Bool):Rl:=⟨p,oa m,q,mt,mt,mt,y⟩
abbrev q40:List Rq:=[⟨pb,[(1000,1000000)]⟩]
abbrev Pi:List Rl:=[fU pa 0 q40 false,fU pb 0 [] false,fU pb 1 [] false,fU pb 2 [] true]
abbrev OZ:List Rq:=[⟨pa,[(0,1000000)]⟩]
abbrev a40:List Sl:=[⟨pa,oa 0⟩,⟨pb,oa 1⟩]
theorem sV:∀r∈Pi,IX r:=
 Bo.2 ⟨⟨by decide,by decide⟩,Bo.2 ⟨⟨by decide,by decide⟩,Bo.2 ⟨⟨by decide,by decide⟩,Bo.2 ⟨⟨by decide,by decide⟩,Co _⟩⟩⟩⟩
abbrev jB:AV:=nzA
abbrev cH(b:Int)(y:Bool):List AV:=[vs p,vi 1,vi b,vi 0,jB,vs mt,vs mt,vs mt,vb y]
abbrev rz:List AV:=[.slice .none [At (fU pa 0 q40 false),cH pb 0 false,cH pb 1 false,cH pb 2 true],jB]
theorem cY:DW (.agg rz) (PK Pi []):=
 have h (p:ByteArray) (b:Int) (y:Bool):Lg (cH p b y) (At (fU p b [] y)):=⟨.refl _,.refl _,.refl _,.refl _,.nil,.refl _,.refl _,.refl _,.refl _,trivial⟩
 DW.agg ⟨DW.slice ⟨.refl _,h pb 0 false,h pb 1 false,h pb 2 true,trivial⟩,.nil,trivial⟩
theorem nV(m:Int)(h:m=1\/m=2):MS [⟨pa,oa 0⟩,⟨pb,oa m⟩]:=by
 rcases h with rfl | rfl
 .exact⟨by decide,Bo.2 ⟨by decide,Bo.2 ⟨by decide,Co _⟩⟩,.cons (Bo.2 ⟨by show E0 pa pb=true;kernel_rfl,Co _⟩) (.cons (Co _) .nil)⟩
 .exact⟨by decide,Bo.2 ⟨by decide,Bo.2 ⟨by decide,Co _⟩⟩,.cons (Bo.2 ⟨by show E0 pa pb=true;kernel_rfl,Co _⟩) (.cons (Co _) .nil)⟩
end Go.Eng
namespace Go.Eng
/-! The empty workspace, and a workspace twice. -/
/-! What is merged. -/
/-! What a workspace makes of an index. -/
/-! What the solver selects. -/
/-! Releases whose names satisfy p get Yanked. -/
end Go.Eng
namespace Go.Eng
open Go.Proofs
variable (l:Lk)(s:ByteArray)
theorem qO{x:List Rl}{roots:List Rq}(hx:x.length<=16)(h:YE x roots=0):HR x roots=0/\kw x roots=(DE x roots).sel/\(∀y∈(DE x roots).sel,(BL x y).isSome=true)/\(DE x roots).sel.length<=16:=by
 have hv:Fm x roots=true:=by
  cases e:Fm x roots with
  |true=>rfl
  |false=>
   have q:HR x roots=1:=by unfold HR;rw[AB (by rw[e];exact Bool.false_ne_true)]
   unfold YE at h;rw[q,As aa2]at h;cases h
 obtain⟨h0,hr⟩:=Zh hv;have hA:=gc hv hx;have hf:(DE x roots).found=true:=by
  unfold YE at h;split at h
  .rename_i c;exact absurd h c
  .split at h
   .assumption
   .cases h
 have hc:=ZA h0 hr (NT (roots:=roots) hx);rw[<-hA]at hc;obtain⟨_,c1 | ⟨_,⟨l,hR⟩,_,_⟩⟩:=dz hc
 .rw[hf]at c1;exact absurd c1.1 aa2
 have SV:=Hx hR.sol0.sel;have hI:Ua (DE x roots).sel:=(I1 hR.sol0.inc).1;have hn:(DE x roots).sel.Nodup:=hI.imp fun {a b} h e=>by subst e;rw[CO]at h;cases h
 refine⟨Za hv hx,by unfold kw;rw[As h],fun y hy=>by obtain⟨r,_,e⟩:=SV.2.2 y hy;rw[e];rfl,AO (Da (m:=x.map DJ) hn fun y hy=>?_) (by rw[Lm];exact hx)⟩;obtain⟨r,_,e⟩:=SV.2.2 y hy;exact Ar.2 ⟨r,(EE e).2.1,(EE e).2.2⟩
abbrev jQ:ByteArray:=⟨#[99,47,118,49]⟩
abbrev e39:List Lo:=[⟨pa,oa 0,mt,mt⟩,⟨pb,oa 1,mt,mt⟩]
abbrev zL:List Sl:=[⟨pa,oa 0⟩,⟨jQ,oa 2⟩]
abbrev wG:List Mv:=[⟨pb,1000,-1⟩,⟨jQ,-1,2000⟩]
abbrev rY:Lk:=⟨OZ,e39,(DE Pi OZ).infs,(DE Pi OZ).skips⟩
theorem qL:zG Pi OZ (DE Pi OZ)=rY:=Ab (fun e=>Lk.mk OZ e (DE Pi OZ).infs (DE Pi OZ).skips) (show(DE Pi OZ).sel.map (Iw Pi)=e39 by kernel_rfl)
theorem sU:MR rY:=⟨by kernel_rfl,by kernel_rfl,by kernel_rfl,by kernel_rfl,by decide,Ak aa3,Ak aa3⟩
theorem nU:MS zL:=
 ⟨by decide,Bo.2 ⟨by decide,Bo.2 ⟨by decide,Co _⟩⟩,.cons (Bo.2 ⟨by show E0 pa jQ=true;kernel_rfl,Co _⟩) (.cons (Co _) .nil)⟩
theorem rA(m:Int):PC 33 [vi m] (.agg [vi 1,vi m,vi 0]):=by
 refine Ps Ea Tryz.func33 rfl (Nz rfl) (yN (yN ?_));exact .refl _
theorem od  : PC 9 [] (vb true):=by
 have hq:∀q∈OZ,Jz q:=Bo.2 ⟨⟨by decide,by decide⟩,Co _⟩;have jb:∀r∈Pi,Cz r.reqs:=Bo.2 ⟨by decide,Bo.2 ⟨by decide,Bo.2 ⟨by decide,Bo.2 ⟨by decide,Co _⟩⟩⟩⟩;have L:c8 Pi OZ:=⟨by decide,by decide,fun r hr=>⟨jb r hr,sV r hr⟩,hq⟩;have hx:Pi.length<=16:=aa2
 have hs:(Qi Pi 16&&D8 OZ)=true:=by kernel_rfl
 have c0:YE Pi OZ=0:=by kernel_rfl
 obtain⟨u1,u2,u3,u4⟩:=qO hx c0;have k19:=s16 Pi [] OZ L.x L.rq;rw[c0]at k19;have k38:PC 38 [PK Pi [],sl Af OZ] (.tup [.agg (JT (DE Pi OZ)),vi 0]):=by have q:=s21 Pi [] OZ L.x L.rq;unfold aZ at q;rw[u1]at q;exact q
 have k11:=(vG Pi [] OZ (DE Pi OZ) _ k19 k38 (fun p v=>xO Pi [] p v (L.c84 []) L.x) u3 (fun q hq=>(L.rq q hq).1) (lY hs) B0).args (args':=[.agg rz,sl Af OZ]) ⟨cY,.refl _,trivial⟩;rw[qL]at k11;have k18:=(uj (ifs:=[]) (l:=rY) L hs sU).args (args':=[.agg rz,.agg (BH rY)]) ⟨cY,.refl _,trivial⟩;rw[show gt Pi rY=0 by kernel_rfl]at k18;have k20:=ph rY aa2;have k34:=o75 a40 zL [pa,pa,pb,jQ] (nV 1 (.inl rfl)) nU aa2 aa2 (.cons _ (.swap _ _ _)) aa2;rw[show L3 a40 zL (B4 [pa,pa,pb,jQ])=wG by kernel_rfl]at k34;have k35:=o35 wG wG aa2;rw[Ay rfl]at k35;refine Ps (pC [3,4] [4,5,7,8]) Tryz.func9 rfl (Nz rfl) (Xi .pure (Xi _ (Yi (rA 0) (Xi .pure (Xi _ (Yi (rA 0) (Xi .pure (Xi _ (Yi (rA 1) (Xi .pure (Xi _ (Yi (rA 2) (yN (cU [(1,.v (.func (.func 33) #[] #[])),(3,.ref 3 0)] [(3,.ro [.slice .none [[vs ⟨#[97,47,118,49]⟩,vi 1,vi 0,vi 0,.slice .none [[vs ⟨#[98,47,118,49]⟩,.slice .none [[vi 1000,vi 1000000]]]],vs ⟨#[]⟩,vs ⟨#[]⟩,vs ⟨#[]⟩,vb false],[vs ⟨#[98,47,118,49]⟩,vi 1,vi 0,vi 0,nzA,vs ⟨#[]⟩,vs ⟨#[]⟩,vs ⟨#[]⟩,vb false],[vs ⟨#[98,47,118,49]⟩,vi 1,vi 1,vi 0,nzA,vs ⟨#[]⟩,vs ⟨#[]⟩,vs ⟨#[]⟩,vb false],[vs ⟨#[98,47,118,49]⟩,vi 1,vi 2,vi 0,nzA,vs ⟨#[]⟩,vs ⟨#[]⟩,vs ⟨#[]⟩,vb true]],nzA])] Z2 Z1 (yN (Xi .pure (Xi _ (Yi k11 (yN (cU [(1,.v (.func (.func 33) #[] #[])),(3,.ref 3 0),(4,.ref 4 0),(5,vi 0)] [(3,.ro [.slice .none [[vs ⟨#[97,47,118,49]⟩,vi 1,vi 0,vi 0,.slice .none [[vs ⟨#[98,47,118,49]⟩,.slice .none [[vi 1000,vi 1000000]]]],vs ⟨#[]⟩,vs ⟨#[]⟩,vs ⟨#[]⟩,vb false],[vs ⟨#[98,47,118,49]⟩,vi 1,vi 0,vi 0,nzA,vs ⟨#[]⟩,vs ⟨#[]⟩,vs ⟨#[]⟩,vb false],[vs ⟨#[98,47,118,49]⟩,vi 1,vi 1,vi 0,nzA,vs ⟨#[]⟩,vs ⟨#[]⟩,vs ⟨#[]⟩,vb false],[vs ⟨#[98,47,118,49]⟩,vi 1,vi 2,vi 0,nzA,vs ⟨#[]⟩,vs ⟨#[]⟩,vs ⟨#[]⟩,vb true]],nzA]),(4,.ro [sl Af OZ,.slice .none [[vs pa,vi 1,vi 0,vi 0,vs mt,vs mt],[vs pb,vi 1,vi 1,vi 0,vs mt,vs mt]],sl AR (DE Pi OZ).infs,sl AJ (DE Pi OZ).skips])] Z4 Z2 (Xi .pure (Xi _ (Yi ye_enc0 (Xi .pure (Xi _ (Yi (rA 0) (Xi .pure (Xi _ (Yi (rA 2) (cU [(1,.v (.func (.func 33) #[] #[])),(3,.ref 3 0),(4,.ref 4 0),(5,vi 0),(6,vs ⟨#[0,0,0,0]⟩),(7,vi 0),(8,.slice (.id 50 4) [[vs ⟨#[97,47,118,49]⟩,vi 1,vi 0,vi 0],[vs ⟨#[99,47,118,49]⟩,vi 1,vi 2,vi 0]])] [(3,.ro [.slice .none [[vs ⟨#[97,47,118,49]⟩,vi 1,vi 0,vi 0,.slice .none [[vs ⟨#[98,47,118,49]⟩,.slice .none [[vi 1000,vi 1000000]]]],vs ⟨#[]⟩,vs ⟨#[]⟩,vs ⟨#[]⟩,vb false],[vs ⟨#[98,47,118,49]⟩,vi 1,vi 0,vi 0,nzA,vs ⟨#[]⟩,vs ⟨#[]⟩,vs ⟨#[]⟩,vb false],[vs ⟨#[98,47,118,49]⟩,vi 1,vi 1,vi 0,nzA,vs ⟨#[]⟩,vs ⟨#[]⟩,vs ⟨#[]⟩,vb false],[vs ⟨#[98,47,118,49]⟩,vi 1,vi 2,vi 0,nzA,vs ⟨#[]⟩,vs ⟨#[]⟩,vs ⟨#[]⟩,vb true]],nzA]),(4,.ro [sl Af OZ,.slice .none [[vs pa,vi 1,vi 0,vi 0,vs mt,vs mt],[vs pb,vi 1,vi 1,vi 0,vs mt,vs mt]],sl AR (DE Pi OZ).infs,sl AJ (DE Pi OZ).skips]),(50,.tok 4 2)] Z7 Z3 (yN (Xi .pure (Xi _ (Yi k20 (Xi .pure (Xi _ (Yi k34 (cU [(1,.v (.func (.func 33) #[] #[])),(3,.ref 3 0),(4,.ref 4 0),(5,vi 0),(6,vs ⟨#[0,0,0,0]⟩),(7,vi 0),(9,sl FQ wG),(10,vi 0)] [(3,.ro [.slice .none [[vs ⟨#[97,47,118,49]⟩,vi 1,vi 0,vi 0,.slice .none [[vs ⟨#[98,47,118,49]⟩,.slice .none [[vi 1000,vi 1000000]]]],vs ⟨#[]⟩,vs ⟨#[]⟩,vs ⟨#[]⟩,vb false],[vs ⟨#[98,47,118,49]⟩,vi 1,vi 0,vi 0,nzA,vs ⟨#[]⟩,vs ⟨#[]⟩,vs ⟨#[]⟩,vb false],[vs ⟨#[98,47,118,49]⟩,vi 1,vi 1,vi 0,nzA,vs ⟨#[]⟩,vs ⟨#[]⟩,vs ⟨#[]⟩,vb false],[vs ⟨#[98,47,118,49]⟩,vi 1,vi 2,vi 0,nzA,vs ⟨#[]⟩,vs ⟨#[]⟩,vs ⟨#[]⟩,vb true]],nzA]),(4,.ro [sl Af OZ,.slice .none [[vs pa,vi 1,vi 0,vi 0,vs mt,vs mt],[vs pb,vi 1,vi 1,vi 0,vs mt,vs mt]],sl AR (DE Pi OZ).infs,sl AJ (DE Pi OZ).skips])] Z8 Z2 (Yi (fun _=>?_) (fun h=>absurd aa2 h))))))))))))))))))))))))))))))))))))))));refine Yi (fun _=>?_) (fun h=>absurd aa2 h);refine Xi [vs pb,vi 1,vi 1,vi 0,vs mt,vs mt] (Yi ⟨by decide,rfl⟩ (Yi rfl ?_));refine yN (Xi _ (Yi (rA 1) (Yi (fun h1=>?_) (fun h1=>?_))))
 .have h1:(1:Int)=1/\(1:Int)=1/\(0:Int)=0/\True:=h1;refine yN (yN (Xi _ (Yi k18 (Yi (fun _=>?_) (fun h=>absurd aa2 h)))));refine Yi (fun _=>?_) (fun h=>absurd aa2 h);refine Yi (fun h2=>?_) (fun h2=>?_)
  .have h2:(⟨#[0,0,0,0]⟩:ByteArray)=⟨#[0,0,0,0]⟩:=h2;refine Yi (fun _=>?_) (fun h=>absurd aa2 h);refine Xi _ (Yi k35 (Yi aa3 ?_));exact .refl _
  have h2:¬(⟨#[0,0,0,0]⟩:ByteArray)=⟨#[0,0,0,0]⟩:=h2;refine Yi aa3 ?_;exact absurd rfl h2
 have h1:¬((1:Int)=1/\(1:Int)=1/\(0:Int)=0/\True):=h1;refine Yi aa3 ?_;exact absurd ⟨rfl,rfl,rfl,trivial⟩ h1
theorem um(hA:PC 9 [] (vb true))(U4:PC 17 [.agg (BH l)] (vb false)):PC 7 [.agg (BH l),vs s] (vb true):=by
 refine CV (T4 Ea) rfl BB hm rfl Tryz.func7 aa3 rfl (Ak rfl) aa3 (Exists.intro .pure (Exists.intro _ (And.intro hA (And.intro (Ak rfl) (Exists.intro .pure (Exists.intro _ (And.intro U4 ?_)))))));exact .refl _
theorem mU(hA:PC 9 [] (vb true))(U4:PC 17 [.agg (BH l)] (vb true))(a:ByteArray)(ke:PC 27 [.agg (BH l)] (.tup [vs a,vi 0]))(kc:PC 25 [.agg (BH l)] (vi 0))(kd:PC 28 [vs a] (.tup [.agg (BH l),vi 0]))(kl:PC 13 [.agg (BH l),.agg (BH l)] (vb true))(m:Lk)(ks:PC 28 [vs s] (.tup [.agg (BH m),vi 0]))(km:PC 27 [.agg (BH m)] (.tup [vs s,vi 0])):PC 7 [.agg (BH l),vs s] (vb true):=by
 refine CV (T4 Ea) rfl BB hm rfl Tryz.func7 aa3 rfl (Ak rfl) aa3 (Exists.intro .pure (Exists.intro _ (And.intro hA (And.intro (Ak rfl) (Exists.intro .pure (Exists.intro _ (And.intro U4 (And.intro (fun h1=>?_) (fun h1=>?_)))))))))
 .have h1:(5000:Int)<(s.size:Int):=h1;exact .refl _
 have h1:¬((5000:Int)<(s.size:Int)):=h1;refine And.intro (Ak rfl) (Exists.intro .pure (Exists.intro _ (And.intro ke (And.intro (Ak rfl) (Exists.intro .pure (Exists.intro _ (And.intro kc (And.intro (fun h=>absurd h aa2) (fun _=>?_)))))))));refine And.intro (fun _=>?_) (fun h=>absurd aa2 h);refine Exists.intro .pure (Exists.intro _ (And.intro kd (And.intro (Ak rfl) (And.intro (fun h=>absurd h aa2) (fun _=>?_)))));refine And.intro (Ak rfl) (And.intro (Ak rfl) (Exists.intro .pure (Exists.intro _ (And.intro kl (Exists.intro .pure (Exists.intro _ (And.intro ks (And.intro (Ak rfl) (And.intro (fun h=>absurd h aa2) (fun _=>?_))))))))));refine And.intro (Ak rfl) (Exists.intro .pure (Exists.intro _ (And.intro km (And.intro (fun _=>?_) (fun h=>absurd aa2 h)))));refine And.intro (fun h3=>?_) (fun h3=>?_)
 .have h3:(s:ByteArray)=s:=h3;exact .refl _
 have h3:¬(s:ByteArray)=s:=h3;exact absurd rfl h3
theorem mV(hA:PC 9 [] (vb true))(U4:PC 17 [.agg (BH l)] (vb true))(a:ByteArray)(ke:PC 27 [.agg (BH l)] (.tup [vs a,vi 0]))(kc:PC 25 [.agg (BH l)] (vi 0))(kd:PC 28 [vs a] (.tup [.agg (BH l),vi 0]))(kl:PC 13 [.agg (BH l),.agg (BH l)] (vb true))(ks:PC 28 [vs s] (.tup [.agg (BH zLk),vi 9]))(kz:PC 13 [.agg (BH zLk),.agg [nzA,nzA,nzA,nzA]] (vb true)):PC 7 [.agg (BH l),vs s] (vb true):=by
 refine CV (T4 Ea) rfl BB hm rfl Tryz.func7 aa3 rfl (Ak rfl) aa3 (Exists.intro .pure (Exists.intro _ (And.intro hA (And.intro (Ak rfl) (Exists.intro .pure (Exists.intro _ (And.intro U4 (And.intro (fun h1=>?_) (fun h1=>?_)))))))))
 .have h1:(5000:Int)<(s.size:Int):=h1;exact .refl _
 have h1:¬((5000:Int)<(s.size:Int)):=h1;refine And.intro (Ak rfl) (Exists.intro .pure (Exists.intro _ (And.intro ke (And.intro (Ak rfl) (Exists.intro .pure (Exists.intro _ (And.intro kc (And.intro (fun h=>absurd h aa2) (fun _=>?_)))))))));refine And.intro (fun _=>?_) (fun h=>absurd aa2 h);refine Exists.intro .pure (Exists.intro _ (And.intro kd (And.intro (Ak rfl) (And.intro (fun h=>absurd h aa2) (fun _=>?_)))));refine And.intro (Ak rfl) (And.intro (Ak rfl) (Exists.intro .pure (Exists.intro _ (And.intro kl (Exists.intro .pure (Exists.intro _ (And.intro ks (And.intro (Ak rfl) (And.intro (fun _=>?_) (fun h=>absurd aa2 h))))))))));refine And.intro (fun _=>?_) (fun h=>absurd aa2 h);refine And.intro (Ak rfl) (Exists.intro .pure (Exists.intro _ (And.intro kz ?_)));exact .refl _
theorem mW(hA:PC 9 [] (vb true))(U4:PC 17 [.agg (BH l)] (vb true))(a:ByteArray)(ke:PC 27 [.agg (BH l)] (.tup [vs a,vi 1]))(kc:PC 25 [.agg (BH l)] (vi 1))(m:Lk)(ks:PC 28 [vs s] (.tup [.agg (BH m),vi 0]))(km:PC 27 [.agg (BH m)] (.tup [vs s,vi 0])):PC 7 [.agg (BH l),vs s] (vb true):=by
 refine CV (T4 Ea) rfl BB hm rfl Tryz.func7 aa3 rfl (Ak rfl) aa3 (Exists.intro .pure (Exists.intro _ (And.intro hA (And.intro (Ak rfl) (Exists.intro .pure (Exists.intro _ (And.intro U4 (And.intro (fun h1=>?_) (fun h1=>?_)))))))))
 .have h1:(5000:Int)<(s.size:Int):=h1;exact .refl _
 have h1:¬((5000:Int)<(s.size:Int)):=h1;refine And.intro (Ak rfl) (Exists.intro .pure (Exists.intro _ (And.intro ke (And.intro (Ak rfl) (Exists.intro .pure (Exists.intro _ (And.intro kc (And.intro (fun h=>absurd h aa2) (fun _=>?_)))))))));refine And.intro (fun h=>absurd h aa2) (fun _=>?_);refine Exists.intro .pure (Exists.intro _ (And.intro ks (And.intro (Ak rfl) (And.intro (fun h=>absurd h aa2) (fun _=>?_)))));refine And.intro (Ak rfl) (Exists.intro .pure (Exists.intro _ (And.intro km (And.intro (fun _=>?_) (fun h=>absurd aa2 h)))));refine And.intro (fun h3=>?_) (fun h3=>?_)
 .have h3:(s:ByteArray)=s:=h3;exact .refl _
 have h3:¬(s:ByteArray)=s:=h3;exact absurd rfl h3
theorem mX(hA:PC 9 [] (vb true))(U4:PC 17 [.agg (BH l)] (vb true))(a:ByteArray)(ke:PC 27 [.agg (BH l)] (.tup [vs a,vi 1]))(kc:PC 25 [.agg (BH l)] (vi 1))(ks:PC 28 [vs s] (.tup [.agg (BH zLk),vi 9]))(kz:PC 13 [.agg (BH zLk),.agg [nzA,nzA,nzA,nzA]] (vb true)):PC 7 [.agg (BH l),vs s] (vb true):=by
 refine CV (T4 Ea) rfl BB hm rfl Tryz.func7 aa3 rfl (Ak rfl) aa3 (Exists.intro .pure (Exists.intro _ (And.intro hA (And.intro (Ak rfl) (Exists.intro .pure (Exists.intro _ (And.intro U4 (And.intro (fun h1=>?_) (fun h1=>?_)))))))))
 .have h1:(5000:Int)<(s.size:Int):=h1;exact .refl _
 have h1:¬((5000:Int)<(s.size:Int)):=h1;refine And.intro (Ak rfl) (Exists.intro .pure (Exists.intro _ (And.intro ke (And.intro (Ak rfl) (Exists.intro .pure (Exists.intro _ (And.intro kc (And.intro (fun h=>absurd h aa2) (fun _=>?_)))))))));refine And.intro (fun h=>absurd h aa2) (fun _=>?_);refine Exists.intro .pure (Exists.intro _ (And.intro ks (And.intro (Ak rfl) (And.intro (fun _=>?_) (fun h=>absurd aa2 h)))));refine And.intro (fun _=>?_) (fun h=>absurd aa2 h);refine And.intro (Ak rfl) (Exists.intro .pure (Exists.intro _ (And.intro kz ?_)));exact .refl _
theorem ul(hA:PC 9 [] (vb true))(U4:PC 17 [.agg (BH l)] (vb true))(c0:(5000:Int)<(s.size:Int)):PC 7 [.agg (BH l),vs s] (vb true):=by
 refine CV (T4 Ea) rfl BB hm rfl Tryz.func7 aa3 rfl (Ak rfl) aa3 (Exists.intro .pure (Exists.intro _ (And.intro hA (And.intro (Ak rfl) (Exists.intro .pure (Exists.intro _ (And.intro U4 (And.intro (fun _=>?_) (fun hf=>absurd c0 hf)))))))));exact .refl _
theorem p6{s:ByteArray}(hs:s.size<=1000000)(h:(decL s).2=0):PC 48 [.agg (BH (decL s).1)] (vb true):=by
 have k:=dec_form s hs;unfold decL at h⊢;split at h
 .rename_i c;rw[As c];unfold decB at c;obtain⟨_,c2⟩:=Aj _ _▸c;rw[c2]at k;exact k
 .cases h
theorem ic{s:ByteArray}(h:¬(decL s).2=0):decL s=(zLk,9):=by
 unfold decL at h⊢;split at h
 .exact absurd rfl h
 .rename_i c;rw[AB c]
theorem zF(hR:l.roots.length<=1048576)(hK:r8 l)(hi:∀i∈l.infs,i.place<9223372036854775808/\i.number<9223372036854775808/\i.left<9223372036854775808/\i.right<9223372036854775808)(hk:∀s∈l.skips,s.place<9223372036854775808/\s.inf<9223372036854775808):PC 7 [.agg (BH l),vs s] (vb true):=by
 have hA:=od;have U4:=vE l (by have:=hK.el;omega) (by have:=hK.il;omega) (by have:=hK.kl;omega) B0;cases oJ:QH l with
 |false=>rw[oJ]at U4;exact um l s hA U4
 |true=>
  rw[oJ]at U4;have F:=ip oJ
  by_cases EQ:5000<s.size
  .exact ul l s hA U4 B0
  .have hr:=F.rq;simp only[D8,KQ,Aj,AQ,A9]at hr;have he:=F.en;have hn:=F.nf;have ud:=F.sk;simp only[A9,bz,m9,WI,AQ]at he hn ud;have f1:∀q∈l.roots,Jz q:=fun q hq=>by
    have:=hr.1 q hq
    exact⟨by unfold Cz;omega,by unfold Fx;omega⟩
   have f2:∀e∈l.ents,Fx e.path:=fun e h=>by have:=he e h;unfold Fx;omega
   have n1:=F.el;have n2:=F.il;have n3:=F.kl;have kf:=Qu l f1 f2 B0 B0 B0;have kc:=vD l f1 f2 B0 B0 B0;have kl:=kZ l ⟨by omega,by omega,by omega,by omega⟩ (fun q hq=>(f1 q hq).1);have kz:PC 13 [.agg (BH zLk),.agg [nilA9,nilA9,nilA9,nilA9]] (vb true):=(kZ zLk ⟨Ao _,Ao _,Ao _,Ao _⟩ (fun _ h=>by cases h)).args ⟨.refl _,.agg ⟨.nil,.nil,.nil,.nil,trivial⟩,trivial⟩;have ks:=y_decode s B0;have km:(decL s).2=0->PC 27 [.agg (BH (decL s).1)] (.tup [vs s,vi 0]):=fun h=>by
    have ok:=dec_ok (s:=s) B0 h;have hl:(lkL (decL s).1).length=s.size:=by rw[<-bB_size,ok.1]
    have k:=y_encode (decL s).1 true (fun _=>ok.2.2) (p6 B0 h) (fun _=>by omega);have e:(bif true then bB (lkL (decL s).1)else mt)=s:=ok.1;rw[e]at k;exact k
   cases hf:DT l with
   |false=>
    rw[hf]at kf kc;have ke:=y_encode l false (fun h=>by cases h) kf (fun h=>by cases h)
    by_cases h2:(decL s).2=0
    .rw[h2]at ks;exact mW l s hA U4 _ ke kc (decL s).1 ks (km h2)
    .rw[ic h2]at ks;exact mX l s hA U4 _ ke kc ks kz
   |true=>
    rw[hf]at kf kc;have ok:=lkOk_of hf (fun q hq=>by have:=hr.1 q hq;omega) B0 hi hk;have CF:=few_len F ok;have ke:=y_encode l true (fun _=>ok) kf (fun _=>by omega);have hT:LkT l:=⟨fun q hq=>by have:=hr.1 q hq;unfold TOk;omega,fun e h=>by have:=he e h;unfold TOk;omega,fun i h=>by have:=hn i h;unfold TOk;omega,fun i h=>by have:=ud i h;unfold TOk;omega⟩;have hd:=dec_of (lkW_of ok hT (Ai _) B0) hf (maj_of hf);have kd:=y_decode (bB (lkL l)) (by rw[bB_size];exact CF);rw[hd]at kd
    by_cases h2:(decL s).2=0
    .rw[h2]at ks;exact mU l s hA U4 _ ke kc kd kl (decL s).1 ks (km h2)
    .rw[ic h2]at ks;exact mV l s hA U4 _ ke kc kd kl ks kz
end Go.Eng
