/- Lemmas 20. -/
import Derived.Test.YtkjhcikodmiceaaGreatDoorRA19
namespace Go.Eng
open Go.Proofs
variable {p:ByteArray}{BU:List (Value×AV)}{i:Nat}(x:List Rl)(ifs:List (List AV))(y:List Rl)(roots:List Rq)(j:Nat)(d:List (List Tm))(before:List Sl)
def bG(p:ByteArray)(r:Rl):Bool:=decide (r.path=p)&&!r.yanked
def vu(r:Rl):Int×Int:=(plc r.ver,plc r.ver+1)
theorem dp{x:List Rl}(h:AX x=0):BC x p=canon ((x.filter (bG p)).map vu):=by
 unfold BC KJ;rw[AB (not_not_intro h),List.filter_filter]
 congr 3
 grind [bG]
theorem Vi{α:Type}(o:Option α):(∃x,o=some x)\/o=none:=by
 cases o<;>simp_all
theorem KK:∀(y:List Rl) (acc:List ByteArray) (r:Rl),AN (y++[r]) acc=if(AN y acc).any (fun p=>decide (p=r.path))then AN y acc else AN y acc++[r.path]
 | [],acc,r=>rfl
 |s::y,acc,r=>by rw[K9,AN,AN,KK y]
theorem ED:∀(y:List Rl) (acc:List ByteArray),acc.Nodup->(AN y acc).Nodup
 | [],_,h=>h
 |s::y,acc,h=>by
  rw[AN];refine ED y _ ?_
  grind
abbrev aE(p:ByteArray):List (List AV):=(y.filter fun r=>decide (r.path=p)).map At
abbrev sZ(q:ByteArray×Nat):Value×AV:=(.string q.1,.slice (.id (q.2+50) 9) (aE y q.1))
abbrev SI:List (Value×AV):=(AN y []).zipIdx.map (sZ y)
def KR(l:Nat):HO:=match(AN y [])[l]? with
 |some q=>.tok 9 (aE y q).length
 |none=>.free
def UY:HO:=bif Nat.ble 50 j then KR y (j-50)else .free
theorem Hl(l:Nat):UY y (l+50)=KR y l:=by
 grind [UY,Nat.ble_eq]
theorem qk{j:Nat}(h:j<50):UY y j=.free:=by
 grind [UY,Nat.ble_eq]
theorem Pj{l:List ByteArray}{q:ByteArray×Nat}(h:q∈l.zipIdx):l[q.2]?=some q.1:=by
 grind
open Classical in
theorem Ib{k:Value}{a:AV}(h:∀a',(k,a')∉BU):EF BU k a=BU++[(k,a)]:=by
 grind [EF]
open Classical in
theorem Yg{k:Value}{a a' : AV}(h:(k,a')∈BU):EF BU k a=BU.map fun p=>if p.1=k then(k,a)else p:=by
 unfold EF;rw[As ⟨a',h⟩]
section
variable {y:List Rl}{r:Rl}{k:Nat}
theorem Kc(h:(AN y [])[k]?=some r.path):AN (y++[r]) []=AN y []:=by
 grind [KK]
theorem Kb(h:r.path∉AN y []):AN (y++[r]) []=AN y []++[r.path]:=by
 grind [KK]
theorem IV{l:List ByteArray}(hd:l.Nodup){i j:Nat}(h1:l[i]?=some p)(h2:l[j]?=some p):i=j:=by
 grind [List.getElem_inj]
open Classical in
theorem ma(h:(AN y [])[k]?=some r.path):EF (SI y) (.string r.path) (.slice (.id (k+50) 9) (aE y r.path++[At r]))=SI (y++[r]):=by
 have hd:=ED y [] GB;have hm:sZ y (r.path,k)∈SI y:=Ar.2 ⟨_,Ha.2 h,rfl⟩;rw[Yg (a':=.slice (.id (k+50) 9) (aE y r.path)) hm];unfold SI;rw[Kc h,BI];refine Cf fun q hq=>?_
 grind [IV]
theorem cu(h:r.path∉AN y []):aE y r.path=[]:=by
 grind [List.filter_eq_nil_iff,G2]
theorem iF(h:r.path∉AN y [])(a:AV):(Value.string r.path,a)∉SI y:=by
 grind
theorem l8(h:r.path∉AN y []):EF (SI y) (.string r.path) (.slice (.id ((AN y []).length+50) 9) [At r])=SI (y++[r]):=by
 grind [Ib,Kb,List.map_congr_left,cu]
theorem iH{j:Nat}(h:(AN y [])[j]?=some p):(Value.string p,AV.slice (.id (j+50) 9) (aE y p))∈SI y/\∀b,(Value.string p,b)∈SI y->b=AV.slice (.id (j+50) 9) (aE y p):=by
 refine⟨Ar.2 ⟨(p,j),Ha.2 h,rfl⟩,fun b hb=>?_⟩
 grind [IV,ED]
theorem kL{j:Nat}(h:(AN y [])[j]?=some p):KR y j=.tok 9 (aE y p).length:=by
 grind [KR]
theorem n6(h:(AN y [])[k]?=some r.path)(l:Nat):(bif Nat.beq (l+50) (k+50)then HO.tok 9 ((aE y r.path).length+1)else KR y l)=KR (y++[r]) l:=by
 grind [Nat.beq_refl,KR,Kc,Nat.eq_of_beq_eq_true,IV,ED]
theorem nZ(h:r.path∉AN y [])(l:Nat):(bif Nat.beq (l+50) ((AN y []).length+50)then HO.tok 9 1 else KR y l)=KR (y++[r]) l:=by
 grind [Nat.beq_refl,KR,Kb,cu,Nat.eq_of_beq_eq_true]
end
theorem PH{h:Nat->HO}:∀{BU:List (Value×AV)},(∀p∈BU,SY h p.2=true)->QP h BU=true
 | [],_=>rfl
 |p::r,hk=>by
  unfold QP;rw[hk p (Ae ..)];exact PH (fun q hq=>hk q (Ah _ hq))
theorem Ky{h:Nat->HO}(hh:∀l,h (l+50)=KR y l):QP h (SI y)=true:=by
 refine PH fun p hp=>?_;obtain⟨q,h1,rfl⟩:=Ar.1 hp;show Rt h (q.2+50)=true
 grind [Rt,kL]
theorem I0{y:List Rl}{h h' : Nat->HO}(hh:∀l,h (l+50)=KR y l)(j:Nat):UY y j=.free\/(h j=UY y j/\XW h' (UY y j)=true):=by
 by_cases hj:j<50
 .grind [qk]
 .obtain⟨l,rfl⟩:∃l,j=l+50:=⟨j-50,by omega⟩
  right
  rw[Hl];refine⟨hh l,?_⟩;unfold KR;cases (AN y [])[l]?<;>rfl
theorem nJ{x:List Rl}(hx:AX x=0)(hi:i<x.length):EF ((x.take i).map NG) (U7 (DJ x[i])) (.agg (At x[i]))=(x.take (i+1)).map NG:=by
 rw[Ib]
 .rw[CE,Ge hi,AG];rfl
 intro a ha;obtain⟨r,hr,he,_⟩:=Wq ha;obtain⟨j,hj,e2⟩:=CY.1 hr;rw[Bv]at hj;rw[List.getElem_take]at e2;have hp:=(BY hx).2
 grind [List.pairwise_iff_getElem,NK]
abbrev uD:Nm:=⟨[],[],[],[],[8,9],[9],[40],[],[],[],[8,9,10,11]⟩
abbrev zT:List AV:=[.v (.map none),.v (.map none)]
theorem lL(qf:PC 47 [PK x ifs] (vi (AX x)))(h0:AX x≠0):gx x ifs:=by
 have ht:rn x=.tup [.agg [.cmap NW [],.cmap Cc []],vi (AX x)]:=Wk
 unfold gx;rw[ht];refine Ps uD Tryz.func51 rfl (Nz rfl) (Xi 0 (Xi 0 (yN (Xi 0 (yN (Xi .pure (Xi _ (Yi (qf) (Xi 0 (Yi ?_ ?_))))))))))
 .intro _;refine Xi 0 (yN (yN (yN ?_)));exact .refl _
 .intro h;exact absurd h (fun hc=>hc h0)
theorem G1:∀(y:List Rl) (acc:List ByteArray),(AN y acc).length<=acc.length+y.length
 | [],acc=>by simp[AN]
 |r::y,acc=>by
  rw[AN];refine AO (G1 y _) ?_
  grind
section
attribute [local irreducible] HS
theorem pY(qf:PC 47 [PK x ifs] (vi (AX x)))(h0:AX x=0)(CF:x.length<=256):gx x ifs:=by
 have ht:rn x=.tup [.agg [.cmap NW (x.map NG),.cmap Cc ((AN x []).map (eU x))],vi 0]:=Wk
 unfold gx;rw[ht];rw[h0]at qf;refine Ps uD Tryz.func51 rfl (Nz rfl) (Xi 0 (Xi 0 (yN (Xi 0 (yN (Xi .pure (Xi _ (Yi (qf) (Xi 0 (Yi ?_ ?_))))))))))
 .intro hc;exact absurd (show(0:Int)≠0 from hc) aa2
 intro _;refine Xi 0 (Xi {i:Nat // i<=x.length} (Xi (fun i=>⟨[(2,.ref 2 0),(4,.ref 4 0),(18,sl At x),(19,vi (x.map At).length),(20,vi i.1)],[(2,.cells zT),(4,.cells [.mref 8,.mref 9]),(8,.map NW ((x.take i.1).map NG)),(9,.mapU Cc (SI (x.take i.1)))],UY (x.take i.1)⟩) (Xi (fun i=>x.length-i.1) (Yi (Xi ⟨0,Ao _⟩ ?_) ?_))))
 .refine⟨Z5,Z4,fun j=>.inl ?_,Tv⟩;show UY [] j=.free;unfold UY;cases Nat.ble 50 j<;>rfl
 intro⟨i,i1⟩;refine Xi 0 (Yi ?_ ?_)
 .intro h;have h:i<x.length:=Wk
  have hg:x[i]?=some x[i]:=Ge h;have K2:x.take (i+1)=x.take i++[x[i]]:=Wk
  refine Xi 0 (Xi (At x[i]) (Yi (Yi B0 Wk) (Yi rfl ?_)));refine Yi (Nz rfl) (yN (Xi ⟨[(2,.ref 2 0),(4,.ref 4 0),(7,.ref 7 0),(18,sl At x),(19,vi (x.map At).length),(20,vi i)],[(2,.cells zT),(4,.cells [.mref 8,.mref 9]),(7,.cells (At x[i])),(8,.map NW ((x.take i).map NG)),(9,.mapU Cc (SI (x.take i)))],UY (x.take i)⟩ (Yi ?_ ?_)))
  .exact⟨Z6,⟨Zr,Zr,Zr,Zr,⟨rfl,Ky _ (Hl _)⟩,Tv⟩,I0 (Hl _),Tv⟩
  refine Xi 0 (yN (Xi _ (Yi (pG x[i]) (yN (Yi aa3 ?_)))));have e8:EF ((x.take i).map NG) (U7 (DJ x[i])) (.agg (At x[i]))=(x.take (i+1)).map NG:=nJ h0 h;refine Xi ⟨[(2,.ref 2 0),(4,.ref 4 0),(7,.ref 7 0),(18,sl At x),(19,vi (x.map At).length),(20,vi i)],[(2,.cells zT),(4,.cells [.mref 8,.mref 9]),(7,.cells (At x[i])),(8,.map NW ((x.take (i+1)).map NG)),(9,.mapU Cc (SI (x.take i)))],UY (x.take i)⟩ (Yi ?_ ?_)
  .exact⟨Z6,⟨Zr,Zr,Zr,⟨Ab (HO.map NW) e8,rfl⟩,⟨rfl,Ky _ (Hl _)⟩,Tv⟩,I0 (Hl _),Tv⟩
  have hL:((x.take i).filter (fun r=>decide (r.path=x[i].path))).length<=256:=by
   grind
  have hP:∀l,UY (x.take i) (l+50)=KR (x.take i) l:=Hl _;refine BK (Classical.em (x[i].path∈AN (x.take i) [])) (fun hp=>?_) (fun hp=>?_)
  .refine A1 (A6.1 hp) (fun k hk=>?_);have hu:=iH hk;refine Xi 0 ?_;refine Or.inl (Xi (.slice (.id (k+50) 9) (aE (x.take i) x[i].path)) (Yi hu ?_));refine yN ?_;have hr:UY (x.take i) (k+50)=.tok 9 (aE (x.take i) x[i].path).length:=by rw[hP,kL hk]
   have hl:(aE (x.take i) x[i].path).length<=256:=aa1
   refine QB (e:=70) (m:=8) (es2:=[At x[i]]) rfl rfl rfl (fun _ h=>h) hr ⟨rfl,trivial⟩ (by show(_+1)*120<=_;omega) aa1 ?_;have tM:k<256:=by
    have:=(AE.1 hk).1
    have:=G1 (x.take i) []
    grind
   have mE:=hk;refine Yi (IG ⟨AS _,AS _,AS _,AS _,AS _,AS _,AS _,AS _,AS _,AS _,DU (show 39<10000000 by decide),DU B0,DU (show 9<10000000 by decide),trivial⟩ aa3) ?_;have e9:EF (SI (x.take i)) (.string x[i].path) (.slice (.id (k+50) 9) (aE (x.take i) x[i].path++[At x[i]]))=SI (x.take (i+1)):=by rw[K2];exact ma mE
   have hG:∀l,(bif Nat.beq (l+50) (k+50)then HO.tok 9 ((aE (x.take i) x[i].path).length+1)else KR (x.take i) l)=KR (x.take (i+1)) l:=by rw[K2];exact n6 mE
   refine Xi ⟨[(2,.ref 2 0),(4,.ref 4 0),(18,sl At x),(19,vi (x.map At).length),(20,vi i)],[(2,.cells zT),(4,.cells [.mref 8,.mref 9]),(8,.map NW ((x.take (i+1)).map NG)),(9,.mapU Cc (SI (x.take (i+1))))],UY (x.take (i+1))⟩ (Yi ?_ ?_)
   .refine⟨Z5,⟨Zr,Zr,Zr,⟨Ab (HO.mapU Cc) e9,Ky _ (Hl _)⟩,Tv⟩,I0 (fun l=>?_),Tv⟩;show(bif Nat.beq (l+50) (k+50)then HO.tok 9 ((aE (x.take i) x[i].path).length+1)else UY (x.take i) (l+50))=_
    grind
   refine Xi 0 (Yi (Ii i B0) (Xi ⟨i+1,by omega⟩ ?_));exact⟨by grind,Z5,⟨Zr,Zr,Zr,⟨rfl,Ky _ (Hl _)⟩,Tv⟩,I0 (Hl _),Tv⟩
  .have mE:=hp;have SP:(AN (x.take i) []).length<=256:=by
    have:=G1 (x.take i) []
    grind
   have hn:=iF hp;refine Xi ((AN (x.take i) []).length+50) ?_;refine Or.inr (Yi hn ?_);refine yN ?_;have hr:UY (x.take i) ((AN (x.take i) []).length+50)=.free:=by
    rw[hP];unfold KR;simp_all
   refine QA (e:=70) (m:=8) (es2:=[At x[i]]) rfl rfl rfl (fun _ h=>h) hr rfl ⟨rfl,trivial⟩ (by show 1*120<=_;omega) Wk ?_;refine Yi (IG ⟨AS _,AS _,AS _,AS _,AS _,AS _,AS _,AS _,AS _,AS _,DU (show 39<10000000 by decide),DU (by show _+50<10000000;omega),DU (show 9<10000000 by decide),trivial⟩ aa3) ?_;have e9:EF (SI (x.take i)) (.string x[i].path) (.slice (.id ((AN (x.take i) []).length+50) 9) [At x[i]])=SI (x.take (i+1)):=by rw[K2];exact l8 mE
   have hG:∀l,(bif Nat.beq (l+50) ((AN (x.take i) []).length+50)then HO.tok 9 1 else KR (x.take i) l)=KR (x.take (i+1)) l:=by rw[K2];exact nZ mE
   refine Xi ⟨[(2,.ref 2 0),(4,.ref 4 0),(18,sl At x),(19,vi (x.map At).length),(20,vi i)],[(2,.cells zT),(4,.cells [.mref 8,.mref 9]),(8,.map NW ((x.take (i+1)).map NG)),(9,.mapU Cc (SI (x.take (i+1))))],UY (x.take (i+1))⟩ (Yi ?_ ?_)
   .refine⟨Z5,⟨Zr,Zr,Zr,⟨Ab (HO.mapU Cc) e9,Ky _ (Hl _)⟩,Tv⟩,I0 (fun l=>?_),Tv⟩;show(bif Nat.beq (l+50) ((AN (x.take i) []).length+50)then HO.tok 9 1 else UY (x.take i) (l+50))=_;simp_all
   refine Xi 0 (Yi (Ii i B0) (Xi ⟨i+1,by omega⟩ ?_));exact⟨by grind,Z5,⟨Zr,Zr,Zr,⟨rfl,Ky _ (Hl _)⟩,Tv⟩,I0 (Hl _),Tv⟩
 .intro h;have h:¬i<x.length:=Wk
  have et:x.take i=x:=Bj B0;refine Xi ⟨[(2,.ref 2 0),(4,.ref 4 0)],[(2,.cells zT),(4,.cells [.mref 8,.mref 9]),(8,.map NW ((x.take i).map NG)),(9,.mapU Cc (SI (x.take i)))],UY (x.take i)⟩ (Yi ?_ ?_)
  .exact⟨Z2,⟨Zr,Zr,Zr,⟨rfl,Ky _ (Hl _)⟩,Tv⟩,I0 (Hl _),Tv⟩
  refine Xi 0 (yN (yN (yN ?_)));have es:∀h:Nat->HO,Rx h (SI (x.take i))=(AN x []).map (eU x):=fun h=>by
   rw[et];unfold Rx SI;rw[BI];refine Cr fun j=>?_;rw[BE,BE,List.getElem?_zipIdx];cases (AN x [])[j]?<;>rfl
  have e1:(x.take i).map NG=x.map NG:=by rw[et]
  exact .of_eq (show AV.tup [.agg [.cmap NW ((x.take i).map NG),.cmap Cc (Rx _ (SI (x.take i)))],vi 0]=_ by rw[e1,es])
end
theorem c84(hx:∀r∈x,IX r):gx x ifs:=by
 by_cases h0:AX x=0
 .exact pY x ifs (sD Uh x ifs hx) h0 (I3 h0).1
 .exact lL x ifs (sD Uh x ifs hx) h0
abbrev uE(n:Nat):Nm:=⟨[],[(2,n)],[],[],[],[],[5],[],[],[],[2,3]⟩
theorem sJ(l:List Rq)(hl:Cz l):Bd Tryz.prog 57 [sl Af l] (Ag [] Ad) fun r h'=>r=.slice (.id 2000 2) (l.map Af)/\h'=Ag [(2000,.tok 2 (l.map Af).length)] Ad:=by
 refine Bm (IF (uE 2)) [(2,2000)] rfl BB hm rfl Tryz.func57 aa3 rfl (Nz rfl) aa3 rfl ?_;have DG:BX 2 (l.map Af)/\([]:List (List AV)).length=0/\(([]:List (List AV)).length+(l.map Af).length)*40<=140737488355328/\([]:List (List AV)).length+(l.map Af).length<=9223372036854775807:=by
  grind [DK]
 have e2:HO.tok 2 (([]:List (List AV)).length+(l.map Af).length)=.tok 2 (l.map Af).length:=Wk
 have e3:AV.slice (.id 2000 2) ([]++l.map Af)=.slice (.id 2000 2) (l.map Af):=rfl;have full:∀st:St,(∃s:LS,St.le (IF (uE 2)) st s/\True)->True:=fun _ _=>trivial;refine Xi 0 (Xi 0 (Yi ?_ ?_))
 .intro _;refine cU [(0,sl Af l)] [] Z1 Tv (Xi 2 (Yi DG ?_));exact Xi _ (Yi (.refl _) (Yi e3 (Ab (fun o=>Ag [(2000,o)] Ad) e2)))
 .intro h;have h:l.map Af=[]:=h;refine Yi ?_ ?_
  .refine Xi ⟨[],[],Ad⟩ (Yi ⟨trivial,trivial,fun _=>.inl rfl,Bp aa3⟩ ?_);refine Xi 0 ?_;exact Xi _ (Yi (.refl _) (Yi (show AV.slice (.id 2000 2) []=_ by rw[h]) (show Ag [(2000,HO.tok 2 0)] Ad=_ by simp_all)))
  .refine cU [(0,sl Af l)] [] Z1 Tv (Xi 2 (Yi DG ?_));exact Xi _ (Yi (.refl _) (Yi e3 (Ab (fun o=>Ag [(2000,o)] Ad) e2)))
theorem pW(l:List Sl)(hl:Cz l):Bd Tryz.prog 76 [sl Al l] (Ag [] Ad) fun r h'=>r=.slice (.id 2000 4) (l.map Al)/\h'=Ag [(2000,.tok 4 (l.map Al).length)] Ad:=by
 refine Bm (IF (uE 4)) [(2,2000)] rfl BB hm rfl Tryz.func76 aa3 rfl (Nz rfl) aa3 rfl ?_;have DG:BX 4 (l.map Al)/\([]:List (List AV)).length=0/\(([]:List (List AV)).length+(l.map Al).length)*40<=140737488355328/\([]:List (List AV)).length+(l.map Al).length<=9223372036854775807:=by
  grind [DK]
 have e2:HO.tok 4 (([]:List (List AV)).length+(l.map Al).length)=.tok 4 (l.map Al).length:=Wk
 have e3:AV.slice (.id 2000 4) ([]++l.map Al)=.slice (.id 2000 4) (l.map Al):=rfl;refine Xi 0 (Xi 0 (Yi ?_ ?_))
 .intro _;refine cU [(0,sl Al l)] [] Z1 Tv (Xi 2 (Yi DG ?_));exact Xi _ (Yi (.refl _) (Yi e3 (Ab (fun o=>Ag [(2000,o)] Ad) e2)))
 .intro h;refine Yi ?_ ?_
  .refine Xi ⟨[],[],Ad⟩ (Yi ⟨trivial,trivial,fun _=>.inl rfl,Bp aa3⟩ ?_);refine Xi 0 ?_;exact Xi _ (Yi (.refl _) (Yi (show AV.slice (.id 2000 4) []=_ by rw[h]) (show Ag [(2000,HO.tok 4 0)] Ad=_ by simp_all)))
  .refine cU [(0,sl Al l)] [] Z1 Tv (Xi 2 (Yi DG ?_));exact Xi _ (Yi (.refl _) (Yi e3 (Ab (fun o=>Ag [(2000,o)] Ad) e2)))
abbrev zR:Nm:=⟨[9,16],[],[],[],[],[],[],[],[(98,3)],[],[5,6,7,8,10,11,13,14]⟩
abbrev Zo(p:List Sk×Bool):AV:=.tup [sl AJ p.1,vb p.2]
def WJ(v:Zk)(o:Rl)(x:List Rl)(k:List Sk):List Sk×Bool:=match k with
  | []=>([],false)
  |y::k'=>if !decide (y.path=v.rel.path)||!decide (y.place=plc o.ver)then([],false)else match EH d y.inf with
   |none=>([],false)
   |some t=>if B7 t (v.before++[DJ o])then DV d v x k' else([],false)
theorem Vm(v:Zk)(o:Rl)(x:List Rl)(k:List Sk):DV d v (o::x) k =
  if !decide (o.path=v.rel.path)||o.yanked||!decide (plc o.ver<plc v.rel.ver)then DV d v x k else
  if v.needs.any (fun q=>decide (q.path=v.rel.path)&&!has q.set (plc o.ver))then DV d v x k else WJ d v o x k:=by
 cases k<;>rfl
theorem MJ{d:List (List Tm)}{v:Zk}{x:List Rl}(h:i<x.length){k:List Sk}{p:List Sk×Bool}(e:p=DV d v (x.drop i) k)(hs:(!decide (x[i].path=v.rel.path)||x[i].yanked||!decide (plc x[i].ver<plc v.rel.ver))=true\/v.needs.any (fun q=>decide (q.path=v.rel.path)&&!has q.set (plc x[i].ver))=true):p=DV d v (x.drop (i+1)) k:=by
 grind [List.drop_eq_getElem_cons,Vm]
theorem nX{d:List (List Tm)}{v:Zk}{x:List Rl}(h:i<x.length){k:List Sk}{p:List Sk×Bool}(e:p=DV d v (x.drop i) k)(h1:x[i].path=v.rel.path)(h2:x[i].yanked=false)(h3:plc x[i].ver<plc v.rel.ver)(h4:v.needs.any (fun q=>decide (q.path=v.rel.path)&&!has q.set (plc x[i].ver))=false):p=WJ d v x[i] (x.drop (i+1)) k:=by
 grind [List.drop_eq_getElem_cons,Vm]
theorem Ke:DW (.tup [nzA,vb false]) (Zo ([],false)):=DW.tup ⟨.nil,.refl _,trivial⟩
theorem fZ(k:List Sk):(((k.map AJ).take ((k.map AJ).length:Int).toNat).drop (1:Int).toNat)=(k.drop 1).map AJ:=by
 grind [List.take_length,List.map_drop]
theorem c47(ifs:AV)(roots:List Rq)(d:List (List Tm))(k:List Sk)(before:List Sl)(needs:List Rq)(r:Rl)(hx:x.length<=256)(_hd:d.length<=65536)(ht:∀t∈d,Vz t)(hb:before.length<=1000)(hn:Cz needs)(hq:∀q∈needs,Cz q.set) :
  PC 110 [.cptr (Ck x ifs roots d),sl AJ k,sl Al before,sl Af needs,.agg (At r)] (Zo (DV d ⟨before,needs,r⟩ x k)):=by
 have yu:Cz before:=B0
 obtain⟨P,hP⟩:∃P,P=DV d ⟨before,needs,r⟩ x k:=⟨_,rfl⟩;rw[<-hP];refine Ps zR Tryz.func110 rfl (Nz rfl) (yN (Xi .pure (Xi _ (Yi (pX r.ver) (Xi {p:Nat×List Sk // p.1<=x.length/\P=DV d ⟨before,needs,r⟩ (x.drop p.1) p.2} (Xi (fun p=>⟨[(0,.cptr (Ck x ifs roots d)),(1,sl AJ p.1.2),(2,sl Al before),(3,sl Af needs),(9,.ref 9 0),(12,vi (plc r.ver)),(29,sl At x),(30,vi (x.map At).length),(31,vi p.1.1)],[(9,.ro (At r))],Ad⟩) (Xi (fun p=>x.length-p.1.1) (Yi (Xi ⟨(0,k),Ao _,hP⟩ ?_) ?_))))))))
 .exact⟨Z9,Z1,Fh,Tv⟩
 intro⟨⟨i,k⟩,i1,i2⟩;refine Yi ?_ ?_
 .intro h;have h:i<x.length:=Wk
  have hg:x[i]?=some x[i]:=Ge h;refine Xi (At x[i]) (Yi (Yi B0 Wk) (Yi rfl ?_));refine Yi (Nz rfl) (yN (cU [(0,.cptr (Ck x ifs roots d)),(1,sl AJ k),(2,sl Al before),(3,sl Af needs),(9,.ref 9 0),(12,vi (plc r.ver)),(15,.ref 15 0),(29,sl At x),(30,vi (x.map At).length),(31,vi i)] [(9,.ro (At r)),(15,.cells (At x[i]))] Z10 Z2 (yN (Xi .pure (Xi _ (Yi (pX x[i].ver) (yN (cU [(0,.cptr (Ck x ifs roots d)),(1,sl AJ k),(2,sl Al before),(3,sl Af needs),(9,.ref 9 0),(12,vi (plc r.ver)),(15,.ref 15 0),(16,.ref 16 0),(29,sl At x),(30,vi (x.map At).length),(31,vi i)] [(9,.ro (At r)),(15,.cells (At x[i])),(16,.ro [vi (plc x[i].ver)])] Z11 Z3 (Yi ?_ ?_)))))))))
  .intro h1;have i3:=MJ h i2 (.inl Wk);refine cU [(0,.cptr (Ck x ifs roots d)),(1,sl AJ k),(2,sl Al before),(3,sl Af needs),(9,.ref 9 0),(12,vi (plc r.ver)),(29,sl At x),(30,vi (x.map At).length),(31,vi i)] [(9,.ro (At r))] Z9 Z1 (Yi (by grind [A8]) (Xi ⟨(i+1,k),by omega,i3⟩ ?_));exact⟨by grind,Z9,Z1,Fh,Tv⟩
  intro h1;have h1:x[i].path=r.path:=BZ.1 h1;refine Yi ?_ ?_
  .intro h2;have i3:=MJ h i2 (.inl Wk);refine cU [(0,.cptr (Ck x ifs roots d)),(1,sl AJ k),(2,sl Al before),(3,sl Af needs),(9,.ref 9 0),(12,vi (plc r.ver)),(29,sl At x),(30,vi (x.map At).length),(31,vi i)] [(9,.ro (At r))] Z9 Z1 (Yi (by grind [A8]) (Xi ⟨(i+1,k),by omega,i3⟩ ?_));exact⟨by grind,Z9,Z1,Fh,Tv⟩
  intro h2;refine Yi ?_ ?_
  .intro h3;have i3:=MJ h i2 (.inl Wk);refine cU [(0,.cptr (Ck x ifs roots d)),(1,sl AJ k),(2,sl Al before),(3,sl Af needs),(9,.ref 9 0),(12,vi (plc r.ver)),(29,sl At x),(30,vi (x.map At).length),(31,vi i)] [(9,.ro (At r))] Z9 Z1 (Yi (by grind [A8]) (Xi ⟨(i+1,k),by omega,i3⟩ ?_));exact⟨by grind,Z9,Z1,Fh,Tv⟩
  intro h3;have h3:plc x[i].ver<plc r.ver:=B0
  refine cU [(0,.cptr (Ck x ifs roots d)),(1,sl AJ k),(2,sl Al before),(3,sl Af needs),(9,.ref 9 0),(12,vi (plc r.ver)),(15,.ref 15 0),(16,.ref 16 0),(29,sl At x),(30,vi (x.map At).length),(31,vi i)] [(9,.ro (At r)),(15,.cells (At x[i])),(16,.ro [vi (plc x[i].ver)])] Z11 Z3 ?_
  have yy:∀q∈needs,PC 187 ([.agg (Af q)]++[.cptr (At r),.cptr [vi (plc x[i].ver)]]) (vb (decide (q.path=r.path)&&!has q.set (plc x[i].ver))):=fun q hh=>c90 q r (plc x[i].ver) (hq q hh);have KB:=xR (fF:=187) (caps:=[.cptr (At r),.cptr [vi (plc x[i].ver)]]) (fun c hc=>by
   rcases AM.1 hc with rfl | hc
   .intro h;rfl
   .obtain rfl:=AC.1 hc;intro h;rfl) needs (fun q=>decide (q.path=r.path)&&!has q.set (plc x[i].ver)) yy hn
  refine BK (Bt (needs.any fun q=>decide (q.path=r.path)&&!has q.set (plc x[i].ver))) (fun h4=>?_) (fun h4=>?_)
  .rw[h4]at KB;refine Xi .pure (Xi _ (Yi (KB) ?_));have i3:=MJ h i2 (.inr h4);refine cU [(0,.cptr (Ck x ifs roots d)),(1,sl AJ k),(2,sl Al before),(3,sl Af needs),(9,.ref 9 0),(12,vi (plc r.ver)),(29,sl At x),(30,vi (x.map At).length),(31,vi i)] [(9,.ro (At r))] Z9 Z1 (Yi (by grind [A8]) (Xi ⟨(i+1,k),by omega,i3⟩ ?_));exact⟨by grind,Z9,Z1,Fh,Tv⟩
  rw[h4]at KB;refine Xi .pure (Xi _ (Yi (KB) ?_));have i4:P=WJ d ⟨before,needs,r⟩ x[i] (x.drop (i+1)) k:=nX h i2 h1 h2 h3 h4;refine cU [(0,.cptr (Ck x ifs roots d)),(1,sl AJ k),(2,sl Al before),(3,sl Af needs),(9,.ref 9 0),(12,vi (plc r.ver)),(15,.ref 15 0),(16,.ref 16 0),(29,sl At x),(30,vi (x.map At).length),(31,vi i)] [(9,.ro (At r)),(15,.cells (At x[i])),(16,.ro [vi (plc x[i].ver)])] Z11 Z3 (Yi ?_ ?_)
  .intro hh;refine Yi aa3 ?_;have e:P=([],false):=by rw[i4,show k=[]from AU Wk];rfl
   exact Ke.trans (.of_eq (show Zo ([],false)=Zo P by rw[e]))
  intro hk;refine A1 (show ∃y k',k=y::k' by cases k<;>simp_all) (fun y hy=>?_)
  refine A1 hy (fun k' hy=>?_);have mA:(k.map AJ)[(0:Int).toNat]?=some (AJ y):=Wk
  have i5:P=WJ d ⟨before,needs,r⟩ x[i] (x.drop (i+1)) (y::k'):=Wk
  refine Xi (AJ y) (Yi (Yi aa2 mA) (Yi rfl (Yi ?_ ?_)))
  .intro hh;refine Yi aa3 ?_;have e:P=([],false):=by rw[i5];show(if _ then _ else _)=_;simp_all
   exact Ke.trans (.of_eq (show Zo ([],false)=Zo P by rw[e]))
  intro h5;have h5:y.path=r.path:=BZ.1 h5;refine Xi (AJ y) (Yi (Yi aa2 mA) (Yi rfl (Yi ?_ ?_)))
  .intro hh;refine Yi aa3 ?_;have e:P=([],false):=by rw[i5];show(if _ then _ else _)=_;simp_all
   exact Ke.trans (.of_eq (show Zo ([],false)=Zo P by rw[e]))
  intro h6;have h6:y.place=plc x[i].ver:=BZ.1 h6;have i6:P=match EH d y.inf with | none=>([],false) | some t=>if B7 t (before++[DJ x[i]])then DV d ⟨before,needs,r⟩ (x.drop (i+1)) k' else([],false):=by
   rw[i5];show(if _ then _ else _)=_;simp_all
  refine Xi (AJ y) (Yi (Yi aa2 mA) (Yi rfl (Yi ?_ ?_)))
  .intro hh;have hh:y.inf<0:=hh;refine Yi aa3 ?_;have e:P=([],false):=by grind [EH]
   exact Ke.trans (.of_eq (show Zo ([],false)=Zo P by rw[e]))
  intro h7;have h7:¬y.inf<0:=h7;refine Xi (AJ y) (Yi (Yi aa2 mA) (Yi rfl (Yi ?_ ?_)))
  .intro hh;have hh:((d.map AD).length:Int)<=y.inf:=hh;refine Yi aa3 ?_;have e:P=([],false):=by grind [EH]
   exact Ke.trans (.of_eq (show Zo ([],false)=Zo P by rw[e]))
  intro h8;have h8:¬((d.map AD).length:Int)<=y.inf:=h8;rw[Lm]at h8;refine Yi aa3 (A1 (show ∃j:Nat,y.inf=j from⟨y.inf.toNat,by omega⟩) (fun j hj=>?_));have we:j<d.length:=B0
  have wb:d[j]?=some d[j]:=Ge we;have zh:EH d y.inf=some d[j]:=by grind [EH]
  rw[zh]at i6;have i6:P=if B7 d[j] (before++[DJ x[i]])then DV d ⟨before,needs,r⟩ (x.drop (i+1)) k' else([],false):=i6
  refine cU [(0,.cptr (Ck x ifs roots d)),(1,sl AJ k),(2,sl Al before),(3,sl Af needs),(9,.ref 9 0),(12,vi (plc r.ver)),(15,.ref 15 0),(29,sl At x),(30,vi (x.map At).length),(31,vi i)] [(9,.ro (At r)),(15,.cells (At x[i]))] Z10 Z2 (Xi 4 (Xi (before.map Al) (Yi rfl (Yi (pW before yu) (yN ?_)))));have DG:BX 4 [[vs x[i].path,vi x[i].ver.a,vi x[i].ver.b,vi x[i].ver.c]]/\(before.map Al).length=(before.map Al).length/\((before.map Al).length+[[vs x[i].path,vi x[i].ver.a,vi x[i].ver.b,vi x[i].ver.c]].length)*40<=140737488355328/\(before.map Al).length+[[vs x[i].path,vi x[i].ver.a,vi x[i].ver.b,vi x[i].ver.c]].length<=9223372036854775807:=
   ⟨⟨rfl,trivial⟩,rfl,by grind,by grind⟩
  refine Yi DG (Yi aa3 (cU [(0,.cptr (Ck x ifs roots d)),(1,sl AJ k),(2,sl Al before),(3,sl Af needs),(9,.ref 9 0),(12,vi (plc r.ver)),(18,.slice (.id 19800 4) (before.map Al++[[vs x[i].path,vi x[i].ver.a,vi x[i].ver.b,vi x[i].ver.c]])),(29,sl At x),(30,vi (x.map At).length),(31,vi i)] [(9,.ro (At r)),(19800,.tok 4 ((before.map Al).length+[[vs x[i].path,vi x[i].ver.a,vi x[i].ver.b,vi x[i].ver.c]].length))] Z10 Z2 ?_))
  have my:PC 188 [sl Az d[j],.slice .none (before.map Al++[[vs x[i].path,vi x[i].ver.a,vi x[i].ver.b,vi x[i].ver.c]])] (vb (B7 d[j] (before++[DJ x[i]]))):=by
   have:=xS d[j] (before++[DJ x[i]]) (ht _ (Am we)) aa1
   grind [DJ]
  have hgd:(d.map AD)[y.inf.toNat]?=some (AD d[j]):=Wk
  refine Xi (AJ y) (Yi (Yi aa2 mA) (Yi rfl (Xi (AD d[j]) (Yi (Yi B0 hgd) (Yi rfl (BK (Bt (B7 d[j] (before++[DJ x[i]]))) (fun h9=>?_) (fun h9=>?_)))))))
  .rw[h9]at my;refine Xi _ (Yi (my) (Yi aa3 ?_));rw[As h9]at i6;have qu:1<=(k.map AJ).length:=B0
   refine cU [(0,.cptr (Ck x ifs roots d)),(1,sl AJ k),(2,sl Al before),(3,sl Af needs),(9,.ref 9 0),(12,vi (plc r.ver)),(29,sl At x),(30,vi (x.map At).length),(31,vi i)] [(9,.ro (At r))] Z9 Z1 ?_;refine Yi aa1 (Yi (fun c hc=>by
    obtain⟨z,_,rfl⟩:=Ar.1 hc;rfl) ?_)
   have ek:AV.slice .none (((k.map AJ).take ((k.map AJ).length:Int).toNat).drop (1:Int).toNat)=sl AJ k':=by grind [fZ]
   refine cU [(0,.cptr (Ck x ifs roots d)),(1,sl AJ k'),(2,sl Al before),(3,sl Af needs),(9,.ref 9 0),(12,vi (plc r.ver)),(29,sl At x),(30,vi (x.map At).length),(31,vi i)] [(9,.ro (At r))] ⟨Zr,⟨ek,rfl⟩,Zr,Zr,Zr,Zr,Zr,Zr,Zr,Tv⟩ Z1 (Yi (Ii i B0) (Xi ⟨(i+1,k'),by omega,i6⟩ ?_));exact⟨by grind,Z9,Z1,Fh,Tv⟩
  .rw[h9]at my;refine Xi _ (Yi (my) (Yi aa3 ?_));have e:P=([],false):=Wk
   exact Ke.trans (.of_eq (show Zo ([],false)=Zo P by rw[e]))
 .intro h;have h:¬(i:Int)<(x.map At).length:=h;have h:¬i<x.length:=Wk
  have e:P=(k,true):=by rw[i2,Uc B0];rfl
  exact .of_eq (show Zo (k,true)=Zo P by rw[e])
abbrev sH(a:Bool×List Sk):List (Nat×HO):=[(1000,.cells [sl AJ a.2]),(1001,.cells [vb a.1])]
theorem c46(ifs:AV)(roots:List Rq)(d:List (List Tm))(a:Bool×List Sk)(before:List Sl)(needs:List Rq)(r:Rl)(hx:x.length<=256)(hd:d.length<=65536)(ht:∀t∈d,Vz t)(hb:before.length<=1000)(hn:Cz needs)(hq:∀q∈needs,Cz q.set) :
  Bd Tryz.prog 109 [sl Al before,sl Af needs,.agg (At r),.cptr [.cptr (Ck x ifs roots d)],.ref 1000 0,.ref 1001 0] (Ag (sH a) Ad) fun v h'=>v=.tup []/\h'=Ag (sH (CT x d a ⟨before,needs,r⟩)) Ad:=by
 obtain⟨b,k⟩:=a;have hc:=c47 x ifs roots d k before needs r hx hd ht hb hn hq;obtain⟨p,hp⟩:∃p,p=DV d ⟨before,needs,r⟩ x k:=⟨_,rfl⟩;have es:CT x d (b,k) ⟨before,needs,r⟩=(b&&p.2&&!r.yanked,p.1):=by grind [CT]
 rw[<-hp]at hc;rw[es];obtain⟨k2,ok⟩:=p;have fin:∀z:Bool,z=(b&&ok&&!r.yanked)->Ag (sH (z,k2)) Ad=Ag (sH (b&&(k2,ok).2&&!r.yanked,(k2,ok).1)) Ad:=fun z hz=>by rw[hz]
 cases ok with
 |false=>
  refine Bm (IF Ea) [(1000,1000),(1001,1001)] rfl BB hm rfl Tryz.func109 aa3 rfl (Nz rfl) aa3 rfl (yN (Xi .pure (Xi _ (Yi (hc) (Yi ?_ ?_)))))
  .intro h1;refine yN (yN ?_);exact Xi _ (Yi (.refl _) (Yi rfl (fin false Wk)))
  .intro h1;refine yN (yN ?_);exact Xi _ (Yi (.refl _) (Yi rfl (fin false Wk)))
 |true=>
  refine Bm (IF Ea) [(1000,1000),(1001,1001)] rfl BB hm rfl Tryz.func109 aa3 rfl (Nz rfl) aa3 rfl (yN (Xi .pure (Xi _ (Yi (hc) (Yi ?_ ?_)))))
  .intro h1;have h1:b=true:=h1;refine Yi ?_ ?_
   .intro h2;have h2:r.yanked=true:=h2;refine yN (yN ?_);exact Xi _ (Yi (.refl _) (Yi rfl (fin false Wk)))
   .intro h2;have h2:r.yanked=false:=h2;refine yN (yN ?_);exact Xi _ (Yi (.refl _) (Yi rfl (fin true Wk)))
  .intro h1;have h1:b=false:=h1;refine yN (yN ?_);exact Xi _ (Yi (.refl _) (Yi rfl (fin false Wk)))
def Ds(acc:Option ByteArray)(q:Rq):Option ByteArray:=if Ch before q.path then acc else match acc with
  |none=>some q.path
  |some p=>if E0 q.path p then some q.path else some p
theorem M8(before:List Sl):∀(a b:List Rq) (acc:Option ByteArray),Cv before (a++b) acc=Cv before b (Cv before a acc)
 | [],_,_=>rfl
 |q::a,b,acc=>M8 before a b (if Ch before q.path then acc else match acc with |none=>some q.path |some p=>if E0 q.path p then some q.path else some p)
theorem Yl(l:List Rq)(acc:Option ByteArray){j:Nat}(h:j<l.length):Cv before (l.take (j+1)) acc=Ds before (Cv before (l.take j) acc) l[j]:=by
 rw[CE,Ge h];show Cv before (l.take j++[l[j]]) acc=_;rw[M8];rfl
structure DI{S:Type}(x:List Rl)(roots:List Rq)(s:List Sl)(step:S->Zk->S)(T8:S)(before:List Sl)(needs:List Rq)(n:Nat)(st:S):Prop where
 nd:(before.map (·.path)).Nodup
 sub:∀y∈before,y∈s
 fuel:before.length+n=s.length+1
 few:∀q∈needs,Cz q.set
 len:needs.length<=roots.length+16*before.length
 ok:(visits x roots s).2=(Ew x s n before needs).2
 fold:(visits x roots s).1.foldl step T8=(Ew x s n before needs).1.foldl step st
section
variable {S:Type}{x:List Rl}{roots:List Rq}{s:List Sl}{step:S->Zk->S}{T8:S}{before:List Sl}{needs:List Rq}{n:Nat}{st:S}
theorem DI.start(hq:∀q∈roots,Cz q.set)(T8:S):DI x roots s step T8 [] roots (s.length+1) T8:=
 ⟨by simp,fun _ h=>(by cases h),by simp,hq,by simp,rfl,rfl⟩
theorem DI.lt(h:DI x roots s step T8 before needs n st):before.length<=s.length:=by
 have:=Da (m:=s.map (·.path)) h.nd fun p hp=>by
  grind [DI.sub]
 simp_all
theorem DI.pos(h:DI x roots s step T8 before needs n st):∃m,n=m+1:=by
 have:=h.lt
 have:=h.fuel
 exact⟨n-1,by omega⟩
theorem DI.stop{m:Nat}(h:DI x roots s step T8 before needs (m+1) st)(hp:F9 needs before=none):(visits x roots s).2=true/\(visits x roots s).1.foldl step T8=st:=by
 have h1:=h.ok;have h2:=h.fold
 grind [Ew]
theorem DI.lost{m:Nat}(h:DI x roots s step T8 before needs (m+1) st)(hp:F9 needs before=some p)(hf:BD s p=none):(visits x roots s).2=false/\(visits x roots s).1.foldl step T8=st:=by
 have h1:=h.ok;have h2:=h.fold
 grind [Ew]
theorem DI.gone{m:Nat}(h:DI x roots s step T8 before needs (m+1) st){y:Sl}(hp:F9 needs before=some p)(hf:BD s p=some y)(hr:BL x y=none):(visits x roots s).2=false/\(visits x roots s).1.foldl step T8=st:=by
 have h1:=h.ok;have h2:=h.fold
 grind [Ew]
theorem DI.next{m:Nat}(h:DI x roots s step T8 before needs (m+1) st){y:Sl}{r:Rl}(hp:F9 needs before=some p)(hf:BD s p=some y)(hr:BL x y=some r)(hl:r.reqs.length<=16)(hq:∀q∈r.reqs,Cz q.set) :
  DI x roots s step T8 (before++[y]) (needs++r.reqs) m (step st ⟨before,needs,r⟩):=by
 have h1:=h.ok;have h2:=h.fold;unfold Ew at h1 h2;rw[hp]at h1 h2;simp only[hf,hr]at h1 h2;obtain⟨g1,g2⟩:=HJ hp<;>grind [F6,Jn,EC,DI.mk,DI.nd,DI.sub,DI.fuel,DI.few,DI.len]
end
theorem eG(s:List Sl)(p:ByteArray):(JI (fun y:Sl=>decide (y.path=p)) s 0=-1/\BD s p=none)\/∃i y,JI (fun y:Sl=>decide (y.path=p)) s 0=(i:Nat)/\s[i]?=some y/\BD s p=some y:=by
 rcases LR (p:=fun y:Sl=>decide (y.path=p)) s 0 with h | ⟨i,y,h1,h2,h3⟩
 .exact .inl h
 .exact .inr ⟨i,y,by omega,h2,h3⟩
abbrev zQ:Nm:=⟨[12],[(8,4)],[],[(49,[9])],[],[],[],[],[],[],[3,8,9,11,12,14,15,17,18,20,21]⟩
theorem xN(s:List Sl)(T8:Bool×List Sk)(SJ:gx x ifs)(h0:AX x=0)(hx:∀r∈x,IX r)(hrl:roots.length<=1000)(mH:∀q∈roots,Cz q.set)(hs:s.length<=500)(hd:d.length<=65536)(ht:∀t∈d,Vz t) :
  Bd Tryz.prog 108 [.cptr (Ck x (.slice .none ifs) roots d),sl Al s,.clo 109 [.cptr [.cptr (Ck x (.slice .none ifs) roots d)],.ref 1000 0,.ref 1001 0]] (Ag (sH T8) Ad) fun r h'=>r=vb (visits x roots s).2/\h'=Ag (sH ((visits x roots s).1.foldl (CT x d) T8)) Ad:=by
 have jb:=(I3 h0).2;have wu:Cz roots:=B0
 refine Bm (IF zQ) [(1000,1000),(1001,1001)] rfl BB hm rfl Tryz.func108 aa3 rfl (Nz rfl) aa3 rfl (Xi (.gen [] 1) (Yi rfl ((sJ roots wu).imp ?_)));intro v g q;have q1:=q.1;have q2:=q.2;subst q1;subst q2
 clear q
 refine Xi {p:List Sl×List Rq×Nat×Bool×List Sk // DI x roots s (CT x d) T8 p.1 p.2.1 p.2.2.1 p.2.2.2} (Xi (fun p=>⟨[(0,.cptr (Ck x (.slice .none ifs) roots d)),(1,sl Al s),(2,.clo 109 [.cptr [.cptr (Ck x (.slice .none ifs) roots d)],.ref 1000 0,.ref 1001 0]),(7,.slice (.id 12100 2) (p.1.2.1.map Af)),(8,.slice (.id 8 4) (p.1.1.map Al))],[(8,.tok 4 (p.1.1.map Al).length),(12100,.tok 2 (p.1.2.1.map Af).length),(1000,.cells [sl AJ p.1.2.2.2.2]),(1001,.cells [vb p.1.2.2.2.1])],Ad⟩) (Xi (fun p=>p.1.2.2.1) (Yi (Xi ⟨([],roots,s.length+1,T8),DI.start mH T8⟩ ?_) ?_)))
 .exact⟨Z5,Z4,Fh,Bp aa3⟩
 intro⟨⟨before,needs,n,st⟩,inv⟩;refine A1 inv.pos (fun m tQ=>?_);have inv:DI x roots s (CT x d) T8 before needs (m+1) st:=tQ▸inv;have hbl:=inv.lt;have hnl:=inv.len;have zd:Cz needs:=B0
 have yu:Cz before:=B0
 refine cU [(0,.cptr (Ck x (.slice .none ifs) roots d)),(1,sl Al s),(2,.clo 109 [.cptr [.cptr (Ck x (.slice .none ifs) roots d)],.ref 1000 0,.ref 1001 0]),(7,.slice (.id 12100 2) (needs.map Af)),(8,.slice (.id 8 4) (before.map Al))] [(8,.tok 4 (before.map Al).length),(12100,.tok 2 (needs.map Af).length),(1000,.cells [sl AJ st.2]),(1001,.cells [vb st.1])] Z5 Z4 (yN (Xi {p:Nat×Option ByteArray // p.1<=needs.length/\p.2=Cv before (needs.take p.1) none} (Xi (fun p=>⟨[(0,.cptr (Ck x (.slice .none ifs) roots d)),(1,sl Al s),(2,.clo 109 [.cptr [.cptr (Ck x (.slice .none ifs) roots d)],.ref 1000 0,.ref 1001 0]),(7,.slice (.id 12100 2) (needs.map Af)),(8,.slice (.id 8 4) (before.map Al)),(9,.ref 9 0),(10,vb p.1.2.isSome),(22,.slice (.id 12100 2) (needs.map Af)),(23,vi (needs.map Af).length),(24,vi p.1.1)],[(8,.tok 4 (before.map Al).length),(12100,.tok 2 (needs.map Af).length),(1000,.cells [sl AJ st.2]),(1001,.cells [vb st.1]),(9,.cells [vs (p.1.2.getD mt)])],Ad⟩) (Xi (fun p=>needs.length-p.1.1) (Yi (Xi ⟨(0,none),Ao _,rfl⟩ ?_) ?_)))))
 .exact⟨Z10,Z5,Fh,Bp aa3⟩
 intro⟨⟨j,acc⟩,j1,j2⟩;have j2:acc=Cv before (needs.take j) none:=j2;refine Yi ?_ ?_
 .intro h;have h:(j:Int)<(needs.map Af).length:=h;have h:j<needs.length:=Wk
  have hg:needs[j]?=some needs[j]:=Ge h;have mD:=Yl before needs none h;rw[<-j2]at mD;refine Xi (Af needs[j]) (Yi (Yi B0 Wk) (Yi rfl ?_));refine Yi (Nz rfl) (yN (cU [(0,.cptr (Ck x (.slice .none ifs) roots d)),(1,sl Al s),(2,.clo 109 [.cptr [.cptr (Ck x (.slice .none ifs) roots d)],.ref 1000 0,.ref 1001 0]),(7,.slice (.id 12100 2) (needs.map Af)),(8,.slice (.id 8 4) (before.map Al)),(9,.ref 9 0),(10,vb acc.isSome),(12,.ref 12 0),(22,.slice (.id 12100 2) (needs.map Af)),(23,vi (needs.map Af).length),(24,vi j)] [(8,.tok 4 (before.map Al).length),(12100,.tok 2 (needs.map Af).length),(1000,.cells [sl AJ st.2]),(1001,.cells [vb st.1]),(9,.cells [vs (acc.getD mt)]),(12,.ro (Af needs[j]))] Z11 Z6 ?_))
  have mq:PC 183 [sl Al before,.clo 184 [.cptr (Af needs[j])]] (vb (Ch before needs[j].path)):=c51 (fF:=184) (caps:=[.cptr (Af needs[j])]) (fun c hc=>by
   obtain rfl:=AC.1 hc;intro h;rfl) before (fun y=>decide (y.path=needs[j].path)) (fun y _=>c77 y needs[j]) yu
  refine BK (Bt (Ch before needs[j].path)) (fun hd=>?_) (fun hd=>?_)
  .rw[hd]at mq;refine Xi .pure (Xi _ (Yi (mq) ?_));have IM:Ds before acc needs[j]=acc:=by unfold Ds;simp_all
   refine cU [(0,.cptr (Ck x (.slice .none ifs) roots d)),(1,sl Al s),(2,.clo 109 [.cptr [.cptr (Ck x (.slice .none ifs) roots d)],.ref 1000 0,.ref 1001 0]),(7,.slice (.id 12100 2) (needs.map Af)),(8,.slice (.id 8 4) (before.map Al)),(9,.ref 9 0),(10,vb acc.isSome),(13,vb true),(22,.slice (.id 12100 2) (needs.map Af)),(23,vi (needs.map Af).length),(24,vi j)] [(8,.tok 4 (before.map Al).length),(12100,.tok 2 (needs.map Af).length),(1000,.cells [sl AJ st.2]),(1001,.cells [vb st.1]),(9,.cells [vs (acc.getD mt)])] Z11 Z5 (cU [(0,.cptr (Ck x (.slice .none ifs) roots d)),(1,sl Al s),(2,.clo 109 [.cptr [.cptr (Ck x (.slice .none ifs) roots d)],.ref 1000 0,.ref 1001 0]),(7,.slice (.id 12100 2) (needs.map Af)),(8,.slice (.id 8 4) (before.map Al)),(9,.ref 9 0),(10,vb (Ds before acc needs[j]).isSome),(22,.slice (.id 12100 2) (needs.map Af)),(23,vi (needs.map Af).length),(24,vi j)] [(8,.tok 4 (before.map Al).length),(12100,.tok 2 (needs.map Af).length),(1000,.cells [sl AJ st.2]),(1001,.cells [vb st.1]),(9,.cells [vs ((Ds before acc needs[j]).getD mt)])] ⟨Zr,Zr,Zr,Zr,Zr,Zr,⟨Ab vb (Ab Option.isSome IM.symm),rfl⟩,Zr,Zr,Zr,Tv⟩ ⟨Zr,Zr,Zr,Zr,⟨Ab (fun a=>HO.cells [vs (Option.getD a mt)]) IM.symm,rfl⟩,Tv⟩ (Yi (by show A8 ((j:Int)+1);grind [A8]) (Xi ⟨(j+1,Ds before acc needs[j]),by omega,mD.symm⟩ ?_)));exact⟨by grind,Z10,Z5,Fh,Bp aa3⟩
  rw[hd]at mq;refine Xi .pure (Xi _ (Yi (mq) ?_));refine BK (show acc=none\/∃p,acc=some p by cases acc<;>grind) (fun ha=>?_) (fun ha=>?_)
  .have IM:Ds before acc needs[j]=some needs[j].path:=by grind [Ds]
   refine cU [(0,.cptr (Ck x (.slice .none ifs) roots d)),(1,sl Al s),(2,.clo 109 [.cptr [.cptr (Ck x (.slice .none ifs) roots d)],.ref 1000 0,.ref 1001 0]),(7,.slice (.id 12100 2) (needs.map Af)),(8,.slice (.id 8 4) (before.map Al)),(9,.ref 9 0),(10,vb false),(12,.ref 12 0),(13,vb false),(22,.slice (.id 12100 2) (needs.map Af)),(23,vi (needs.map Af).length),(24,vi j)] [(8,.tok 4 (before.map Al).length),(12100,.tok 2 (needs.map Af).length),(1000,.cells [sl AJ st.2]),(1001,.cells [vb st.1]),(9,.cells [vs mt]),(12,.ro (Af needs[j]))] ⟨Zr,Zr,Zr,Zr,Zr,Zr,⟨by show vb acc.isSome=vb false;grind,rfl⟩,Zr,Zr,Zr,Zr,Zr,Tv⟩ ⟨Zr,Zr,Zr,Zr,⟨by show HO.cells [vs (acc.getD mt)]=HO.cells [vs mt];grind,rfl⟩,Zr,Tv⟩ ?_
   refine yN (cU [(0,.cptr (Ck x (.slice .none ifs) roots d)),(1,sl Al s),(2,.clo 109 [.cptr [.cptr (Ck x (.slice .none ifs) roots d)],.ref 1000 0,.ref 1001 0]),(7,.slice (.id 12100 2) (needs.map Af)),(8,.slice (.id 8 4) (before.map Al)),(9,.ref 9 0),(10,vb (Ds before acc needs[j]).isSome),(22,.slice (.id 12100 2) (needs.map Af)),(23,vi (needs.map Af).length),(24,vi j)] [(8,.tok 4 (before.map Al).length),(12100,.tok 2 (needs.map Af).length),(1000,.cells [sl AJ st.2]),(1001,.cells [vb st.1]),(9,.cells [vs ((Ds before acc needs[j]).getD mt)])] ⟨Zr,Zr,Zr,Zr,Zr,Zr,⟨by show vb true=_;grind,rfl⟩,Zr,Zr,Zr,Tv⟩ ⟨Zr,Zr,Zr,Zr,⟨by show HO.cells [vs needs[j].path]=_;grind,rfl⟩,Tv⟩ ?_)
   refine Yi (by grind [A8]) (Xi ⟨(j+1,Ds before acc needs[j]),by omega,mD.symm⟩ ?_);exact⟨by grind,Z10,Z5,Fh,Bp aa3⟩
  refine A1 ha (fun p ha=>?_);refine cU [(0,.cptr (Ck x (.slice .none ifs) roots d)),(1,sl Al s),(2,.clo 109 [.cptr [.cptr (Ck x (.slice .none ifs) roots d)],.ref 1000 0,.ref 1001 0]),(7,.slice (.id 12100 2) (needs.map Af)),(8,.slice (.id 8 4) (before.map Al)),(9,.ref 9 0),(10,vb true),(12,.ref 12 0),(13,vb false),(22,.slice (.id 12100 2) (needs.map Af)),(23,vi (needs.map Af).length),(24,vi j)] [(8,.tok 4 (before.map Al).length),(12100,.tok 2 (needs.map Af).length),(1000,.cells [sl AJ st.2]),(1001,.cells [vb st.1]),(9,.cells [vs p]),(12,.ro (Af needs[j]))] ⟨Zr,Zr,Zr,Zr,Zr,Zr,⟨by show vb acc.isSome=vb true;grind,rfl⟩,Zr,Zr,Zr,Zr,Zr,Tv⟩ ⟨Zr,Zr,Zr,Zr,⟨by show HO.cells [vs (acc.getD mt)]=HO.cells [vs p];grind,rfl⟩,Zr,Tv⟩ ?_
  refine Yi ?_ ?_
  .intro hb;have hb:Op.bytesLess needs[j].path.toList p.toList=true:=hb;rw[<-Gw]at hb;have IM:Ds before acc needs[j]=some needs[j].path:=by grind [Ds]
   refine yN (cU [(0,.cptr (Ck x (.slice .none ifs) roots d)),(1,sl Al s),(2,.clo 109 [.cptr [.cptr (Ck x (.slice .none ifs) roots d)],.ref 1000 0,.ref 1001 0]),(7,.slice (.id 12100 2) (needs.map Af)),(8,.slice (.id 8 4) (before.map Al)),(9,.ref 9 0),(10,vb (Ds before acc needs[j]).isSome),(22,.slice (.id 12100 2) (needs.map Af)),(23,vi (needs.map Af).length),(24,vi j)] [(8,.tok 4 (before.map Al).length),(12100,.tok 2 (needs.map Af).length),(1000,.cells [sl AJ st.2]),(1001,.cells [vb st.1]),(9,.cells [vs ((Ds before acc needs[j]).getD mt)])] ⟨Zr,Zr,Zr,Zr,Zr,Zr,⟨by show vb true=_;simp_all,rfl⟩,Zr,Zr,Zr,Tv⟩ ⟨Zr,Zr,Zr,Zr,⟨by show HO.cells [vs needs[j].path]=_;simp_all,rfl⟩,Tv⟩ ?_)
   refine Yi (by grind [A8]) (Xi ⟨(j+1,Ds before acc needs[j]),by omega,mD.symm⟩ ?_);exact⟨by grind,Z10,Z5,Fh,Bp aa3⟩
  .intro hb;have hb:¬Op.bytesLess needs[j].path.toList p.toList=true:=hb;rw[<-Gw]at hb;have IM:Ds before acc needs[j]=some p:=by grind [Ds]
   refine cU [(0,.cptr (Ck x (.slice .none ifs) roots d)),(1,sl Al s),(2,.clo 109 [.cptr [.cptr (Ck x (.slice .none ifs) roots d)],.ref 1000 0,.ref 1001 0]),(7,.slice (.id 12100 2) (needs.map Af)),(8,.slice (.id 8 4) (before.map Al)),(9,.ref 9 0),(10,vb (Ds before acc needs[j]).isSome),(22,.slice (.id 12100 2) (needs.map Af)),(23,vi (needs.map Af).length),(24,vi j)] [(8,.tok 4 (before.map Al).length),(12100,.tok 2 (needs.map Af).length),(1000,.cells [sl AJ st.2]),(1001,.cells [vb st.1]),(9,.cells [vs ((Ds before acc needs[j]).getD mt)])] ⟨Zr,Zr,Zr,Zr,Zr,Zr,⟨by show vb true=_;grind,rfl⟩,Zr,Zr,Zr,Tv⟩ ⟨Zr,Zr,Zr,Zr,⟨by show HO.cells [vs p]=_;grind,rfl⟩,Tv⟩ ?_
   refine Yi (by grind [A8]) (Xi ⟨(j+1,Ds before acc needs[j]),by omega,mD.symm⟩ ?_);exact⟨by grind,Z10,Z5,Fh,Bp aa3⟩
 intro h;have h:¬(j:Int)<(needs.map Af).length:=h;have h:¬j<needs.length:=Wk
 have rJ:F9 needs before=acc:=by rw[j2,Bj B0];rfl
 refine BK (show acc=none\/∃p,acc=some p by cases acc<;>grind) (fun ha=>?_) (fun ha=>?_)
 .have LK:=inv.stop (rJ.trans ha);refine cU [(10,vb false)] [(1000,.cells [sl AJ st.2]),(1001,.cells [vb st.1])] ⟨⟨by show vb acc.isSome=vb false;grind,rfl⟩,Tv⟩ Z2 ?_
  exact Xi _ (Yi (.refl _) (Yi (Ab vb LK.1.symm) (Ab (fun a=>Ag (sH a) Ad) LK.2.symm)))
 refine A1 ha (fun p ha=>?_);have rJ:F9 needs before=some p:=rJ.trans ha;refine cU [(0,.cptr (Ck x (.slice .none ifs) roots d)),(1,sl Al s),(2,.clo 109 [.cptr [.cptr (Ck x (.slice .none ifs) roots d)],.ref 1000 0,.ref 1001 0]),(7,.slice (.id 12100 2) (needs.map Af)),(8,.slice (.id 8 4) (before.map Al)),(9,.ref 9 0),(10,vb true)] [(8,.tok 4 (before.map Al).length),(12100,.tok 2 (needs.map Af).length),(1000,.cells [sl AJ st.2]),(1001,.cells [vb st.1]),(9,.cells [vs p])] ⟨Zr,Zr,Zr,Zr,Zr,Zr,⟨by show vb acc.isSome=vb true;grind,rfl⟩,Tv⟩ ⟨Zr,Zr,Zr,Zr,⟨by show HO.cells [vs (acc.getD mt)]=HO.cells [vs p];grind,rfl⟩,Tv⟩ ?_
 refine cU [(0,.cptr (Ck x (.slice .none ifs) roots d)),(1,sl Al s),(2,.clo 109 [.cptr [.cptr (Ck x (.slice .none ifs) roots d)],.ref 1000 0,.ref 1001 0]),(7,.slice (.id 12100 2) (needs.map Af)),(8,.slice (.id 8 4) (before.map Al)),(9,.ref 9 0)] [(8,.tok 4 (before.map Al).length),(12100,.tok 2 (needs.map Af).length),(1000,.cells [sl AJ st.2]),(1001,.cells [vb st.1]),(9,.cells [vs p])] Z6 Z5 ?_
 have mu:=xP (fF:=186) (caps:=[.cptr [vs p]]) (fun c hc=>by
  obtain rfl:=AC.1 hc;intro h;rfl) s (fun y=>decide (y.path=p)) (fun y _=>c79 y p) B0
 refine BK (eG s p) (fun hi=>?_) (fun hi=>?_)
 .rw[hi.1]at mu;have LK:=inv.lost rJ hi.2;refine Xi .pure (Xi _ (Yi (mu) (cU [(14,vi (-1))] [(1000,.cells [sl AJ st.2]),(1001,.cells [vb st.1])] Z1 Z2 (Yi ?_ ?_))))
  .intro _;exact Xi _ (Yi (.refl _) (Yi (Ab vb LK.1.symm) (Ab (fun a=>Ag (sH a) Ad) LK.2.symm)))
  .intro hc;exact absurd (show((-1:Int)<0) by decide) hc
 refine A1 hi (fun i hi=>?_);refine A1 hi (fun y hi=>?_);have hi2:=hi.2.1;have hi3:=hi.2.2;rw[hi.1]at mu;refine Xi .pure (Xi _ (Yi (mu) (cU [(0,.cptr (Ck x (.slice .none ifs) roots d)),(1,sl Al s),(2,.clo 109 [.cptr [.cptr (Ck x (.slice .none ifs) roots d)],.ref 1000 0,.ref 1001 0]),(7,.slice (.id 12100 2) (needs.map Af)),(8,.slice (.id 8 4) (before.map Al)),(14,vi i)] [(8,.tok 4 (before.map Al).length),(12100,.tok 2 (needs.map Af).length),(1000,.cells [sl AJ st.2]),(1001,.cells [vb st.1])] Z6 Z4 (Yi ?_ ?_))))
 .intro hc;exact absurd (show((i:Int)<0)from hc) B0
 intro _;refine cU [(0,.cptr (Ck x (.slice .none ifs) roots d)),(1,sl Al s),(2,.clo 109 [.cptr [.cptr (Ck x (.slice .none ifs) roots d)],.ref 1000 0,.ref 1001 0]),(7,.slice (.id 12100 2) (needs.map Af)),(8,.slice (.id 8 4) (before.map Al)),(14,vi i)] [(8,.tok 4 (before.map Al).length),(12100,.tok 2 (needs.map Af).length),(1000,.cells [sl AJ st.2]),(1001,.cells [vb st.1])] Z6 Z4 ?_
 have yP:(s.map Al)[(i:Int).toNat]?=some (Al y):=Wk
 have mr:PC 40 [PK x ifs,vs y.path,.agg (Il y.ver)] (M9 (BL x y)):=xO x ifs y.path y.ver SJ hx;refine yN (Xi (Al y) (Yi (Yi B0 yP) (Yi rfl (Xi (Al y) (Yi (Yi B0 yP) (Yi rfl (yN (BK (show BL x y=none\/∃r,BL x y=some r by grind) (fun hr=>?_) (fun hr=>?_)))))))))
 .rw[hr]at mr;have LK:=inv.gone rJ hi3 hr;refine Xi _ (Yi (mr) (yN (Yi aa3 (cU [(16,vb false)] [(1000,.cells [sl AJ st.2]),(1001,.cells [vb st.1])] Z1 Z2 ?_))))
  exact Xi _ (Yi (.refl _) (Yi (Ab vb LK.1.symm) (Ab (fun a=>Ag (sH a) Ad) LK.2.symm)))
 refine A1 hr (fun r hr=>?_);rw[hr]at mr;refine Xi _ (Yi (mr) (yN (Yi aa3 ?_)));have zv:r∈x:=(EE hr).2.1;have yT:=inv.next rJ hi3 hr (jb r zv) (fun q hq=>((hx r zv).2 q hq).1)
 refine cU [(0,.cptr (Ck x (.slice .none ifs) roots d)),(1,sl Al s),(2,.clo 109 [.cptr [.cptr (Ck x (.slice .none ifs) roots d)],.ref 1000 0,.ref 1001 0]),(7,.slice (.id 12100 2) (needs.map Af)),(8,.slice (.id 8 4) (before.map Al)),(14,vi i),(15,.ref 15 0),(16,vb true)] [(8,.tok 4 (before.map Al).length),(12100,.tok 2 (needs.map Af).length),(1000,.cells [sl AJ st.2]),(1001,.cells [vb st.1]),(15,.cells (At r))] Z8 Z5 (cU [(0,.cptr (Ck x (.slice .none ifs) roots d)),(1,sl Al s),(2,.clo 109 [.cptr [.cptr (Ck x (.slice .none ifs) roots d)],.ref 1000 0,.ref 1001 0]),(7,.slice (.id 12100 2) (needs.map Af)),(8,.slice (.id 8 4) (before.map Al)),(14,vi i),(15,.ref 15 0)] [(8,.tok 4 (before.map Al).length),(12100,.tok 2 (needs.map Af).length),(1000,.cells [sl AJ st.2]),(1001,.cells [vb st.1]),(15,.cells (At r))] Z7 Z5 (yN ?_));have zD:=c46 x (.slice .none ifs) roots d st before needs r (I3 h0).1 hd ht B0 zd inv.few;refine Xi (.gen [(1000,1000),(1001,1001)] 0) (Yi rfl (zD.imp ?_));intro v g q;have q1:=q.1;have q2:=q.2;subst q1;subst q2
 clear q
 refine cU [(0,.cptr (Ck x (.slice .none ifs) roots d)),(1,sl Al s),(2,.clo 109 [.cptr [.cptr (Ck x (.slice .none ifs) roots d)],.ref 1000 0,.ref 1001 0]),(7,.slice (.id 12100 2) (needs.map Af)),(8,.slice (.id 8 4) (before.map Al)),(14,vi i),(15,.ref 15 0)] [(8,.tok 4 (before.map Al).length),(12100,.tok 2 (needs.map Af).length),(1000,.cells [sl AJ (CT x d st ⟨before,needs,r⟩).2]),(1001,.cells [vb (CT x d st ⟨before,needs,r⟩).1]),(15,.cells (At r))] Z7 Z5 (Xi (Al y) (Yi (Yi B0 yP) (Yi rfl (yN ?_))));have DG:BX 4 [Al y]/\(before.map Al).length=(before.map Al).length/\((before.map Al).length+[Al y].length)*40<=140737488355328/\(before.map Al).length+[Al y].length<=9223372036854775807:=
  ⟨⟨rfl,trivial⟩,rfl,by grind,by grind⟩
 refine Yi DG ?_;have Wh:=jb r zv;have ot:BX 2 (r.reqs.map Af)/\(needs.map Af).length=(needs.map Af).length/\((needs.map Af).length+(r.reqs.map Af).length)*40<=140737488355328/\(needs.map Af).length+(r.reqs.map Af).length<=9223372036854775807:=
  ⟨DK (enc:=Af) (n:=2) (fun _=>rfl) r.reqs,rfl,by grind,by grind⟩
 refine Yi ot ?_;have e7:AV.slice (.id 12100 2) (needs.map Af++r.reqs.map Af)=.slice (.id 12100 2) ((needs++r.reqs).map Af):=Wk
 have e8:AV.slice (.id 8 4) (before.map Al++[Al y])=.slice (.id 8 4) ((before++[y]).map Al):=Wk
 have o7:HO.tok 2 ((needs.map Af).length+(r.reqs.map Af).length)=.tok 2 ((needs++r.reqs).map Af).length:=Wk
 have o8:HO.tok 4 ((before.map Al).length+[Al y].length)=.tok 4 ((before++[y]).map Al).length:=Wk
 refine Xi ⟨(before++[y],needs++r.reqs,m,(CT x d) st ⟨before,needs,r⟩),yT⟩ ?_;exact⟨by simp_all,⟨Zr,Zr,Zr,⟨e7,rfl⟩,⟨e8,rfl⟩,Tv⟩,⟨⟨o8,rfl⟩,⟨o7,rfl⟩,Zr,Zr,Tv⟩,Fh,Bp aa3⟩
end Go.Eng
