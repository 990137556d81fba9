/- Lemmas 19. -/
import Derived.Test.YtkjhcikodmiceaaGreatDoorVA18
namespace Go.Eng
open Go.Proofs Go.Proofs.Tryz
variable {p:CS}{BY:List (Value×AV)}{i:Nat}(x y:List Rl)(ifs:C0)(d:List (List Tm))(v:V2)(j n:Nat)(o:Rl)(l roots:List Rq)(before:List Sl)
theorem LC:∀(y:List Rl) (acc:List CS) (r:Rl),AP (y++[r]) acc=if(AP y acc).any (fun p=>decide (p=r.path))then AP y acc else AP y acc++[r.path]
 | [],acc,r=>rfl
 |s::y,acc,r=>by rw[F1,AP,AP,LC y]
theorem E5:∀(y:List Rl) (acc:List CS),acc.Nodup->(AP y acc).Nodup
 | [],_,h=>h
 |s::y,acc,h=>by
  rw[AP];refine E5 y _ ?_
  grind
abbrev dq(p:CS):C0:=(y.filter fun r=>decide (r.path=p)).map Am
abbrev xK(q:CS×Nat):Value×AV:=(.string q.1,.slice (.id (q.2+50) 9) (dq y q.1))
abbrev T2:List (Value×AV):=(AP y []).zipIdx.map (xK y)
def LP(l:Nat):HO:=match(AP y [])[l]? with
 |some q=>.tok 9 (dq y q).length
 |none=>.free
def Wz:HO:=bif Nat.ble 50 j then LP y (j-50)else .free
theorem H8(l:Nat):Wz y (l+50)=LP y l:=by
 grind [Wz,Nat.ble_eq]
theorem ur{j:Nat}(h:j<50):Wz y j=.free:=by
 grind [Wz,Nat.ble_eq]
open Classical in
theorem IP{k:Value}{a:AV}(h:∀a',(k,a')∉BY):E7 BY k a=BY++[(k,a)]:=by
 grind [E7]
open Classical in
theorem aF{k:Value}{a a' : AV}(h:(k,a')∈BY):E7 BY k a=BY.map fun p=>if p.1=k then(k,a)else p:=by
 unfold E7;rw[A3 ⟨a',h⟩]
section
variable {y:List Rl}{r:Rl}{k:Nat}
theorem Ny(h:(AP y [])[k]?=some r.path):AP (y++[r]) []=AP y []:=by
 grind [LC]
theorem Nx(h:r.path∉AP y []):AP (y++[r]) []=AP y []++[r.path]:=by
 grind [LC]
theorem JA{l:List CS}(hd:l.Nodup){i j:Nat}(h1:l[i]?=some p)(h2:l[j]?=some p):i=j:=by
 grind [List.getElem_inj]
open Classical in
theorem pY(h:(AP y [])[k]?=some r.path):E7 (T2 y) (.string r.path) (.slice (.id (k+50) 9) (dq y r.path++[Am r]))=T2 (y++[r]):=by
 have hd:=E5 y [] Kx;have hm:xK y (r.path,k)∈T2 y:=Ar.2 ⟨_,HZ.2 h,rfl⟩;rw[aF (a':=.slice (.id (k+50) 9) (dq y r.path)) hm];unfold T2;rw[Ny h,BX];refine Ce fun q hq=>?_
 grind [JA]
theorem fP(h:r.path∉AP y []):dq y r.path=[]:=by
 grind [List.filter_eq_nil_iff,HF]
theorem lK(h:r.path∉AP y [])(a:AV):(Value.string r.path,a)∉T2 y:=by
 grind
theorem pX(h:r.path∉AP y []):E7 (T2 y) (.string r.path) (.slice (.id ((AP y []).length+50) 9) [Am r])=T2 (y++[r]):=by
 grind [IP,Nx,List.map_congr_left,fP]
theorem lM{j:Nat}(h:(AP y [])[j]?=some p):(Value.string p,AV.slice (.id (j+50) 9) (dq y p))∈T2 y/\∀b,(Value.string p,b)∈T2 y->b=AV.slice (.id (j+50) 9) (dq y p):=by
 refine⟨Ar.2 ⟨(p,j),HZ.2 h,rfl⟩,fun b hb=>?_⟩
 grind [JA,E5]
theorem ov{j:Nat}(h:(AP y [])[j]?=some p):LP y j=.tok 9 (dq y p).length:=by
 grind [LP]
theorem rT(h:(AP y [])[k]?=some r.path)(l:Nat):(bif Nat.beq (l+50) (k+50)then HO.tok 9 ((dq y r.path).length+1)else LP y l)=LP (y++[r]) l:=by
 grind [Nat.beq_refl,LP,Ny,Nat.eq_of_beq_eq_true,JA,E5]
theorem rS(h:r.path∉AP y [])(l:Nat):(bif Nat.beq (l+50) ((AP y []).length+50)then HO.tok 9 1 else LP y l)=LP (y++[r]) l:=by
 grind [Nat.beq_refl,LP,Nx,fP,Nat.eq_of_beq_eq_true]
end
theorem QR{h:Nat->HO}:∀{BY:List (Value×AV)},(∀p∈BY,Uk h p.2=true)->RU h BY=true
 | [],_=>rfl
 |p::r,hk=>by
  unfold RU;rw[hk p (Ag ..)];exact QR (fun q hq=>hk q (Aj _ hq))
theorem Lq{h:Nat->HO}(hh:∀l,h (l+50)=LP y l):RU h (T2 y)=true:=by
 refine QR fun p hp=>?_;obtain⟨q,h1,rfl⟩:=Ar.1 hp;show Sy h (q.2+50)=true
 grind [Sy,ov]
theorem JK{y:List Rl}{h h' : Nat->HO}(hh:∀l,h (l+50)=LP y l)(j:Nat):Wz y j=.free\/(h j=Wz y j/\ZW h' (Wz y j)=true):=by
 by_cases hj:j<50
 .grind [ur]
 .obtain⟨l,rfl⟩:∃l,j=l+50:=⟨j-50,by omega⟩
  right
  rw[H8];refine⟨hh l,?_⟩;unfold LP;cases (AP y [])[l]?<;>rfl
theorem rr{x:List Rl}(hx:At x=0)(hi:i<x.length):E7 ((x.take i).map Ow) (WI (Cp x[i])) (.agg (Am x[i]))=(x.take (i+1)).map Ow:=by
 rw[IP]
 .rw[Dm,Ge hi,Bk];rfl
 intro a ha;obtain⟨r,hr,he,_⟩:=Yd ha;obtain⟨j,hj,e2⟩:=Dn.1 hr;rw[BW]at hj;rw[List.getElem_take]at e2;have hp:=(BB hx).2
 grind [List.pairwise_iff_getElem,Oz]
abbrev zr:M5:=⟨[],[],[],[],[8,9],[9],[40],[],[],[],[8,9,10,11]⟩
abbrev zT:List AV:=[.v (.map none),.v (.map none)]
theorem px(uk:PC 47 [Jf x ifs] (vi (At x)))(h0:At x≠0):kb x ifs:=by
 have ht:vL x=.tup [.agg [.cmap OV [],.cmap Cc []],vi (At x)]:=by simp_all
 unfold kb;rw[ht];refine Ps zr func51 rfl (Nz rfl) (Xi 0 (Xi 0 (yN (Xi 0 (yN (C1 (C2 (uk) (Xi 0 (Yi ?_ ?_)))))))))
 .intro _;refine Xi 0 (yN (yN (yN ?_)));exact .refl _
 .intro h;exact absurd h (fun hc=>hc h0)
theorem HE:∀(y:List Rl) (acc:List CS),(AP y acc).length<=acc.length+y.length
 | [],acc=>by simp[AP]
 |r::y,acc=>by
  rw[AP];refine AS (HE y _) ?_
  grind
section
attribute [local irreducible] Ix
theorem tZ(uk:PC 47 [Jf x ifs] (vi (At x)))(h0:At x=0)(CL:x.length<=256):kb x ifs:=by
 have ht:vL x=.tup [.agg [.cmap OV (x.map Ow),.cmap Cc ((AP x []).map (iZ x))],vi 0]:=by simp_all
 unfold kb;rw[ht];rw[h0]at uk;refine Ps zr func51 rfl (Nz rfl) (Xi 0 (Xi 0 (yN (Xi 0 (yN (C1 (C2 (uk) (Xi 0 (Yi ?_ ?_)))))))))
 .intro hc;exact absurd (show(0:Int)≠0 from hc) aa1
 intro _;refine Xi 0 (Xi {i:Nat // i<=x.length} (Xi (fun i=>⟨[(2,.ref 2 0),(4,.ref 4 0),(18,sl Am x),(19,vi (x.map Am).length),(20,vi i.1)],[(2,.cells zT),(4,.cells [.mref 8,.mref 9]),(8,.map OV ((x.take i.1).map Ow)),(9,.mapU Cc (T2 (x.take i.1)))],Wz (x.take i.1)⟩) (Xi (fun i=>x.length-i.1) (Yi (Xi ⟨0,Al _⟩ ?_) ?_))))
 .refine⟨Z5,Z4,fun j=>.inl ?_,Tv⟩;show Wz [] j=.free;unfold Wz;cases Nat.ble 50 j<;>rfl
 intro⟨i,i1⟩;refine Xi 0 (Yi ?_ ?_)
 .intro h;have h:i<x.length:=by simp_all
  have hg:x[i]?=some x[i]:=Ge h;have PL:x.take (i+1)=x.take i++[x[i]]:=by simp_all
  refine Xi 0 (Xi (Am x[i]) (Yi (Yi Wk (by simp_all)) (Yi rfl ?_)));refine Yi (Nz rfl) (yN (Xi ⟨[(2,.ref 2 0),(4,.ref 4 0),(7,.ref 7 0),(18,sl Am x),(19,vi (x.map Am).length),(20,vi i)],[(2,.cells zT),(4,.cells [.mref 8,.mref 9]),(7,.cells (Am x[i])),(8,.map OV ((x.take i).map Ow)),(9,.mapU Cc (T2 (x.take i)))],Wz (x.take i)⟩ (Yi ?_ ?_)))
  .exact⟨Z6,⟨Zr,Zr,Zr,Zr,⟨rfl,Lq _ (H8 _)⟩,Tv⟩,JK (H8 _),Tv⟩
  refine Xi 0 (yN (C2 (tw x[i]) (yN (Yi aa2 ?_))));have e8:E7 ((x.take i).map Ow) (WI (Cp x[i])) (.agg (Am x[i]))=(x.take (i+1)).map Ow:=rr h0 h;refine Xi ⟨[(2,.ref 2 0),(4,.ref 4 0),(7,.ref 7 0),(18,sl Am x),(19,vi (x.map Am).length),(20,vi i)],[(2,.cells zT),(4,.cells [.mref 8,.mref 9]),(7,.cells (Am x[i])),(8,.map OV ((x.take (i+1)).map Ow)),(9,.mapU Cc (T2 (x.take i)))],Wz (x.take i)⟩ (Yi ?_ ?_)
  .exact⟨Z6,⟨Zr,Zr,Zr,⟨Aa (HO.map OV) e8,rfl⟩,⟨rfl,Lq _ (H8 _)⟩,Tv⟩,JK (H8 _),Tv⟩
  have hL:((x.take i).filter (fun r=>decide (r.path=x[i].path))).length<=256:=by
   grind
  have hP:∀l,Wz (x.take i) (l+50)=LP (x.take i) l:=H8 _;refine Ax (Classical.em (x[i].path∈AP (x.take i) [])) (fun hp=>?_) (fun hp=>?_)
  .refine Ao (Ed.1 hp) (fun k hk=>?_);have hu:=lM hk;refine Xi 0 ?_;refine Or.inl (Xi (.slice (.id (k+50) 9) (dq (x.take i) x[i].path)) (Yi hu ?_));refine yN ?_;have hr:Wz (x.take i) (k+50)=.tok 9 (dq (x.take i) x[i].path).length:=by rw[hP,ov hk]
   have hl:(dq (x.take i) x[i].path).length<=256:=by grind
   refine RG (e:=70) (m:=8) (es2:=[Am x[i]]) rfl rfl rfl (fun _ h=>h) hr ⟨rfl,trivial⟩ (by show(_+1)*120<=_;omega) (by grind) ?_;have yE:k<256:=by
    have:=(Bf.1 hk).1
    have:=HE (x.take i) []
    grind
   have uG:=hk;refine Yi (Jp ⟨AO _,AO _,AO _,AO _,AO _,AO _,AO _,AO _,AO _,AO _,Ec (show 39<10000000 by decide),Ec Wk,Ec (show 9<10000000 by decide),trivial⟩ aa2) ?_;have e9:E7 (T2 (x.take i)) (.string x[i].path) (.slice (.id (k+50) 9) (dq (x.take i) x[i].path++[Am x[i]]))=T2 (x.take (i+1)):=by rw[PL];exact pY uG
   have hG:∀l,(bif Nat.beq (l+50) (k+50)then HO.tok 9 ((dq (x.take i) x[i].path).length+1)else LP (x.take i) l)=LP (x.take (i+1)) l:=by rw[PL];exact rT uG
   refine Xi ⟨[(2,.ref 2 0),(4,.ref 4 0),(18,sl Am x),(19,vi (x.map Am).length),(20,vi i)],[(2,.cells zT),(4,.cells [.mref 8,.mref 9]),(8,.map OV ((x.take (i+1)).map Ow)),(9,.mapU Cc (T2 (x.take (i+1))))],Wz (x.take (i+1))⟩ (Yi ?_ ?_)
   .refine⟨Z5,⟨Zr,Zr,Zr,⟨Aa (HO.mapU Cc) e9,Lq _ (H8 _)⟩,Tv⟩,JK (fun l=>?_),Tv⟩;show(bif Nat.beq (l+50) (k+50)then HO.tok 9 ((dq (x.take i) x[i].path).length+1)else Wz (x.take i) (l+50))=_
    grind
   refine Xi 0 (Yi (Ii i Wk) (Xi ⟨i+1,by omega⟩ ?_));exact⟨by grind,Z5,⟨Zr,Zr,Zr,⟨rfl,Lq _ (H8 _)⟩,Tv⟩,JK (H8 _),Tv⟩
  .have uG:=hp;have PJ:(AP (x.take i) []).length<=256:=by
    have:=HE (x.take i) []
    grind
   have hn:=lK hp;refine Xi ((AP (x.take i) []).length+50) ?_;refine Or.inr (Yi hn ?_);refine yN ?_;have hr:Wz (x.take i) ((AP (x.take i) []).length+50)=.free:=by
    rw[hP];unfold LP;simp_all
   refine RF (e:=70) (m:=8) (es2:=[Am x[i]]) rfl rfl rfl (fun _ h=>h) hr rfl ⟨rfl,trivial⟩ (by show 1*120<=_;omega) (by simp_all) ?_;refine Yi (Jp ⟨AO _,AO _,AO _,AO _,AO _,AO _,AO _,AO _,AO _,AO _,Ec (show 39<10000000 by decide),Ec (by show _+50<10000000;omega),Ec (show 9<10000000 by decide),trivial⟩ aa2) ?_;have e9:E7 (T2 (x.take i)) (.string x[i].path) (.slice (.id ((AP (x.take i) []).length+50) 9) [Am x[i]])=T2 (x.take (i+1)):=by rw[PL];exact pX uG
   have hG:∀l,(bif Nat.beq (l+50) ((AP (x.take i) []).length+50)then HO.tok 9 1 else LP (x.take i) l)=LP (x.take (i+1)) l:=by rw[PL];exact rS uG
   refine Xi ⟨[(2,.ref 2 0),(4,.ref 4 0),(18,sl Am x),(19,vi (x.map Am).length),(20,vi i)],[(2,.cells zT),(4,.cells [.mref 8,.mref 9]),(8,.map OV ((x.take (i+1)).map Ow)),(9,.mapU Cc (T2 (x.take (i+1))))],Wz (x.take (i+1))⟩ (Yi ?_ ?_)
   .refine⟨Z5,⟨Zr,Zr,Zr,⟨Aa (HO.mapU Cc) e9,Lq _ (H8 _)⟩,Tv⟩,JK (fun l=>?_),Tv⟩;show(bif Nat.beq (l+50) ((AP (x.take i) []).length+50)then HO.tok 9 1 else Wz (x.take i) (l+50))=_;simp_all
   refine Xi 0 (Yi (Ii i Wk) (Xi ⟨i+1,by omega⟩ ?_));exact⟨by grind,Z5,⟨Zr,Zr,Zr,⟨rfl,Lq _ (H8 _)⟩,Tv⟩,JK (H8 _),Tv⟩
 .intro h;have h:¬i<x.length:=by simp_all
  have et:x.take i=x:=A5 Wk;refine Xi ⟨[(2,.ref 2 0),(4,.ref 4 0)],[(2,.cells zT),(4,.cells [.mref 8,.mref 9]),(8,.map OV ((x.take i).map Ow)),(9,.mapU Cc (T2 (x.take i)))],Wz (x.take i)⟩ (Yi ?_ ?_)
  .exact⟨Z2,⟨Zr,Zr,Zr,⟨rfl,Lq _ (H8 _)⟩,Tv⟩,JK (H8 _),Tv⟩
  refine Xi 0 (yN (yN (yN ?_)));have es:∀h:Nat->HO,SC h (T2 (x.take i))=(AP x []).map (iZ x):=fun h=>by
   rw[et];unfold SC T2;rw[BX];refine CU fun j=>?_;rw[BK,BK,List.getElem?_zipIdx];cases (AP x [])[j]?<;>rfl
  have e1:(x.take i).map Ow=x.map Ow:=by rw[et]
  exact .of_eq (show AV.tup [.agg [.cmap OV ((x.take i).map Ow),.cmap Cc (SC _ (T2 (x.take i)))],vi 0]=_ by rw[e1,es])
end
theorem c84(hx:∀r∈x,Fk r):kb x ifs:=by
 by_cases h0:At x=0
 .exact tZ x ifs (xp VC x ifs hx) h0 (Fs h0).1
 .exact px x ifs (xp VC x ifs hx) h0
abbrev zt:M5:=⟨[],[(2,n)],[],[],[],[],[5],[],[],[],[2,3]⟩
theorem xv(hl:BO l):Bg Tryz.prog 57 [sl Ad l] (Ai [] Af) fun r h'=>r=.slice (.id 2000 2) (l.map Ad)/\h'=Ai [(2000,.tok 2 (l.map Ad).length)] Af:=by
 refine Bj (I9 (zt 2)) [(2,2000)] rfl BI hm rfl func57 aa2 rfl (Nz rfl) aa2 rfl ?_;have CY:Bh 2 (l.map Ad)/\([]:C0).length=0/\(([]:C0).length+(l.map Ad).length)*40<=140737488355328/\([]:C0).length+(l.map Ad).length<=9223372036854775807:=by
  grind [Cm]
 have e2:HO.tok 2 (([]:C0).length+(l.map Ad).length)=.tok 2 (l.map Ad).length:=by simp_all
 have e3:AV.slice (.id 2000 2) ([]++l.map Ad)=.slice (.id 2000 2) (l.map Ad):=rfl;have full:∀st:St,(∃s:LS,St.le (I9 (zt 2)) st s/\True)->True:=fun _ _=>trivial;refine Xi 0 (Xi 0 (Yi ?_ ?_))
 .intro _;refine cU [(0,sl Ad l)] [] Z1 Tv (Xi 2 (Yi CY ?_));exact C2 (.refl _) (Yi e3 (Aa (fun o=>Ai [(2000,o)] Af) e2))
 .intro h;have h:l.map Ad=[]:=h;refine Yi ?_ ?_
  .refine Xi ⟨[],[],Af⟩ (Yi ⟨trivial,trivial,fun _=>.inl rfl,Bn aa2⟩ ?_);refine Xi 0 ?_;exact C2 (.refl _) (Yi (show AV.slice (.id 2000 2) []=_ by rw[h]) (show Ai [(2000,HO.tok 2 0)] Af=_ by simp_all))
  .refine cU [(0,sl Ad l)] [] Z1 Tv (Xi 2 (Yi CY ?_));exact C2 (.refl _) (Yi e3 (Aa (fun o=>Ai [(2000,o)] Af) e2))
theorem tW(l:List Sl)(hl:BO l):Bg Tryz.prog 76 [sl Ae l] (Ai [] Af) fun r h'=>r=.slice (.id 2000 4) (l.map Ae)/\h'=Ai [(2000,.tok 4 (l.map Ae).length)] Af:=by
 refine Bj (I9 (zt 4)) [(2,2000)] rfl BI hm rfl func76 aa2 rfl (Nz rfl) aa2 rfl ?_;have CY:Bh 4 (l.map Ae)/\([]:C0).length=0/\(([]:C0).length+(l.map Ae).length)*40<=140737488355328/\([]:C0).length+(l.map Ae).length<=9223372036854775807:=by
  grind [Cm]
 have e2:HO.tok 4 (([]:C0).length+(l.map Ae).length)=.tok 4 (l.map Ae).length:=by simp_all
 have e3:AV.slice (.id 2000 4) ([]++l.map Ae)=.slice (.id 2000 4) (l.map Ae):=rfl;refine Xi 0 (Xi 0 (Yi ?_ ?_))
 .intro _;refine cU [(0,sl Ae l)] [] Z1 Tv (Xi 2 (Yi CY ?_));exact C2 (.refl _) (Yi e3 (Aa (fun o=>Ai [(2000,o)] Af) e2))
 .intro h;refine Yi ?_ ?_
  .refine Xi ⟨[],[],Af⟩ (Yi ⟨trivial,trivial,fun _=>.inl rfl,Bn aa2⟩ ?_);refine Xi 0 ?_;exact C2 (.refl _) (Yi (show AV.slice (.id 2000 4) []=_ by rw[h]) (show Ai [(2000,HO.tok 4 0)] Af=_ by simp_all))
  .refine cU [(0,sl Ae l)] [] Z1 Tv (Xi 2 (Yi CY ?_));exact C2 (.refl _) (Yi e3 (Aa (fun o=>Ai [(2000,o)] Af) e2))
abbrev AdT:M5:=⟨[9,16],[],[],[],[],[],[],[],[(98,3)],[],[5,6,7,8,10,11,13,14]⟩
abbrev bH(p:List Sk×Bool):AV:=.tup [sl AB p.1,vb p.2]
def Yw(x:List Rl)(k:List Sk):List Sk×Bool:=match k with
  | []=>([],false)
  |y::k'=>if !decide (y.path=v.rel.path)||!decide (y.place=plc o.ver)then([],false)else match DN d y.inf with
   |none=>([],false)
   |some t=>if Bp t (v.before++[Cp o])then Dx d v x k' else([],false)
theorem Ro(x:List Rl)(k:List Sk):Dx d v (o::x) k =
  if !decide (o.path=v.rel.path)||o.yanked||!decide (plc o.ver<plc v.rel.ver)then Dx d v x k else
  if v.needs.any (fun q=>decide (q.path=v.rel.path)&&!has q.set (plc o.ver))then Dx d v x k else Yw d v o x k:=by
 cases k<;>rfl
theorem NE{d:List (List Tm)}{v:V2}{x:List Rl}(h:i<x.length){k:List Sk}{p:List Sk×Bool}(e:p=Dx d v (x.drop i) k)(hs:(!decide (x[i].path=v.rel.path)||x[i].yanked||!decide (plc x[i].ver<plc v.rel.ver))=true\/v.needs.any (fun q=>decide (q.path=v.rel.path)&&!has q.set (plc x[i].ver))=true):p=Dx d v (x.drop (i+1)) k:=by
 grind [List.drop_eq_getElem_cons,Ro]
theorem rL{d:List (List Tm)}{v:V2}{x:List Rl}(h:i<x.length){k:List Sk}{p:List Sk×Bool}(e:p=Dx d v (x.drop i) k)(h1:x[i].path=v.rel.path)(h2:x[i].yanked=false)(h3:plc x[i].ver<plc v.rel.ver)(h4:v.needs.any (fun q=>decide (q.path=v.rel.path)&&!has q.set (plc x[i].ver))=false):p=Yw d v x[i] (x.drop (i+1)) k:=by
 grind [List.drop_eq_getElem_cons,Ro]
theorem KY:Cj (.tup [nzA,vb false]) (bH ([],false)):=Cj.tup ⟨.nil,.refl _,trivial⟩
theorem jP(k:List Sk):(((k.map AB).take ((k.map AB).length:Int).toNat).drop (1:Int).toNat)=(k.drop 1).map AB:=by
 grind [List.take_length,List.map_drop]
theorem c47(ifs:AV)(roots:List Rq)(d:List (List Tm))(k:List Sk)(before:List Sl)(needs:List Rq)(r:Rl)(hx:x.length<=256)(_hd:d.length<=65536)(ht:∀t∈d,Qx t)(hb:before.length<=1000)(hn:BO needs)(hq:∀q∈needs,BO q.set) :
  PC 110 [.cptr (Ct x ifs roots d),sl AB k,sl Ae before,sl Ad needs,.agg (Am r)] (bH (Dx d ⟨before,needs,r⟩ x k)):=by
 have hbf:BO before:=by omega
 obtain⟨P,hP⟩:∃P,P=Dx d ⟨before,needs,r⟩ x k:=⟨_,rfl⟩;rw[<-hP];refine Ps AdT func110 rfl (Nz rfl) (yN (C1 (C2 (tX r.ver) (Xi {p:Nat×List Sk // p.1<=x.length/\P=Dx d ⟨before,needs,r⟩ (x.drop p.1) p.2} (Xi (fun p=>⟨[(0,.cptr (Ct x ifs roots d)),(1,sl AB p.1.2),(2,sl Ae before),(3,sl Ad needs),(9,.ref 9 0),(12,vi (plc r.ver)),(29,sl Am x),(30,vi (x.map Am).length),(31,vi p.1.1)],[(9,.ro (Am r))],Af⟩) (Xi (fun p=>x.length-p.1.1) (Yi (Xi ⟨(0,k),Al _,hP⟩ ?_) ?_)))))))
 .exact⟨Z9,Z1,Fh,Tv⟩
 intro⟨⟨i,k⟩,i1,i2⟩;have i1:i<=x.length:=i1;have i2:P=Dx d ⟨before,needs,r⟩ (x.drop i) k:=i2;refine Yi ?_ ?_
 .intro h;have h:(i:Int)<(x.map Am).length:=h;have h:i<x.length:=by simp_all
  have hg:x[i]?=some x[i]:=Ge h;refine Xi (Am x[i]) (Yi (Yi Wk (by simp_all)) (Yi rfl ?_));refine Yi (Nz rfl) (yN (cU [(0,.cptr (Ct x ifs roots d)),(1,sl AB k),(2,sl Ae before),(3,sl Ad needs),(9,.ref 9 0),(12,vi (plc r.ver)),(15,.ref 15 0),(29,sl Am x),(30,vi (x.map Am).length),(31,vi i)] [(9,.ro (Am r)),(15,.cells (Am x[i]))] Z10 Z2 (yN (C1 (C2 (tX x[i].ver) (yN (cU [(0,.cptr (Ct x ifs roots d)),(1,sl AB k),(2,sl Ae before),(3,sl Ad needs),(9,.ref 9 0),(12,vi (plc r.ver)),(15,.ref 15 0),(16,.ref 16 0),(29,sl Am x),(30,vi (x.map Am).length),(31,vi i)] [(9,.ro (Am r)),(15,.cells (Am x[i])),(16,.ro [vi (plc x[i].ver)])] Z11 Z3 (Yi ?_ ?_))))))))
  .intro h1;have h1:x[i].path≠r.path:=h1;have i3:=NE h i2 (.inl (by simp_all));refine cU [(0,.cptr (Ct x ifs roots d)),(1,sl AB k),(2,sl Ae before),(3,sl Ad needs),(9,.ref 9 0),(12,vi (plc r.ver)),(29,sl Am x),(30,vi (x.map Am).length),(31,vi i)] [(9,.ro (Am r))] Z9 Z1 (Yi (by grind [Au]) (Xi ⟨(i+1,k),by omega,i3⟩ ?_));exact⟨by grind,Z9,Z1,Fh,Tv⟩
  intro h1;have h1:¬x[i].path≠r.path:=h1;have h1:x[i].path=r.path:=B2.1 h1;refine Yi ?_ ?_
  .intro h2;have h2:x[i].yanked=true:=h2;have i3:=NE h i2 (.inl (by simp_all));refine cU [(0,.cptr (Ct x ifs roots d)),(1,sl AB k),(2,sl Ae before),(3,sl Ad needs),(9,.ref 9 0),(12,vi (plc r.ver)),(29,sl Am x),(30,vi (x.map Am).length),(31,vi i)] [(9,.ro (Am r))] Z9 Z1 (Yi (by grind [Au]) (Xi ⟨(i+1,k),by omega,i3⟩ ?_));exact⟨by grind,Z9,Z1,Fh,Tv⟩
  intro h2;have h2:x[i].yanked=false:=h2;refine Yi ?_ ?_
  .intro h3;have h3:plc r.ver<=plc x[i].ver:=h3;have i3:=NE h i2 (.inl (by simp_all));refine cU [(0,.cptr (Ct x ifs roots d)),(1,sl AB k),(2,sl Ae before),(3,sl Ad needs),(9,.ref 9 0),(12,vi (plc r.ver)),(29,sl Am x),(30,vi (x.map Am).length),(31,vi i)] [(9,.ro (Am r))] Z9 Z1 (Yi (by grind [Au]) (Xi ⟨(i+1,k),by omega,i3⟩ ?_));exact⟨by grind,Z9,Z1,Fh,Tv⟩
  intro h3;have h3:¬plc r.ver<=plc x[i].ver:=h3;have h3:plc x[i].ver<plc r.ver:=by omega
  refine cU [(0,.cptr (Ct x ifs roots d)),(1,sl AB k),(2,sl Ae before),(3,sl Ad needs),(9,.ref 9 0),(12,vi (plc r.ver)),(15,.ref 15 0),(16,.ref 16 0),(29,sl Am x),(30,vi (x.map Am).length),(31,vi i)] [(9,.ro (Am r)),(15,.cells (Am x[i])),(16,.ro [vi (plc x[i].ver)])] Z11 Z3 ?_
  have AcF:∀q∈needs,PC 187 ([.agg (Ad q)]++[.cptr (Am r),.cptr [vi (plc x[i].ver)]]) (vb (decide (q.path=r.path)&&!has q.set (plc x[i].ver))):=fun q hh=>c90 q r (plc x[i].ver) (hq q hh);have Lt:=c89 (fF:=187) (caps:=[.cptr (Am r),.cptr [vi (plc x[i].ver)]]) (fun c hc=>by
   rcases AR.1 hc with rfl | hc
   .intro h;rfl
   .obtain rfl:=AJ.1 hc;intro h;rfl) needs (fun q=>decide (q.path=r.path)&&!has q.set (plc x[i].ver)) AcF hn
  refine Ax (Bt (needs.any fun q=>decide (q.path=r.path)&&!has q.set (plc x[i].ver))) (fun h4=>?_) (fun h4=>?_)
  .rw[h4]at Lt;refine C1 (C2 (Lt) ?_);have i3:=NE h i2 (.inr h4);refine cU [(0,.cptr (Ct x ifs roots d)),(1,sl AB k),(2,sl Ae before),(3,sl Ad needs),(9,.ref 9 0),(12,vi (plc r.ver)),(29,sl Am x),(30,vi (x.map Am).length),(31,vi i)] [(9,.ro (Am r))] Z9 Z1 (Yi (by grind [Au]) (Xi ⟨(i+1,k),by omega,i3⟩ ?_));exact⟨by grind,Z9,Z1,Fh,Tv⟩
  rw[h4]at Lt;refine C1 (C2 (Lt) ?_);have i4:P=Yw d ⟨before,needs,r⟩ x[i] (x.drop (i+1)) k:=rL h i2 h1 h2 h3 h4;refine cU [(0,.cptr (Ct x ifs roots d)),(1,sl AB k),(2,sl Ae before),(3,sl Ad needs),(9,.ref 9 0),(12,vi (plc r.ver)),(15,.ref 15 0),(16,.ref 16 0),(29,sl Am x),(30,vi (x.map Am).length),(31,vi i)] [(9,.ro (Am r)),(15,.cells (Am x[i])),(16,.ro [vi (plc x[i].ver)])] Z11 Z3 (Yi ?_ ?_)
  .intro hh;have hh:((k.map AB).length:Int)=0:=hh;refine Yi aa2 ?_;have e:P=([],false):=by rw[i4,show k=[]from Ay (by simp_all)];rfl
   exact KY.trans (.of_eq (show bH ([],false)=bH P by rw[e]))
  intro hk;have hk:¬((k.map AB).length:Int)=0:=hk;refine Ao (show ∃y k',k=y::k' by cases k<;>simp_all) (fun y hy=>?_)
  refine Ao hy (fun k' hy=>?_);have qq:(k.map AB)[(0:Int).toNat]?=some (AB y):=by simp_all
  have i5:P=Yw d ⟨before,needs,r⟩ x[i] (x.drop (i+1)) (y::k'):=by simp_all
  refine Xi (AB y) (Yi (Yi aa1 qq) (Yi rfl (Yi ?_ ?_)))
  .intro hh;have hh:y.path≠r.path:=hh;refine Yi aa2 ?_;have e:P=([],false):=by rw[i5];show(if _ then _ else _)=_;simp_all
   exact KY.trans (.of_eq (show bH ([],false)=bH P by rw[e]))
  intro h5;have h5:¬y.path≠r.path:=h5;have h5:y.path=r.path:=B2.1 h5;refine Xi (AB y) (Yi (Yi aa1 qq) (Yi rfl (Yi ?_ ?_)))
  .intro hh;have hh:y.place≠plc x[i].ver:=hh;refine Yi aa2 ?_;have e:P=([],false):=by rw[i5];show(if _ then _ else _)=_;simp_all
   exact KY.trans (.of_eq (show bH ([],false)=bH P by rw[e]))
  intro h6;have h6:¬y.place≠plc x[i].ver:=h6;have h6:y.place=plc x[i].ver:=B2.1 h6;have i6:P=match DN d y.inf with | none=>([],false) | some t=>if Bp t (before++[Cp x[i]])then Dx d ⟨before,needs,r⟩ (x.drop (i+1)) k' else([],false):=by
   rw[i5];show(if _ then _ else _)=_;simp_all
  refine Xi (AB y) (Yi (Yi aa1 qq) (Yi rfl (Yi ?_ ?_)))
  .intro hh;have hh:y.inf<0:=hh;refine Yi aa2 ?_;have e:P=([],false):=by grind [DN]
   exact KY.trans (.of_eq (show bH ([],false)=bH P by rw[e]))
  intro h7;have h7:¬y.inf<0:=h7;refine Xi (AB y) (Yi (Yi aa1 qq) (Yi rfl (Yi ?_ ?_)))
  .intro hh;have hh:((d.map As).length:Int)<=y.inf:=hh;refine Yi aa2 ?_;have e:P=([],false):=by grind [DN]
   exact KY.trans (.of_eq (show bH ([],false)=bH P by rw[e]))
  intro h8;have h8:¬((d.map As).length:Int)<=y.inf:=h8;rw[Lm]at h8;refine Yi aa2 (Ao (show ∃j:Nat,y.inf=j from⟨y.inf.toNat,by omega⟩) (fun j hj=>?_));have hj2:j<d.length:=by omega
  have hdg:d[j]?=some d[j]:=Ge hj2;have Adc:DN d y.inf=some d[j]:=by grind [DN]
  rw[Adc]at i6;have i6:P=if Bp d[j] (before++[Cp x[i]])then Dx d ⟨before,needs,r⟩ (x.drop (i+1)) k' else([],false):=i6
  refine cU [(0,.cptr (Ct x ifs roots d)),(1,sl AB k),(2,sl Ae before),(3,sl Ad needs),(9,.ref 9 0),(12,vi (plc r.ver)),(15,.ref 15 0),(29,sl Am x),(30,vi (x.map Am).length),(31,vi i)] [(9,.ro (Am r)),(15,.cells (Am x[i]))] Z10 Z2 (Xi 4 (Xi (before.map Ae) (Yi rfl (Yi (tW before hbf) (yN ?_)))));have CY:Bh 4 [[vs x[i].path,vi x[i].ver.a,vi x[i].ver.b,vi x[i].ver.c]]/\(before.map Ae).length=(before.map Ae).length/\((before.map Ae).length+[[vs x[i].path,vi x[i].ver.a,vi x[i].ver.b,vi x[i].ver.c]].length)*40<=140737488355328/\(before.map Ae).length+[[vs x[i].path,vi x[i].ver.a,vi x[i].ver.b,vi x[i].ver.c]].length<=9223372036854775807:=
   ⟨⟨rfl,trivial⟩,rfl,by grind,by grind⟩
  refine Yi CY (Yi aa2 (cU [(0,.cptr (Ct x ifs roots d)),(1,sl AB k),(2,sl Ae before),(3,sl Ad needs),(9,.ref 9 0),(12,vi (plc r.ver)),(18,.slice (.id 19800 4) (before.map Ae++[[vs x[i].path,vi x[i].ver.a,vi x[i].ver.b,vi x[i].ver.c]])),(29,sl Am x),(30,vi (x.map Am).length),(31,vi i)] [(9,.ro (Am r)),(19800,.tok 4 ((before.map Ae).length+[[vs x[i].path,vi x[i].ver.a,vi x[i].ver.b,vi x[i].ver.c]].length))] Z10 Z2 ?_))
  have cN:PC 188 [sl Ac d[j],.slice .none (before.map Ae++[[vs x[i].path,vi x[i].ver.a,vi x[i].ver.b,vi x[i].ver.c]])] (vb (Bp d[j] (before++[Cp x[i]]))):=by
   have:=c91 d[j] (before++[Cp x[i]]) (ht _ (Ah hj2)) (by grind)
   grind [Cp]
  have hgd:(d.map As)[y.inf.toNat]?=some (As d[j]):=by simp_all
  refine Xi (AB y) (Yi (Yi aa1 qq) (Yi rfl (Xi (As d[j]) (Yi (Yi Wk hgd) (Yi rfl (Ax (Bt (Bp d[j] (before++[Cp x[i]]))) (fun h9=>?_) (fun h9=>?_)))))))
  .rw[h9]at cN;refine C2 (cN) (Yi aa2 ?_);rw[A3 h9]at i6;have qr:1<=(k.map AB).length:=by omega
   refine cU [(0,.cptr (Ct x ifs roots d)),(1,sl AB k),(2,sl Ae before),(3,sl Ad needs),(9,.ref 9 0),(12,vi (plc r.ver)),(29,sl Am x),(30,vi (x.map Am).length),(31,vi i)] [(9,.ro (Am r))] Z9 Z1 ?_;refine Yi (by grind) (Yi (fun c hc=>by
    obtain⟨z,_,rfl⟩:=Ar.1 hc;rfl) ?_)
   have ek:AV.slice .none (((k.map AB).take ((k.map AB).length:Int).toNat).drop (1:Int).toNat)=sl AB k':=by grind [jP]
   refine cU [(0,.cptr (Ct x ifs roots d)),(1,sl AB k'),(2,sl Ae before),(3,sl Ad needs),(9,.ref 9 0),(12,vi (plc r.ver)),(29,sl Am x),(30,vi (x.map Am).length),(31,vi i)] [(9,.ro (Am r))] ⟨Zr,⟨ek,rfl⟩,Zr,Zr,Zr,Zr,Zr,Zr,Zr,Tv⟩ Z1 (Yi (Ii i Wk) (Xi ⟨(i+1,k'),by omega,i6⟩ ?_));exact⟨by grind,Z9,Z1,Fh,Tv⟩
  .rw[h9]at cN;refine C2 (cN) (Yi aa2 ?_);have e:P=([],false):=by simp_all
   exact KY.trans (.of_eq (show bH ([],false)=bH P by rw[e]))
 .intro h;have h:¬(i:Int)<(x.map Am).length:=h;have h:¬i<x.length:=by simp_all
  have e:P=(k,true):=by rw[i2,HJ Wk];rfl
  exact .of_eq (show bH (k,true)=bH P by rw[e])
abbrev sH(a:Bool×List Sk):List (Nat×HO):=[(1000,.cells [sl AB a.2]),(1001,.cells [vb a.1])]
theorem c46(ifs:AV)(roots:List Rq)(d:List (List Tm))(a:Bool×List Sk)(before:List Sl)(needs:List Rq)(r:Rl)(hx:x.length<=256)(hd:d.length<=65536)(ht:∀t∈d,Qx t)(hb:before.length<=1000)(hn:BO needs)(hq:∀q∈needs,BO q.set) :
  Bg Tryz.prog 109 [sl Ae before,sl Ad needs,.agg (Am r),.cptr [.cptr (Ct x ifs roots d)],.ref 1000 0,.ref 1001 0] (Ai (sH a) Af) fun v h'=>v=.tup []/\h'=Ai (sH (B6 x d a ⟨before,needs,r⟩)) Af:=by
 obtain⟨b,k⟩:=a;have hc:=c47 x ifs roots d k before needs r hx hd ht hb hn hq;obtain⟨p,hp⟩:∃p,p=Dx d ⟨before,needs,r⟩ x k:=⟨_,rfl⟩;have es:B6 x d (b,k) ⟨before,needs,r⟩=(b&&p.2&&!r.yanked,p.1):=by grind [B6]
 rw[<-hp]at hc;rw[es];obtain⟨k2,ok⟩:=p;have fin:∀z:Bool,z=(b&&ok&&!r.yanked)->Ai (sH (z,k2)) Af=Ai (sH (b&&(k2,ok).2&&!r.yanked,(k2,ok).1)) Af:=fun z hz=>by rw[hz]
 cases ok with
 |false=>
  refine Bj (I9 CX) [(1000,1000),(1001,1001)] rfl BI hm rfl func109 aa2 rfl (Nz rfl) aa2 rfl (yN (C1 (C2 (hc) (Yi ?_ ?_))))
  .intro h1;refine yN (yN ?_);exact C2 (.refl _) (Yi rfl (fin false (by simp_all)))
  .intro h1;refine yN (yN ?_);exact C2 (.refl _) (Yi rfl (fin false (by simp_all)))
 |true=>
  refine Bj (I9 CX) [(1000,1000),(1001,1001)] rfl BI hm rfl func109 aa2 rfl (Nz rfl) aa2 rfl (yN (C1 (C2 (hc) (Yi ?_ ?_))))
  .intro h1;have h1:b=true:=h1;refine Yi ?_ ?_
   .intro h2;have h2:r.yanked=true:=h2;refine yN (yN ?_);exact C2 (.refl _) (Yi rfl (fin false (by simp_all)))
   .intro h2;have h2:r.yanked=false:=h2;refine yN (yN ?_);exact C2 (.refl _) (Yi rfl (fin true (by simp_all)))
  .intro h1;have h1:b=false:=h1;refine yN (yN ?_);exact C2 (.refl _) (Yi rfl (fin false (by simp_all)))
def Cw(acc:Option CS)(q:Rq):Option CS:=if BS before q.path then acc else match acc with
  |none=>some q.path
  |some p=>if Ez q.path p then some q.path else some p
theorem N3(before:List Sl):∀(a b:List Rq) (acc:Option CS),CG before (a++b) acc=CG before b (CG before a acc)
 | [],_,_=>rfl
 |q::a,b,acc=>N3 before a b (if BS before q.path then acc else match acc with |none=>some q.path |some p=>if Ez q.path p then some q.path else some p)
theorem HD(l:List Rq)(acc:Option CS){j:Nat}(h:j<l.length):CG before (l.take (j+1)) acc=Cw before (CG before (l.take j) acc) l[j]:=by
 rw[Dm,Ge h];show CG before (l.take j++[l[j]]) acc=_;rw[N3];rfl
structure DI{S:Type}(x:List Rl)(roots:List Rq)(s:List Sl)(step:S->V2->S)(Vp:S)(before:List Sl)(needs:List Rq)(n:Nat)(st:S):Prop where
 nd:(before.map (·.path)).Nodup
 sub:∀y∈before,y∈s
 fuel:before.length+n=s.length+1
 few:∀q∈needs,BO q.set
 len:needs.length<=roots.length+16*before.length
 ok:(visits x roots s).2=(D4 x s n before needs).2
 fold:(visits x roots s).1.foldl step Vp=(D4 x s n before needs).1.foldl step st
section
variable {S:Type}{x:List Rl}{roots:List Rq}{s:List Sl}{step:S->V2->S}{Vp:S}{before:List Sl}{needs:List Rq}{n:Nat}{st:S}
theorem DI.start(hq:∀q∈roots,BO q.set)(Vp:S):DI x roots s step Vp [] roots (s.length+1) Vp:=
 ⟨by simp,fun _ h=>(by cases h),by simp,hq,by simp,rfl,rfl⟩
theorem DI.lt(h:DI x roots s step Vp before needs n st):before.length<=s.length:=by
 have:=CB (m:=s.map (·.path)) h.nd fun p hp=>by
  grind [DI.sub]
 simp_all
theorem DI.pos(h:DI x roots s step Vp before needs n st):∃m,n=m+1:=by
 have:=h.lt
 have:=h.fuel
 exact⟨n-1,by omega⟩
theorem DI.stop{m:Nat}(h:DI x roots s step Vp before needs (m+1) st)(hp:DM needs before=none):(visits x roots s).2=true/\(visits x roots s).1.foldl step Vp=st:=by
 have h1:=h.ok;have h2:=h.fold
 grind [D4]
theorem DI.lost{m:Nat}(h:DI x roots s step Vp before needs (m+1) st)(hp:DM needs before=some p)(hf:AF s p=none):(visits x roots s).2=false/\(visits x roots s).1.foldl step Vp=st:=by
 have h1:=h.ok;have h2:=h.fold
 grind [D4]
theorem DI.gone{m:Nat}(h:DI x roots s step Vp before needs (m+1) st){y:Sl}(hp:DM needs before=some p)(hf:AF s p=some y)(hr:AY x y=none):(visits x roots s).2=false/\(visits x roots s).1.foldl step Vp=st:=by
 have h1:=h.ok;have h2:=h.fold
 grind [D4]
theorem DI.next{m:Nat}(h:DI x roots s step Vp before needs (m+1) st){y:Sl}{r:Rl}(hp:DM needs before=some p)(hf:AF s p=some y)(hr:AY x y=some r)(hl:r.reqs.length<=16)(hq:∀q∈r.reqs,BO q.set) :
  DI x roots s step Vp (before++[y]) (needs++r.reqs) m (step st ⟨before,needs,r⟩):=by
 have h1:=h.ok;have h2:=h.fold;unfold D4 at h1 h2;rw[hp]at h1 h2;simp only[hf,hr]at h1 h2;obtain⟨g1,g2⟩:=Is hp<;>grind [GP,J9,E3,DI.mk,DI.nd,DI.sub,DI.fuel,DI.few,DI.len]
end
theorem iO(s:List Sl)(p:CS):(J0 (fun y:Sl=>decide (y.path=p)) s 0=-1/\AF s p=none)\/∃i y,J0 (fun y:Sl=>decide (y.path=p)) s 0=(i:Nat)/\s[i]?=some y/\AF s p=some y:=by
 rcases ME (p:=fun y:Sl=>decide (y.path=p)) s 0 with h | ⟨i,y,h1,h2,h3⟩
 .exact .inl h
 .exact .inr ⟨i,y,by omega,h2,h3⟩
abbrev AdS:M5:=⟨[12],[(8,4)],[],[(49,[9])],[],[],[],[],[],[],[3,8,9,11,12,14,15,17,18,20,21]⟩
theorem AbW(d:List (List Tm))(s:List Sl)(Vp:Bool×List Sk)(T3:kb x ifs)(h0:At x=0)(hx:∀r∈x,Fk r)(hrl:roots.length<=1000)(Sw:∀q∈roots,BO q.set)(hs:s.length<=500)(hd:d.length<=65536)(ht:∀t∈d,Qx t) :
  Bg Tryz.prog 108 [.cptr (Ct x (.slice .none ifs) roots d),sl Ae s,.clo 109 [.cptr [.cptr (Ct x (.slice .none ifs) roots d)],.ref 1000 0,.ref 1001 0]] (Ai (sH Vp) Af) fun r h'=>r=vb (visits x roots s).2/\h'=Ai (sH ((visits x roots s).1.foldl (B6 x d) Vp)) Af:=by
 have mD:=(Fs h0).2;have wy:BO roots:=by omega
 refine Bj (I9 AdS) [(1000,1000),(1001,1001)] rfl BI hm rfl func108 aa2 rfl (Nz rfl) aa2 rfl (Xi (.gen [] 1) (Yi rfl ((xv roots wy).imp ?_)));intro v g q;have q1:=q.1;have q2:=q.2;subst q1;subst q2
 clear q
 refine Xi {p:List Sl×List Rq×Nat×Bool×List Sk // DI x roots s (B6 x d) Vp p.1 p.2.1 p.2.2.1 p.2.2.2} (Xi (fun p=>⟨[(0,.cptr (Ct x (.slice .none ifs) roots d)),(1,sl Ae s),(2,.clo 109 [.cptr [.cptr (Ct x (.slice .none ifs) roots d)],.ref 1000 0,.ref 1001 0]),(7,.slice (.id 12100 2) (p.1.2.1.map Ad)),(8,.slice (.id 8 4) (p.1.1.map Ae))],[(8,.tok 4 (p.1.1.map Ae).length),(12100,.tok 2 (p.1.2.1.map Ad).length),(1000,.cells [sl AB p.1.2.2.2.2]),(1001,.cells [vb p.1.2.2.2.1])],Af⟩) (Xi (fun p=>p.1.2.2.1) (Yi (Xi ⟨([],roots,s.length+1,Vp),DI.start Sw Vp⟩ ?_) ?_)))
 .exact⟨Z5,Z4,Fh,Bn aa2⟩
 intro⟨⟨before,needs,n,st⟩,inv⟩;have inv:DI x roots s (B6 x d) Vp before needs n st:=inv;refine Ao inv.pos (fun m yI=>?_);have inv:DI x roots s (B6 x d) Vp before needs (m+1) st:=yI▸inv;have hbl:=inv.lt;have hnl:=inv.len;have yL:BO needs:=by omega
 have hbf:BO before:=by omega
 refine cU [(0,.cptr (Ct x (.slice .none ifs) roots d)),(1,sl Ae s),(2,.clo 109 [.cptr [.cptr (Ct x (.slice .none ifs) roots d)],.ref 1000 0,.ref 1001 0]),(7,.slice (.id 12100 2) (needs.map Ad)),(8,.slice (.id 8 4) (before.map Ae))] [(8,.tok 4 (before.map Ae).length),(12100,.tok 2 (needs.map Ad).length),(1000,.cells [sl AB st.2]),(1001,.cells [vb st.1])] Z5 Z4 (yN (Xi {p:Nat×Option CS // p.1<=needs.length/\p.2=CG before (needs.take p.1) none} (Xi (fun p=>⟨[(0,.cptr (Ct x (.slice .none ifs) roots d)),(1,sl Ae s),(2,.clo 109 [.cptr [.cptr (Ct x (.slice .none ifs) roots d)],.ref 1000 0,.ref 1001 0]),(7,.slice (.id 12100 2) (needs.map Ad)),(8,.slice (.id 8 4) (before.map Ae)),(9,.ref 9 0),(10,vb p.1.2.isSome),(22,.slice (.id 12100 2) (needs.map Ad)),(23,vi (needs.map Ad).length),(24,vi p.1.1)],[(8,.tok 4 (before.map Ae).length),(12100,.tok 2 (needs.map Ad).length),(1000,.cells [sl AB st.2]),(1001,.cells [vb st.1]),(9,.cells [vs (p.1.2.getD mt)])],Af⟩) (Xi (fun p=>needs.length-p.1.1) (Yi (Xi ⟨(0,none),Al _,rfl⟩ ?_) ?_)))))
 .exact⟨Z10,Z5,Fh,Bn aa2⟩
 intro⟨⟨j,acc⟩,j1,j2⟩;have j1:j<=needs.length:=j1;have j2:acc=CG before (needs.take j) none:=j2;refine Yi ?_ ?_
 .intro h;have h:(j:Int)<(needs.map Ad).length:=h;have h:j<needs.length:=by simp_all
  have hg:needs[j]?=some needs[j]:=Ge h;have kk:=HD before needs none h;rw[<-j2]at kk;refine Xi (Ad needs[j]) (Yi (Yi Wk (by simp_all)) (Yi rfl ?_));refine Yi (Nz rfl) (yN (cU [(0,.cptr (Ct x (.slice .none ifs) roots d)),(1,sl Ae s),(2,.clo 109 [.cptr [.cptr (Ct x (.slice .none ifs) roots d)],.ref 1000 0,.ref 1001 0]),(7,.slice (.id 12100 2) (needs.map Ad)),(8,.slice (.id 8 4) (before.map Ae)),(9,.ref 9 0),(10,vb acc.isSome),(12,.ref 12 0),(22,.slice (.id 12100 2) (needs.map Ad)),(23,vi (needs.map Ad).length),(24,vi j)] [(8,.tok 4 (before.map Ae).length),(12100,.tok 2 (needs.map Ad).length),(1000,.cells [sl AB st.2]),(1001,.cells [vb st.1]),(9,.cells [vs (acc.getD mt)]),(12,.ro (Ad needs[j]))] Z11 Z6 ?_))
  have qh:PC 183 [sl Ae before,.clo 184 [.cptr (Ad needs[j])]] (vb (BS before needs[j].path)):=c51 (fF:=184) (caps:=[.cptr (Ad needs[j])]) (fun c hc=>by
   obtain rfl:=AJ.1 hc;intro h;rfl) before (fun y=>decide (y.path=needs[j].path)) (fun y _=>c77 y needs[j]) hbf
  refine Ax (Bt (BS before needs[j].path)) (fun hd=>?_) (fun hd=>?_)
  .rw[hd]at qh;refine C1 (C2 (qh) ?_);have Jt:Cw before acc needs[j]=acc:=by unfold Cw;simp_all
   refine cU [(0,.cptr (Ct x (.slice .none ifs) roots d)),(1,sl Ae s),(2,.clo 109 [.cptr [.cptr (Ct x (.slice .none ifs) roots d)],.ref 1000 0,.ref 1001 0]),(7,.slice (.id 12100 2) (needs.map Ad)),(8,.slice (.id 8 4) (before.map Ae)),(9,.ref 9 0),(10,vb acc.isSome),(13,vb true),(22,.slice (.id 12100 2) (needs.map Ad)),(23,vi (needs.map Ad).length),(24,vi j)] [(8,.tok 4 (before.map Ae).length),(12100,.tok 2 (needs.map Ad).length),(1000,.cells [sl AB st.2]),(1001,.cells [vb st.1]),(9,.cells [vs (acc.getD mt)])] Z11 Z5 (cU [(0,.cptr (Ct x (.slice .none ifs) roots d)),(1,sl Ae s),(2,.clo 109 [.cptr [.cptr (Ct x (.slice .none ifs) roots d)],.ref 1000 0,.ref 1001 0]),(7,.slice (.id 12100 2) (needs.map Ad)),(8,.slice (.id 8 4) (before.map Ae)),(9,.ref 9 0),(10,vb (Cw before acc needs[j]).isSome),(22,.slice (.id 12100 2) (needs.map Ad)),(23,vi (needs.map Ad).length),(24,vi j)] [(8,.tok 4 (before.map Ae).length),(12100,.tok 2 (needs.map Ad).length),(1000,.cells [sl AB st.2]),(1001,.cells [vb st.1]),(9,.cells [vs ((Cw before acc needs[j]).getD mt)])] ⟨Zr,Zr,Zr,Zr,Zr,Zr,⟨Aa vb (Aa Option.isSome Jt.symm),rfl⟩,Zr,Zr,Zr,Tv⟩ ⟨Zr,Zr,Zr,Zr,⟨Aa (fun a=>HO.cells [vs (Option.getD a mt)]) Jt.symm,rfl⟩,Tv⟩ (Yi (by show Au ((j:Int)+1);grind [Au]) (Xi ⟨(j+1,Cw before acc needs[j]),by omega,kk.symm⟩ ?_)));exact⟨by grind,Z10,Z5,Fh,Bn aa2⟩
  rw[hd]at qh;refine C1 (C2 (qh) ?_);refine Ax (show acc=none\/∃p,acc=some p by cases acc<;>grind) (fun ha=>?_) (fun ha=>?_)
  .have Jt:Cw before acc needs[j]=some needs[j].path:=by grind [Cw]
   refine cU [(0,.cptr (Ct x (.slice .none ifs) roots d)),(1,sl Ae s),(2,.clo 109 [.cptr [.cptr (Ct x (.slice .none ifs) roots d)],.ref 1000 0,.ref 1001 0]),(7,.slice (.id 12100 2) (needs.map Ad)),(8,.slice (.id 8 4) (before.map Ae)),(9,.ref 9 0),(10,vb false),(12,.ref 12 0),(13,vb false),(22,.slice (.id 12100 2) (needs.map Ad)),(23,vi (needs.map Ad).length),(24,vi j)] [(8,.tok 4 (before.map Ae).length),(12100,.tok 2 (needs.map Ad).length),(1000,.cells [sl AB st.2]),(1001,.cells [vb st.1]),(9,.cells [vs mt]),(12,.ro (Ad needs[j]))] ⟨Zr,Zr,Zr,Zr,Zr,Zr,⟨by show vb acc.isSome=vb false;grind,rfl⟩,Zr,Zr,Zr,Zr,Zr,Tv⟩ ⟨Zr,Zr,Zr,Zr,⟨by show HO.cells [vs (acc.getD mt)]=HO.cells [vs mt];grind,rfl⟩,Zr,Tv⟩ ?_
   refine yN (cU [(0,.cptr (Ct x (.slice .none ifs) roots d)),(1,sl Ae s),(2,.clo 109 [.cptr [.cptr (Ct x (.slice .none ifs) roots d)],.ref 1000 0,.ref 1001 0]),(7,.slice (.id 12100 2) (needs.map Ad)),(8,.slice (.id 8 4) (before.map Ae)),(9,.ref 9 0),(10,vb (Cw before acc needs[j]).isSome),(22,.slice (.id 12100 2) (needs.map Ad)),(23,vi (needs.map Ad).length),(24,vi j)] [(8,.tok 4 (before.map Ae).length),(12100,.tok 2 (needs.map Ad).length),(1000,.cells [sl AB st.2]),(1001,.cells [vb st.1]),(9,.cells [vs ((Cw before acc needs[j]).getD mt)])] ⟨Zr,Zr,Zr,Zr,Zr,Zr,⟨by show vb true=_;grind,rfl⟩,Zr,Zr,Zr,Tv⟩ ⟨Zr,Zr,Zr,Zr,⟨by show HO.cells [vs needs[j].path]=_;grind,rfl⟩,Tv⟩ ?_)
   refine Yi (by grind [Au]) (Xi ⟨(j+1,Cw before acc needs[j]),by omega,kk.symm⟩ ?_);exact⟨by grind,Z10,Z5,Fh,Bn aa2⟩
  refine Ao ha (fun p ha=>?_);refine cU [(0,.cptr (Ct x (.slice .none ifs) roots d)),(1,sl Ae s),(2,.clo 109 [.cptr [.cptr (Ct x (.slice .none ifs) roots d)],.ref 1000 0,.ref 1001 0]),(7,.slice (.id 12100 2) (needs.map Ad)),(8,.slice (.id 8 4) (before.map Ae)),(9,.ref 9 0),(10,vb true),(12,.ref 12 0),(13,vb false),(22,.slice (.id 12100 2) (needs.map Ad)),(23,vi (needs.map Ad).length),(24,vi j)] [(8,.tok 4 (before.map Ae).length),(12100,.tok 2 (needs.map Ad).length),(1000,.cells [sl AB st.2]),(1001,.cells [vb st.1]),(9,.cells [vs p]),(12,.ro (Ad needs[j]))] ⟨Zr,Zr,Zr,Zr,Zr,Zr,⟨by show vb acc.isSome=vb true;grind,rfl⟩,Zr,Zr,Zr,Zr,Zr,Tv⟩ ⟨Zr,Zr,Zr,Zr,⟨by show HO.cells [vs (acc.getD mt)]=HO.cells [vs p];grind,rfl⟩,Zr,Tv⟩ ?_
  refine Yi ?_ ?_
  .intro hb;have hb:Op.bytesLess needs[j].path.toList p.toList=true:=hb;rw[<-D1]at hb;have Jt:Cw before acc needs[j]=some needs[j].path:=by grind [Cw]
   refine yN (cU [(0,.cptr (Ct x (.slice .none ifs) roots d)),(1,sl Ae s),(2,.clo 109 [.cptr [.cptr (Ct x (.slice .none ifs) roots d)],.ref 1000 0,.ref 1001 0]),(7,.slice (.id 12100 2) (needs.map Ad)),(8,.slice (.id 8 4) (before.map Ae)),(9,.ref 9 0),(10,vb (Cw before acc needs[j]).isSome),(22,.slice (.id 12100 2) (needs.map Ad)),(23,vi (needs.map Ad).length),(24,vi j)] [(8,.tok 4 (before.map Ae).length),(12100,.tok 2 (needs.map Ad).length),(1000,.cells [sl AB st.2]),(1001,.cells [vb st.1]),(9,.cells [vs ((Cw before acc needs[j]).getD mt)])] ⟨Zr,Zr,Zr,Zr,Zr,Zr,⟨by show vb true=_;simp_all,rfl⟩,Zr,Zr,Zr,Tv⟩ ⟨Zr,Zr,Zr,Zr,⟨by show HO.cells [vs needs[j].path]=_;simp_all,rfl⟩,Tv⟩ ?_)
   refine Yi (by grind [Au]) (Xi ⟨(j+1,Cw before acc needs[j]),by omega,kk.symm⟩ ?_);exact⟨by grind,Z10,Z5,Fh,Bn aa2⟩
  .intro hb;have hb:¬Op.bytesLess needs[j].path.toList p.toList=true:=hb;rw[<-D1]at hb;have Jt:Cw before acc needs[j]=some p:=by grind [Cw]
   refine cU [(0,.cptr (Ct x (.slice .none ifs) roots d)),(1,sl Ae s),(2,.clo 109 [.cptr [.cptr (Ct x (.slice .none ifs) roots d)],.ref 1000 0,.ref 1001 0]),(7,.slice (.id 12100 2) (needs.map Ad)),(8,.slice (.id 8 4) (before.map Ae)),(9,.ref 9 0),(10,vb (Cw before acc needs[j]).isSome),(22,.slice (.id 12100 2) (needs.map Ad)),(23,vi (needs.map Ad).length),(24,vi j)] [(8,.tok 4 (before.map Ae).length),(12100,.tok 2 (needs.map Ad).length),(1000,.cells [sl AB st.2]),(1001,.cells [vb st.1]),(9,.cells [vs ((Cw before acc needs[j]).getD mt)])] ⟨Zr,Zr,Zr,Zr,Zr,Zr,⟨by show vb true=_;grind,rfl⟩,Zr,Zr,Zr,Tv⟩ ⟨Zr,Zr,Zr,Zr,⟨by show HO.cells [vs p]=_;grind,rfl⟩,Tv⟩ ?_
   refine Yi (by grind [Au]) (Xi ⟨(j+1,Cw before acc needs[j]),by omega,kk.symm⟩ ?_);exact⟨by grind,Z10,Z5,Fh,Bn aa2⟩
 intro h;have h:¬(j:Int)<(needs.map Ad).length:=h;have h:¬j<needs.length:=by simp_all
 have wk:DM needs before=acc:=by rw[j2,A5 Wk];rfl
 refine Ax (show acc=none\/∃p,acc=some p by cases acc<;>grind) (fun ha=>?_) (fun ha=>?_)
 .have ZM:=inv.stop (wk.trans ha);refine cU [(10,vb false)] [(1000,.cells [sl AB st.2]),(1001,.cells [vb st.1])] ⟨⟨by show vb acc.isSome=vb false;grind,rfl⟩,Tv⟩ Z2 ?_
  exact C2 (.refl _) (Yi (Aa vb ZM.1.symm) (Aa (fun a=>Ai (sH a) Af) ZM.2.symm))
 refine Ao ha (fun p ha=>?_);have wk:DM needs before=some p:=wk.trans ha;refine cU [(0,.cptr (Ct x (.slice .none ifs) roots d)),(1,sl Ae s),(2,.clo 109 [.cptr [.cptr (Ct x (.slice .none ifs) roots d)],.ref 1000 0,.ref 1001 0]),(7,.slice (.id 12100 2) (needs.map Ad)),(8,.slice (.id 8 4) (before.map Ae)),(9,.ref 9 0),(10,vb true)] [(8,.tok 4 (before.map Ae).length),(12100,.tok 2 (needs.map Ad).length),(1000,.cells [sl AB st.2]),(1001,.cells [vb st.1]),(9,.cells [vs p])] ⟨Zr,Zr,Zr,Zr,Zr,Zr,⟨by show vb acc.isSome=vb true;grind,rfl⟩,Tv⟩ ⟨Zr,Zr,Zr,Zr,⟨by show HO.cells [vs (acc.getD mt)]=HO.cells [vs p];grind,rfl⟩,Tv⟩ ?_
 refine cU [(0,.cptr (Ct x (.slice .none ifs) roots d)),(1,sl Ae s),(2,.clo 109 [.cptr [.cptr (Ct x (.slice .none ifs) roots d)],.ref 1000 0,.ref 1001 0]),(7,.slice (.id 12100 2) (needs.map Ad)),(8,.slice (.id 8 4) (before.map Ae)),(9,.ref 9 0)] [(8,.tok 4 (before.map Ae).length),(12100,.tok 2 (needs.map Ad).length),(1000,.cells [sl AB st.2]),(1001,.cells [vb st.1]),(9,.cells [vs p])] Z6 Z5 ?_
 have qi:=c78 (fF:=186) (caps:=[.cptr [vs p]]) (fun c hc=>by
  obtain rfl:=AJ.1 hc;intro h;rfl) s (fun y=>decide (y.path=p)) (fun y _=>c79 y p) Wk
 refine Ax (iO s p) (fun hi=>?_) (fun hi=>?_)
 .rw[hi.1]at qi;have ZM:=inv.lost wk hi.2;refine C1 (C2 (qi) (cU [(14,vi (-1))] [(1000,.cells [sl AB st.2]),(1001,.cells [vb st.1])] Z1 Z2 (Yi ?_ ?_)))
  .intro _;exact C2 (.refl _) (Yi (Aa vb ZM.1.symm) (Aa (fun a=>Ai (sH a) Af) ZM.2.symm))
  .intro hc;exact absurd (show((-1:Int)<0) by decide) hc
 refine Ao hi (fun i hi=>?_);refine Ao hi (fun y hi=>?_);have hi2:=hi.2.1;have hi3:=hi.2.2;rw[hi.1]at qi;refine C1 (C2 (qi) (cU [(0,.cptr (Ct x (.slice .none ifs) roots d)),(1,sl Ae s),(2,.clo 109 [.cptr [.cptr (Ct x (.slice .none ifs) roots d)],.ref 1000 0,.ref 1001 0]),(7,.slice (.id 12100 2) (needs.map Ad)),(8,.slice (.id 8 4) (before.map Ae)),(14,vi i)] [(8,.tok 4 (before.map Ae).length),(12100,.tok 2 (needs.map Ad).length),(1000,.cells [sl AB st.2]),(1001,.cells [vb st.1])] Z6 Z4 (Yi ?_ ?_)))
 .intro hc;exact absurd (show((i:Int)<0)from hc) Wk
 intro _;refine cU [(0,.cptr (Ct x (.slice .none ifs) roots d)),(1,sl Ae s),(2,.clo 109 [.cptr [.cptr (Ct x (.slice .none ifs) roots d)],.ref 1000 0,.ref 1001 0]),(7,.slice (.id 12100 2) (needs.map Ad)),(8,.slice (.id 8 4) (before.map Ae)),(14,vi i)] [(8,.tok 4 (before.map Ae).length),(12100,.tok 2 (needs.map Ad).length),(1000,.cells [sl AB st.2]),(1001,.cells [vb st.1])] Z6 Z4 ?_
 have hgy:(s.map Ae)[(i:Int).toNat]?=some (Ae y):=by simp_all
 have VI:PC 40 [Jf x ifs,vs y.path,.agg (Ej y.ver)] (G5 (AY x y)):=c53 x ifs y.path y.ver T3 hx;refine yN (Xi (Ae y) (Yi (Yi Wk hgy) (Yi rfl (Xi (Ae y) (Yi (Yi Wk hgy) (Yi rfl (yN (Ax (show AY x y=none\/∃r,AY x y=some r by grind) (fun hr=>?_) (fun hr=>?_)))))))))
 .rw[hr]at VI;have ZM:=inv.gone wk hi3 hr;refine C2 (VI) (yN (Yi aa2 (cU [(16,vb false)] [(1000,.cells [sl AB st.2]),(1001,.cells [vb st.1])] Z1 Z2 ?_)))
  exact C2 (.refl _) (Yi (Aa vb ZM.1.symm) (Aa (fun a=>Ai (sH a) Af) ZM.2.symm))
 refine Ao hr (fun r hr=>?_);rw[hr]at VI;refine C2 (VI) (yN (Yi aa2 ?_));have hrx:r∈x:=(Cv hr).2.1;have AcU:=inv.next wk hi3 hr (mD r hrx) (fun q hq=>((hx r hrx).2 q hq).1)
 refine cU [(0,.cptr (Ct x (.slice .none ifs) roots d)),(1,sl Ae s),(2,.clo 109 [.cptr [.cptr (Ct x (.slice .none ifs) roots d)],.ref 1000 0,.ref 1001 0]),(7,.slice (.id 12100 2) (needs.map Ad)),(8,.slice (.id 8 4) (before.map Ae)),(14,vi i),(15,.ref 15 0),(16,vb true)] [(8,.tok 4 (before.map Ae).length),(12100,.tok 2 (needs.map Ad).length),(1000,.cells [sl AB st.2]),(1001,.cells [vb st.1]),(15,.cells (Am r))] Z8 Z5 (cU [(0,.cptr (Ct x (.slice .none ifs) roots d)),(1,sl Ae s),(2,.clo 109 [.cptr [.cptr (Ct x (.slice .none ifs) roots d)],.ref 1000 0,.ref 1001 0]),(7,.slice (.id 12100 2) (needs.map Ad)),(8,.slice (.id 8 4) (before.map Ae)),(14,vi i),(15,.ref 15 0)] [(8,.tok 4 (before.map Ae).length),(12100,.tok 2 (needs.map Ad).length),(1000,.cells [sl AB st.2]),(1001,.cells [vb st.1]),(15,.cells (Am r))] Z7 Z5 (yN ?_));have AdC:=c46 x (.slice .none ifs) roots d st before needs r (Fs h0).1 hd ht Wk yL inv.few;refine Xi (.gen [(1000,1000),(1001,1001)] 0) (Yi rfl (AdC.imp ?_));intro v g q;have q1:=q.1;have q2:=q.2;subst q1;subst q2
 clear q
 refine cU [(0,.cptr (Ct x (.slice .none ifs) roots d)),(1,sl Ae s),(2,.clo 109 [.cptr [.cptr (Ct x (.slice .none ifs) roots d)],.ref 1000 0,.ref 1001 0]),(7,.slice (.id 12100 2) (needs.map Ad)),(8,.slice (.id 8 4) (before.map Ae)),(14,vi i),(15,.ref 15 0)] [(8,.tok 4 (before.map Ae).length),(12100,.tok 2 (needs.map Ad).length),(1000,.cells [sl AB (B6 x d st ⟨before,needs,r⟩).2]),(1001,.cells [vb (B6 x d st ⟨before,needs,r⟩).1]),(15,.cells (Am r))] Z7 Z5 (Xi (Ae y) (Yi (Yi Wk hgy) (Yi rfl (yN ?_))));have CY:Bh 4 [Ae y]/\(before.map Ae).length=(before.map Ae).length/\((before.map Ae).length+[Ae y].length)*40<=140737488355328/\(before.map Ae).length+[Ae y].length<=9223372036854775807:=
  ⟨⟨rfl,trivial⟩,rfl,by grind,by grind⟩
 refine Yi CY ?_;have L0:=mD r hrx;have d5:Bh 2 (r.reqs.map Ad)/\(needs.map Ad).length=(needs.map Ad).length/\((needs.map Ad).length+(r.reqs.map Ad).length)*40<=140737488355328/\(needs.map Ad).length+(r.reqs.map Ad).length<=9223372036854775807:=
  ⟨Cm (enc:=Ad) (n:=2) (fun _=>rfl) r.reqs,rfl,by grind,by grind⟩
 refine Yi d5 ?_;have e7:AV.slice (.id 12100 2) (needs.map Ad++r.reqs.map Ad)=.slice (.id 12100 2) ((needs++r.reqs).map Ad):=by simp_all
 have e8:AV.slice (.id 8 4) (before.map Ae++[Ae y])=.slice (.id 8 4) ((before++[y]).map Ae):=by simp_all
 have o7:HO.tok 2 ((needs.map Ad).length+(r.reqs.map Ad).length)=.tok 2 ((needs++r.reqs).map Ad).length:=by simp_all
 have o8:HO.tok 4 ((before.map Ae).length+[Ae y].length)=.tok 4 ((before++[y]).map Ae).length:=by simp_all
 refine Xi ⟨(before++[y],needs++r.reqs,m,(B6 x d) st ⟨before,needs,r⟩),AcU⟩ ?_;exact⟨by simp_all,⟨Zr,Zr,Zr,⟨e7,rfl⟩,⟨e8,rfl⟩,Tv⟩,⟨⟨o8,rfl⟩,⟨o7,rfl⟩,Zr,Zr,Tv⟩,Fh,Bn aa2⟩
def OP(q:Rq):Bool:=decide (q.path.size<=100)&&decide (q.set.length<=8)
def Dy:Bool:=l.all OP&&decide (l.length<=20)
theorem c35(hl:BO l):PC 37 [sl Ad l] (vb (Dy l)):=by
 unfold BO at hl;refine Ps CX func37 rfl (Nz rfl) (Xi {i:Nat // i<=l.length/\∀j (hj:j<l.length),j<i->OP l[j]=true} (Xi (fun i=>⟨[(0,sl Ad l),(3,vi i.1)],[],Af⟩) (Xi (fun i=>l.length-i.1) (Yi (Xi ⟨0,Al _,fun j _ h=>by omega⟩ ?_) ?_))))
 .exact⟨Z2,Tv,Fh,Tv⟩
 intro⟨i,h1,h2⟩;refine Yi ?_ ?_
 .intro h;have h:i<l.length:=by simp_all
  have hg:l[i]?=some l[i]:=Ge h;have no:OP l[i]=false->false=Dy l:=fun e=>by
   grind [Dy]
  refine Xi (Ad l[i]) (Yi (Yi Wk (by simp_all)) (Yi rfl ?_));refine Yi ?_ ?_
  .intro h3;exact .of_eq (Aa vb (no (by grind [OP])))
  intro h3;refine Xi (Ad l[i]) (Yi (Yi Wk (by simp_all)) (Yi rfl ?_));refine Yi ?_ ?_
  .intro h4;rw[Lm]at h4;exact .of_eq (Aa vb (no (by grind [OP])))
  intro h4;have h5:l[i].set.length<=8:=by grind
  refine Yi (by grind [Au]) (Xi ⟨i+1,by omega,fun j hj GC=>?_⟩ ?_)
  .grind [OP]
  .exact⟨Dl l.length i Wk,Z2,Tv,Fh,Tv⟩
 .intro h;have h:¬i<l.length:=by simp_all
  have ha:l.all OP=true:=A0.2 fun q hq=>by
   grind [List.getElem_of_mem]
  refine Yi ?_ ?_
  .intro h3;rw[Lm]at h3;exact .of_eq (Aa vb (show true=Dy l by grind [Dy]))
  .intro h3;rw[Lm]at h3;exact .of_eq (Aa vb (show false=Dy l by grind [Dy]))
def Ks(r:Rl):Bool:=decide (r.path.size<=100)&&decide (r.arch.size<=100)&&decide (r.ifc.size<=100)&&decide (r.cert.size<=100)&&Dy r.reqs
def FD:Bool:=x.all Ks&&decide (x.length<=n)
theorem c34(hl:BO x)(hr:∀r∈x,BO r.reqs):PC 36 [sl Am x,vi n] (vb (FD x n)):=by
 unfold BO at hl;refine Ps CX func36 rfl (Nz rfl) (Xi {i:Nat // i<=x.length/\∀j (hj:j<x.length),j<i->Ks x[j]=true} (Xi (fun i=>⟨[(0,sl Am x),(1,vi n),(5,vi i.1)],[],Af⟩) (Xi (fun i=>x.length-i.1) (Yi (Xi ⟨0,Al _,fun j _ h=>by omega⟩ ?_) ?_))))
 .exact⟨Z3,Tv,Fh,Tv⟩
 intro⟨i,h1,h2⟩;refine Yi ?_ ?_
 .intro h;have h:i<x.length:=by simp_all
  have hg:x[i]?=some x[i]:=Ge h;have no:Ks x[i]=false->false=FD x n:=fun e=>by
   grind [FD]
  have hc:=c35 x[i].reqs (hr _ (Ah h));refine Xi (Am x[i]) (Yi (Yi Wk (by simp_all)) (Yi rfl ?_));refine Yi ?_ ?_
  .intro h3;exact .of_eq (Aa vb (no (by grind [Ks])))
  intro h3;refine Xi (Am x[i]) (Yi (Yi Wk (by simp_all)) (Yi rfl ?_));refine Yi ?_ ?_
  .intro h4;exact .of_eq (Aa vb (no (by grind [Ks])))
  intro h4;refine Xi (Am x[i]) (Yi (Yi Wk (by simp_all)) (Yi rfl ?_));refine Yi ?_ ?_
  .intro h5;exact .of_eq (Aa vb (no (by grind [Ks])))
  intro h5;refine Xi (Am x[i]) (Yi (Yi Wk (by simp_all)) (Yi rfl ?_));refine Yi ?_ ?_
  .intro h6;exact .of_eq (Aa vb (no (by grind [Ks])))
  intro h6;refine Xi (Am x[i]) (Yi (Yi Wk (by simp_all)) (Yi rfl ?_));refine Ax (Bt (Dy x[i].reqs)) (fun e=>?_) (fun e=>?_)
  rotate_left
  .rw[e]at hc;refine C1 (C2 (hc) ?_);exact .of_eq (Aa vb (no (by grind [Ks])))
  rw[e]at hc;refine C1 (C2 (hc) (Yi (by grind [Au]) (Xi ⟨i+1,by omega,fun j hj GC=>?_⟩ ?_)))
  .grind [Ks]
  .exact⟨Dl x.length i Wk,Z3,Tv,Fh,Tv⟩
 .intro h;have h:¬i<x.length:=by simp_all
  have ha:x.all Ks=true:=A0.2 fun q hq=>by
   grind [List.getElem_of_mem]
  refine Yi ?_ ?_
  .intro h3;rw[Lm]at h3;exact .of_eq (Aa vb (show true=FD x n by grind [FD]))
  .intro h3;rw[Lm]at h3;exact .of_eq (Aa vb (show false=FD x n by grind [FD]))
theorem c11(hl:BO x)(hr:∀r∈x,BO r.reqs)(hq:BO roots):PC 10 [Jf x ifs,sl Ad roots] (vb (FD x 16&&Dy roots)):=by
 have h1:=c34 x 16 hl hr;have h2:=c35 roots hq;cases e:FD x 16 with
 |true=>
  rw[e]at h1;refine Ps CX func10 rfl (Nz rfl) (C1 (C2 (h1) (C1 (C2 (h2) ?_))));exact .refl _
 |false=>
  rw[e]at h1;refine Ps CX func10 rfl (Nz rfl) (C1 (C2 (h1) ?_));exact .refl _
end Go.Eng
