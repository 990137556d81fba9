/- Lemmas 19. -/
import Derived.Test.YtpgfieopnnkpfaaGreatDoorQA18
namespace Go.Eng
open Go.Proofs
variable {BN:List (Value×AV)}{p:ByteArray}{i:Nat}(y:List Rl)(d:List (List Tm))(v:TO)(x:List Rl)(j:Nat)(l:List ByteArray)(o:Rl)(ifs:List (List AV))
theorem KT:∀(y:List Rl) (acc:List ByteArray) (r:Rl),Bx (y++[r]) acc=if(Bx y acc).any (fun p=>decide (p=r.path))then Bx y acc else Bx y acc++[r.path]
 | [],acc,r=>rfl
 |s::y,acc,r=>by rw[D8,Bx,Bx,KT y]
theorem H6:∀(y:List Rl) (acc:List ByteArray),acc.Nodup->(Bx y acc).Nodup
 | [],_,h=>h
 |s::y,acc,h=>by
  rw[Bx];refine H6 y _ ?_
  grind
abbrev bj(p:ByteArray):List (List AV):=(y.filter fun r=>decide (r.path=p)).map Ak
abbrev uf(q:ByteArray×Nat):Value×AV:=(.string q.1,.slice (.id (q.2+50) 9) (bj y q.1))
abbrev Ss:List (Value×AV):=(Bx y []).zipIdx.map (uf y)
def K4(l:Nat):HO:=match(Bx y [])[l]? with
 |some q=>.tok 9 (bj y q).length
 |none=>.free
def UM:HO:=bif Nat.ble 50 j then K4 y (j-50)else .free
theorem HA(l:Nat):UM y (l+50)=K4 y l:=by
 grind [UM,Nat.ble_eq]
theorem qQ{j:Nat}(h:j<50):UM y j=.free:=by
 grind [UM,Nat.ble_eq]
open Classical in
theorem L3{k:Value}{a:AV}(h:∀a',(k,a')∉BN):FI BN k a=BN++[(k,a)]:=by
 grind [FI]
open Classical in
theorem kE{k:Value}{a a' : AV}(h:(k,a')∈BN):FI BN k a=BN.map fun p=>if p.1=k then(k,a)else p:=by
 unfold FI;rw[AE ⟨a',h⟩]
section
variable {y:List Rl}{r:Rl}{k:Nat}
theorem Vd(h:(Bx y [])[k]?=some r.path):Bx (y++[r]) []=Bx y []:=by
 grind [KT]
theorem Vc(h:r.path∉Bx y []):Bx (y++[r]) []=Bx y []++[r.path]:=by
 grind [KT]
theorem PO{l:List ByteArray}(hd:l.Nodup){i j:Nat}(h1:l[i]?=some p)(h2:l[j]?=some p):i=j:=by
 grind [List.getElem_inj]
open Classical in
theorem nw(h:(Bx y [])[k]?=some r.path):FI (Ss y) (.string r.path) (.slice (.id (k+50) 9) (bj y r.path++[Ak r]))=Ss (y++[r]):=by
 have hd:=H6 y [] List.nodup_nil;have hm:uf y (r.path,k)∈Ss y:=Ay.2 ⟨_,List.mem_zipIdx_iff_getElem?.2 h,rfl⟩;rw[kE (a':=.slice (.id (k+50) 9) (bj y r.path)) hm];unfold Ss;rw[Vd h,Cf];refine Cd fun q hq=>?_
 grind [PO]
theorem cP(h:r.path∉Bx y []):bj y r.path=[]:=by
 grind [List.filter_eq_nil_iff,L9]
theorem jo(h:r.path∉Bx y [])(a:AV):(Value.string r.path,a)∉Ss y:=by
 grind
theorem nv(h:r.path∉Bx y []):FI (Ss y) (.string r.path) (.slice (.id ((Bx y []).length+50) 9) [Ak r])=Ss (y++[r]):=by
 grind [L3,Vc,List.map_congr_left,cP]
theorem jp{j:Nat}(h:(Bx y [])[j]?=some p):(Value.string p,AV.slice (.id (j+50) 9) (bj y p))∈Ss y/\∀b,(Value.string p,b)∈Ss y->b=AV.slice (.id (j+50) 9) (bj y p):=by
 refine⟨Ay.2 ⟨(p,j),List.mem_zipIdx_iff_getElem?.2 h,rfl⟩,fun b hb=>?_⟩
 grind [PO,H6]
theorem lM{j:Nat}(h:(Bx y [])[j]?=some p):K4 y j=.tok 9 (bj y p).length:=by
 grind [K4]
theorem pe(h:(Bx y [])[k]?=some r.path)(l:Nat):(bif Nat.beq (l+50) (k+50)then HO.tok 9 ((bj y r.path).length+1)else K4 y l)=K4 (y++[r]) l:=by
 grind [Nat.beq_refl,K4,Vd,Nat.eq_of_beq_eq_true,PO,H6]
theorem pd(h:r.path∉Bx y [])(l:Nat):(bif Nat.beq (l+50) ((Bx y []).length+50)then HO.tok 9 1 else K4 y l)=K4 (y++[r]) l:=by
 grind [Nat.beq_refl,K4,Vc,cP,Nat.eq_of_beq_eq_true]
end
theorem UT{h:Nat->HO}:∀{BN:List (Value×AV)},(∀p∈BN,SF h p.2=true)->SG h BN=true
 | [],_=>rfl
 |p::r,hk=>by
  unfold SG;rw[hk p (Ai ..)];exact UT (fun q hq=>hk q (At _ hq))
theorem KK{h:Nat->HO}(hh:∀l,h (l+50)=K4 y l):SG h (Ss y)=true:=by
 refine UT fun p hp=>?_;obtain⟨q,h1,rfl⟩:=Ay.1 hp;show T3 h (q.2+50)=true
 grind [T3,lM]
theorem I9{y:List Rl}{h h' : Nat->HO}(hh:∀l,h (l+50)=K4 y l)(j:Nat):UM y j=.free\/(h j=UM y j/\aO h' (UM y j)=true):=by
 by_cases hj:j<50
 .grind [qQ]
 .obtain⟨l,rfl⟩:∃l,j=l+50:=⟨j-50,by omega⟩
  right
  rw[HA];refine⟨hh l,?_⟩;unfold K4;cases (Bx y [])[l]?<;>rfl
theorem oM{x:List Rl}(hx:AD x=0)(hi:i<x.length):FI ((x.take i).map NH) (UY (Cn x[i])) (.agg (Ak x[i]))=(x.take (i+1)).map NH:=by
 rw[L3]
 .rw[B9,Ge hi,AB];rfl
 intro a ha;obtain⟨r,hr,he,_⟩:=WG ha;obtain⟨j,hj,e2⟩:=List.mem_iff_getElem.1 hr;rw[AC]at hj;rw[List.getElem_take]at e2;have hp:=(D0 hx).2
 grind [List.pairwise_iff_getElem,SY]
abbrev vV:Nm:=⟨[],[],[],[],[8,9],[9],[40],[],[],[],[8,9,10,11]⟩
abbrev zT:List AV:=[.v (.map none),.v (.map none)]
theorem mN(wK:PC 115 [Jx x ifs] (vi (AD x)))(h0:AD x≠0):bK x ifs:=by
 have ht:sa x=.tup [.agg [.cmap N2 [],.cmap Fl []],vi (AD x)]:=by simp_all
 unfold bK;rw[ht];refine Ps vV Tryz.func138 rfl (Nz rfl) (Xi 0 (Xi 0 (yN (Xi 0 (yN (Xi .pure (Xi _ (Yi (wK) (Xi 0 (Yi ?_ ?_))))))))))
 .intro _;refine Xi 0 (yN (yN (yN ?_)));exact .refl _
 .intro h;exact absurd h (fun hc=>hc h0)
theorem L8:∀(y:List Rl) (acc:List ByteArray),(Bx y acc).length<=acc.length+y.length
 | [],acc=>by simp[Bx]
 |r::y,acc=>by
  rw[Bx];refine AL (L8 y _) ?_
  grind
section
attribute [local irreducible] II
theorem qy(wK:PC 115 [Jx x ifs] (vi (AD x)))(h0:AD x=0)(Cy:x.length<=256):bK x ifs:=by
 have ht:sa x=.tup [.agg [.cmap N2 (x.map NH),.cmap Fl ((Bx x []).map (fu x))],vi 0]:=by simp_all
 unfold bK;rw[ht];rw[h0]at wK;refine Ps vV Tryz.func138 rfl (Nz rfl) (Xi 0 (Xi 0 (yN (Xi 0 (yN (Xi .pure (Xi _ (Yi (wK) (Xi 0 (Yi ?_ ?_))))))))))
 .intro hc;exact absurd (show(0:Int)≠0 from hc) aa2
 intro _;refine Xi 0 (Xi {i:Nat // i<=x.length} (Xi (fun i=>⟨[(2,.ref 2 0),(4,.ref 4 0),(18,sl Ak x),(19,vi (x.map Ak).length),(20,vi i.1)],[(2,.cells zT),(4,.cells [.mref 8,.mref 9]),(8,.map N2 ((x.take i.1).map NH)),(9,.mapU Fl (Ss (x.take i.1)))],UM (x.take i.1)⟩) (Xi (fun i=>x.length-i.1) (Yi (Xi ⟨0,Ao _⟩ ?_) ?_))))
 .refine⟨Z5,Z4,fun j=>.inl ?_,Tv⟩;show UM [] j=.free;unfold UM;cases Nat.ble 50 j<;>rfl
 intro⟨i,i1⟩;refine Xi 0 (Yi ?_ ?_)
 .intro h;have h:i<x.length:=by simp_all
  have hg:x[i]?=some x[i]:=Ge h;have SC:x.take (i+1)=x.take i++[x[i]]:=by simp_all
  refine Xi 0 (Xi (Ak x[i]) (Yi (Yi aa0 (by simp_all)) (Yi rfl ?_)));refine Yi (Nz rfl) (yN (Xi ⟨[(2,.ref 2 0),(4,.ref 4 0),(7,.ref 7 0),(18,sl Ak x),(19,vi (x.map Ak).length),(20,vi i)],[(2,.cells zT),(4,.cells [.mref 8,.mref 9]),(7,.cells (Ak x[i])),(8,.map N2 ((x.take i).map NH)),(9,.mapU Fl (Ss (x.take i)))],UM (x.take i)⟩ (Yi ?_ ?_)))
  .exact⟨Z6,⟨Zr,Zr,Zr,Zr,⟨rfl,KK _ (HA _)⟩,Tv⟩,I9 (HA _),Tv⟩
  refine Xi 0 (yN (Xi _ (Yi (qe x[i]) (yN (Yi aa3 ?_)))));have e8:FI ((x.take i).map NH) (UY (Cn x[i])) (.agg (Ak x[i]))=(x.take (i+1)).map NH:=oM h0 h;refine Xi ⟨[(2,.ref 2 0),(4,.ref 4 0),(7,.ref 7 0),(18,sl Ak x),(19,vi (x.map Ak).length),(20,vi i)],[(2,.cells zT),(4,.cells [.mref 8,.mref 9]),(7,.cells (Ak x[i])),(8,.map N2 ((x.take (i+1)).map NH)),(9,.mapU Fl (Ss (x.take i)))],UM (x.take i)⟩ (Yi ?_ ?_)
  .exact⟨Z6,⟨Zr,Zr,Zr,⟨Aa (HO.map N2) e8,rfl⟩,⟨rfl,KK _ (HA _)⟩,Tv⟩,I9 (HA _),Tv⟩
  have hL:((x.take i).filter (fun r=>decide (r.path=x[i].path))).length<=256:=by
   grind
  have hP:∀l,UM (x.take i) (l+50)=K4 (x.take i) l:=HA _;refine AG (Classical.em (x[i].path∈Bx (x.take i) [])) (fun hp=>?_) (fun hp=>?_)
  .refine Am (EK.1 hp) (fun k hk=>?_);have hu:=jp hk;refine Xi 0 ?_;refine Or.inl (Xi (.slice (.id (k+50) 9) (bj (x.take i) x[i].path)) (Yi hu ?_));refine yN ?_;have hr:UM (x.take i) (k+50)=.tok 9 (bj (x.take i) x[i].path).length:=by rw[hP,lM hk]
   have hl:(bj (x.take i) x[i].path).length<=256:=by grind
   refine XC (e:=89) (m:=8) (es2:=[Ak x[i]]) rfl rfl rfl (fun _ h=>h) hr ⟨rfl,trivial⟩ (by show(_+1)*120<=_;omega) (by grind) ?_;have Ac4:k<256:=by
    have:=(AR.1 hk).1
    have:=L8 (x.take i) []
    grind
   have rh:=hk;refine Yi (Om ⟨Cc _,Cc _,Cc _,Cc _,Cc _,Cc _,Cc _,Cc _,Cc _,Cc _,Hi (show 39<10000000 by decide),Hi aa0,Hi (show 9<10000000 by decide),trivial⟩ aa3) ?_;have e9:FI (Ss (x.take i)) (.string x[i].path) (.slice (.id (k+50) 9) (bj (x.take i) x[i].path++[Ak x[i]]))=Ss (x.take (i+1)):=by rw[SC];exact nw rh
   have hG:∀l,(bif Nat.beq (l+50) (k+50)then HO.tok 9 ((bj (x.take i) x[i].path).length+1)else K4 (x.take i) l)=K4 (x.take (i+1)) l:=by rw[SC];exact pe rh
   refine Xi ⟨[(2,.ref 2 0),(4,.ref 4 0),(18,sl Ak x),(19,vi (x.map Ak).length),(20,vi i)],[(2,.cells zT),(4,.cells [.mref 8,.mref 9]),(8,.map N2 ((x.take (i+1)).map NH)),(9,.mapU Fl (Ss (x.take (i+1))))],UM (x.take (i+1))⟩ (Yi ?_ ?_)
   .refine⟨Z5,⟨Zr,Zr,Zr,⟨Aa (HO.mapU Fl) e9,KK _ (HA _)⟩,Tv⟩,I9 (fun l=>?_),Tv⟩;show(bif Nat.beq (l+50) (k+50)then HO.tok 9 ((bj (x.take i) x[i].path).length+1)else UM (x.take i) (l+50))=_
    grind
   refine Xi 0 (Yi (Ii i aa0) (Xi ⟨i+1,by omega⟩ ?_));exact⟨by grind,Z5,⟨Zr,Zr,Zr,⟨rfl,KK _ (HA _)⟩,Tv⟩,I9 (HA _),Tv⟩
  .have rh:=hp;have UP:(Bx (x.take i) []).length<=256:=by
    have:=L8 (x.take i) []
    grind
   have hn:=jo hp;refine Xi ((Bx (x.take i) []).length+50) ?_;refine Or.inr (Yi hn ?_);refine yN ?_;have hr:UM (x.take i) ((Bx (x.take i) []).length+50)=.free:=by
    rw[hP];unfold K4;simp_all
   refine XB (e:=89) (m:=8) (es2:=[Ak x[i]]) rfl rfl rfl (fun _ h=>h) hr rfl ⟨rfl,trivial⟩ (by show 1*120<=_;omega) (by simp_all) ?_;refine Yi (Om ⟨Cc _,Cc _,Cc _,Cc _,Cc _,Cc _,Cc _,Cc _,Cc _,Cc _,Hi (show 39<10000000 by decide),Hi (by show _+50<10000000;omega),Hi (show 9<10000000 by decide),trivial⟩ aa3) ?_;have e9:FI (Ss (x.take i)) (.string x[i].path) (.slice (.id ((Bx (x.take i) []).length+50) 9) [Ak x[i]])=Ss (x.take (i+1)):=by rw[SC];exact nv rh
   have hG:∀l,(bif Nat.beq (l+50) ((Bx (x.take i) []).length+50)then HO.tok 9 1 else K4 (x.take i) l)=K4 (x.take (i+1)) l:=by rw[SC];exact pd rh
   refine Xi ⟨[(2,.ref 2 0),(4,.ref 4 0),(18,sl Ak x),(19,vi (x.map Ak).length),(20,vi i)],[(2,.cells zT),(4,.cells [.mref 8,.mref 9]),(8,.map N2 ((x.take (i+1)).map NH)),(9,.mapU Fl (Ss (x.take (i+1))))],UM (x.take (i+1))⟩ (Yi ?_ ?_)
   .refine⟨Z5,⟨Zr,Zr,Zr,⟨Aa (HO.mapU Fl) e9,KK _ (HA _)⟩,Tv⟩,I9 (fun l=>?_),Tv⟩;show(bif Nat.beq (l+50) ((Bx (x.take i) []).length+50)then HO.tok 9 1 else UM (x.take i) (l+50))=_;simp_all
   refine Xi 0 (Yi (Ii i aa0) (Xi ⟨i+1,by omega⟩ ?_));exact⟨by grind,Z5,⟨Zr,Zr,Zr,⟨rfl,KK _ (HA _)⟩,Tv⟩,I9 (HA _),Tv⟩
 .intro h;have h:¬i<x.length:=by simp_all
  have et:x.take i=x:=AK aa0;refine Xi ⟨[(2,.ref 2 0),(4,.ref 4 0)],[(2,.cells zT),(4,.cells [.mref 8,.mref 9]),(8,.map N2 ((x.take i).map NH)),(9,.mapU Fl (Ss (x.take i)))],UM (x.take i)⟩ (Yi ?_ ?_)
  .exact⟨Z2,⟨Zr,Zr,Zr,⟨rfl,KK _ (HA _)⟩,Tv⟩,I9 (HA _),Tv⟩
  refine Xi 0 (yN (yN (yN ?_)));have es:∀h:Nat->HO,Zt h (Ss (x.take i))=(Bx x []).map (fu x):=fun h=>by
   rw[et];unfold Zt Ss;rw[Cf];refine CR fun j=>?_;rw[BX,BX,List.getElem?_zipIdx];cases (Bx x [])[j]?<;>rfl
  have e1:(x.take i).map NH=x.map NH:=by rw[et]
  exact .of_eq (show AV.tup [.agg [.cmap N2 ((x.take i).map NH),.cmap Fl (Zt _ (Ss (x.take i)))],vi 0]=_ by rw[e1,es])
end
theorem c84(hx:∀r∈x,F3 r):bK x ifs:=by
 by_cases h0:AD x=0
 .exact qy x ifs (yD iz x ifs hx) h0 (Fs h0).1
 .exact mN x ifs (yD iz x ifs hx) h0
abbrev plT(n:Nat):Nm:=⟨[],[(2,n)],[],[],[],[],[5],[],[],[],[2,3]⟩
theorem qx(l:List Rq)(hl:BB l):Cq Tryz.prog 144 [sl Ad l] (Ar [] Af) fun r h'=>r=.slice (.id 2000 2) (l.map Ad)/\h'=Ar [(2000,.tok 2 (l.map Ad).length)] Af:=by
 refine BO (Mt (plT 2)) [(2,2000)] rfl B8 hm rfl Tryz.func144 aa3 rfl (Nz rfl) aa3 rfl ?_;have CM:AZ 2 (l.map Ad)/\([]:List (List AV)).length=0/\(([]:List (List AV)).length+(l.map Ad).length)*40<=140737488355328/\([]:List (List AV)).length+(l.map Ad).length<=9223372036854775807:=by
  grind [CE]
 have e2:HO.tok 2 (([]:List (List AV)).length+(l.map Ad).length)=.tok 2 (l.map Ad).length:=by simp_all
 have e3:AV.slice (.id 2000 2) ([]++l.map Ad)=.slice (.id 2000 2) (l.map Ad):=rfl;have full:∀st:St,(∃s:LS,St.le (Mt (plT 2)) st s/\True)->True:=fun _ _=>trivial;refine Xi 0 (Xi 0 (Yi ?_ ?_))
 .intro _;refine cU [(0,sl Ad l)] [] Z1 Tv (Xi 2 (Yi CM ?_));exact Xi _ (Yi (.refl _) (Yi e3 (Aa (fun o=>Ar [(2000,o)] Af) e2)))
 .intro h;have h:l.map Ad=[]:=h;refine Yi ?_ ?_
  .refine Xi ⟨[],[],Af⟩ (Yi ⟨trivial,trivial,fun _=>.inl rfl,Cr aa3⟩ ?_);refine Xi 0 ?_;exact Xi _ (Yi (.refl _) (Yi (show AV.slice (.id 2000 2) []=_ by rw[h]) (show Ar [(2000,HO.tok 2 0)] Af=_ by simp_all)))
  .refine cU [(0,sl Ad l)] [] Z1 Tv (Xi 2 (Yi CM ?_));exact Xi _ (Yi (.refl _) (Yi e3 (Aa (fun o=>Ar [(2000,o)] Af) e2)))
theorem yy(l:List Sl)(hl:BB l):Cq Tryz.prog 151 [sl Ae l] (Ar [] Af) fun r h'=>r=.slice (.id 2000 4) (l.map Ae)/\h'=Ar [(2000,.tok 4 (l.map Ae).length)] Af:=by
 refine BO (Mt (plT 4)) [(2,2000)] rfl B8 hm rfl Tryz.func151 aa3 rfl (Nz rfl) aa3 rfl ?_;have CM:AZ 4 (l.map Ae)/\([]:List (List AV)).length=0/\(([]:List (List AV)).length+(l.map Ae).length)*40<=140737488355328/\([]:List (List AV)).length+(l.map Ae).length<=9223372036854775807:=by
  grind [CE]
 have e2:HO.tok 4 (([]:List (List AV)).length+(l.map Ae).length)=.tok 4 (l.map Ae).length:=by simp_all
 have e3:AV.slice (.id 2000 4) ([]++l.map Ae)=.slice (.id 2000 4) (l.map Ae):=rfl;refine Xi 0 (Xi 0 (Yi ?_ ?_))
 .intro _;refine cU [(0,sl Ae l)] [] Z1 Tv (Xi 2 (Yi CM ?_));exact Xi _ (Yi (.refl _) (Yi e3 (Aa (fun o=>Ar [(2000,o)] Af) e2)))
 .intro h;refine Yi ?_ ?_
  .refine Xi ⟨[],[],Af⟩ (Yi ⟨trivial,trivial,fun _=>.inl rfl,Cr aa3⟩ ?_);refine Xi 0 ?_;exact Xi _ (Yi (.refl _) (Yi (show AV.slice (.id 2000 4) []=_ by rw[h]) (show Ar [(2000,HO.tok 4 0)] Af=_ by simp_all)))
  .refine cU [(0,sl Ae l)] [] Z1 Tv (Xi 2 (Yi CM ?_));exact Xi _ (Yi (.refl _) (Yi e3 (Aa (fun o=>Ar [(2000,o)] Af) e2)))
abbrev Aaw:Nm:=⟨[9,16],[],[],[],[],[],[],[],[(98,3)],[],[5,6,7,8,10,11,13,14]⟩
abbrev ZG(p:List Sk×Bool):AV:=.tup [sl A1 p.1,vb p.2]
def W5(x:List Rl)(k:List Sk):List Sk×Bool:=match k with
  | []=>([],false)
  |y::k'=>if !decide (y.path=v.rel.path)||!decide (y.place=plc o.ver)then([],false)else match Di d y.inf with
   |none=>([],false)
   |some t=>if CN t (v.before++[Cn o])then DP d v x k' else([],false)
theorem PY(x:List Rl)(k:List Sk):DP d v (o::x) k =
  if !decide (o.path=v.rel.path)||o.yanked||!decide (plc o.ver<plc v.rel.ver)then DP d v x k else
  if v.needs.any (fun q=>decide (q.path=v.rel.path)&&!has q.set (plc o.ver))then DP d v x k else W5 d v o x k:=by
 cases k<;>rfl
theorem ML{d:List (List Tm)}{v:TO}{x:List Rl}(h:i<x.length){k:List Sk}{p:List Sk×Bool}(e:p=DP d v (x.drop i) k)(hs:(!decide (x[i].path=v.rel.path)||x[i].yanked||!decide (plc x[i].ver<plc v.rel.ver))=true\/v.needs.any (fun q=>decide (q.path=v.rel.path)&&!has q.set (plc x[i].ver))=true):p=DP d v (x.drop (i+1)) k:=by
 grind [List.drop_eq_getElem_cons,PY]
theorem oY{d:List (List Tm)}{v:TO}{x:List Rl}(h:i<x.length){k:List Sk}{p:List Sk×Bool}(e:p=DP d v (x.drop i) k)(h1:x[i].path=v.rel.path)(h2:x[i].yanked=false)(h3:plc x[i].ver<plc v.rel.ver)(h4:v.needs.any (fun q=>decide (q.path=v.rel.path)&&!has q.set (plc x[i].ver))=false):p=W5 d v x[i] (x.drop (i+1)) k:=by
 grind [List.drop_eq_getElem_cons,PY]
theorem Kw:DC (.tup [nzA,vb false]) (ZG ([],false)):=DC.tup ⟨.nil,.refl _,trivial⟩
theorem gw(k:List Sk):(((k.map A1).take ((k.map A1).length:Int).toNat).drop (1:Int).toNat)=(k.drop 1).map A1:=by
 grind [List.take_length,List.map_drop]
theorem c47(ifs:AV)(roots:List Rq)(d:List (List Tm))(k:List Sk)(before:List Sl)(needs:List Rq)(r:Rl)(hx:x.length<=256)(_hd:d.length<=65536)(ht:∀t∈d,TQ t)(hb:before.length<=1000)(hn:BB needs)(hq:∀q∈needs,BB q.set) :
  PC 86 [.cptr (BF x ifs roots d),sl A1 k,sl Ae before,sl Ad needs,.agg (Ak r)] (ZG (DP d ⟨before,needs,r⟩ x k)):=by
 have uA:BB before:=by omega
 obtain⟨P,hP⟩:∃P,P=DP d ⟨before,needs,r⟩ x k:=⟨_,rfl⟩;rw[<-hP];refine Ps Aaw Tryz.func86 rfl (Nz rfl) (yN (Xi .pure (Xi _ (Yi (tK r.ver) (Xi {p:Nat×List Sk // p.1<=x.length/\P=DP d ⟨before,needs,r⟩ (x.drop p.1) p.2} (Xi (fun p=>⟨[(0,.cptr (BF x ifs roots d)),(1,sl A1 p.1.2),(2,sl Ae before),(3,sl Ad needs),(9,.ref 9 0),(12,vi (plc r.ver)),(29,sl Ak x),(30,vi (x.map Ak).length),(31,vi p.1.1)],[(9,.ro (Ak r))],Af⟩) (Xi (fun p=>x.length-p.1.1) (Yi (Xi ⟨(0,k),Ao _,hP⟩ ?_) ?_))))))))
 .exact⟨Z9,Z1,Fh,Tv⟩
 intro⟨⟨i,k⟩,i1,i2⟩;have i1:i<=x.length:=i1;have i2:P=DP d ⟨before,needs,r⟩ (x.drop i) k:=i2;refine Yi ?_ ?_
 .intro h;have h:(i:Int)<(x.map Ak).length:=h;have h:i<x.length:=by simp_all
  have hg:x[i]?=some x[i]:=Ge h;refine Xi (Ak x[i]) (Yi (Yi aa0 (by simp_all)) (Yi rfl ?_));refine Yi (Nz rfl) (yN (cU [(0,.cptr (BF x ifs roots d)),(1,sl A1 k),(2,sl Ae before),(3,sl Ad needs),(9,.ref 9 0),(12,vi (plc r.ver)),(15,.ref 15 0),(29,sl Ak x),(30,vi (x.map Ak).length),(31,vi i)] [(9,.ro (Ak r)),(15,.cells (Ak x[i]))] Z10 Z2 (yN (Xi .pure (Xi _ (Yi (tK x[i].ver) (yN (cU [(0,.cptr (BF x ifs roots d)),(1,sl A1 k),(2,sl Ae before),(3,sl Ad needs),(9,.ref 9 0),(12,vi (plc r.ver)),(15,.ref 15 0),(16,.ref 16 0),(29,sl Ak x),(30,vi (x.map Ak).length),(31,vi i)] [(9,.ro (Ak r)),(15,.cells (Ak x[i])),(16,.ro [vi (plc x[i].ver)])] Z11 Z3 (Yi ?_ ?_)))))))))
  .intro h1;have h1:x[i].path≠r.path:=h1;have i3:=ML h i2 (.inl (by simp_all));refine cU [(0,.cptr (BF x ifs roots d)),(1,sl A1 k),(2,sl Ae before),(3,sl Ad needs),(9,.ref 9 0),(12,vi (plc r.ver)),(29,sl Ak x),(30,vi (x.map Ak).length),(31,vi i)] [(9,.ro (Ak r))] Z9 Z1 (Yi (by grind [Al]) (Xi ⟨(i+1,k),by omega,i3⟩ ?_));exact⟨by grind,Z9,Z1,Fh,Tv⟩
  intro h1;have h1:¬x[i].path≠r.path:=h1;have h1:x[i].path=r.path:=Bs.1 h1;refine Yi ?_ ?_
  .intro h2;have h2:x[i].yanked=true:=h2;have i3:=ML h i2 (.inl (by simp_all));refine cU [(0,.cptr (BF x ifs roots d)),(1,sl A1 k),(2,sl Ae before),(3,sl Ad needs),(9,.ref 9 0),(12,vi (plc r.ver)),(29,sl Ak x),(30,vi (x.map Ak).length),(31,vi i)] [(9,.ro (Ak r))] Z9 Z1 (Yi (by grind [Al]) (Xi ⟨(i+1,k),by omega,i3⟩ ?_));exact⟨by grind,Z9,Z1,Fh,Tv⟩
  intro h2;have h2:x[i].yanked=false:=h2;refine Yi ?_ ?_
  .intro h3;have h3:plc r.ver<=plc x[i].ver:=h3;have i3:=ML h i2 (.inl (by simp_all));refine cU [(0,.cptr (BF x ifs roots d)),(1,sl A1 k),(2,sl Ae before),(3,sl Ad needs),(9,.ref 9 0),(12,vi (plc r.ver)),(29,sl Ak x),(30,vi (x.map Ak).length),(31,vi i)] [(9,.ro (Ak r))] Z9 Z1 (Yi (by grind [Al]) (Xi ⟨(i+1,k),by omega,i3⟩ ?_));exact⟨by grind,Z9,Z1,Fh,Tv⟩
  intro h3;have h3:¬plc r.ver<=plc x[i].ver:=h3;have h3:plc x[i].ver<plc r.ver:=by omega
  refine cU [(0,.cptr (BF x ifs roots d)),(1,sl A1 k),(2,sl Ae before),(3,sl Ad needs),(9,.ref 9 0),(12,vi (plc r.ver)),(15,.ref 15 0),(16,.ref 16 0),(29,sl Ak x),(30,vi (x.map Ak).length),(31,vi i)] [(9,.ro (Ak r)),(15,.cells (Ak x[i])),(16,.ro [vi (plc x[i].ver)])] Z11 Z3 ?_
  have zz:∀q∈needs,PC 150 ([.agg (Ad q)]++[.cptr (Ak r),.cptr [vi (plc x[i].ver)]]) (vb (decide (q.path=r.path)&&!has q.set (plc x[i].ver))):=fun q hh=>c90 q r (plc x[i].ver) (hq q hh);have OD:=yI (fF:=150) (caps:=[.cptr (Ak r),.cptr [vi (plc x[i].ver)]]) (fun c hc=>by
   rcases AN.1 hc with rfl | hc
   .intro h;rfl
   .obtain rfl:=A9.1 hc;intro h;rfl) needs (fun q=>decide (q.path=r.path)&&!has q.set (plc x[i].ver)) zz hn
  refine AG (Bt (needs.any fun q=>decide (q.path=r.path)&&!has q.set (plc x[i].ver))) (fun h4=>?_) (fun h4=>?_)
  .rw[h4]at OD;refine Xi .pure (Xi _ (Yi (OD) ?_));have i3:=ML h i2 (.inr h4);refine cU [(0,.cptr (BF x ifs roots d)),(1,sl A1 k),(2,sl Ae before),(3,sl Ad needs),(9,.ref 9 0),(12,vi (plc r.ver)),(29,sl Ak x),(30,vi (x.map Ak).length),(31,vi i)] [(9,.ro (Ak r))] Z9 Z1 (Yi (by grind [Al]) (Xi ⟨(i+1,k),by omega,i3⟩ ?_));exact⟨by grind,Z9,Z1,Fh,Tv⟩
  rw[h4]at OD;refine Xi .pure (Xi _ (Yi (OD) ?_));have i4:P=W5 d ⟨before,needs,r⟩ x[i] (x.drop (i+1)) k:=oY h i2 h1 h2 h3 h4;refine cU [(0,.cptr (BF x ifs roots d)),(1,sl A1 k),(2,sl Ae before),(3,sl Ad needs),(9,.ref 9 0),(12,vi (plc r.ver)),(15,.ref 15 0),(16,.ref 16 0),(29,sl Ak x),(30,vi (x.map Ak).length),(31,vi i)] [(9,.ro (Ak r)),(15,.cells (Ak x[i])),(16,.ro [vi (plc x[i].ver)])] Z11 Z3 (Yi ?_ ?_)
  .intro hh;have hh:((k.map A1).length:Int)=0:=hh;refine Yi aa3 ?_;have e:P=([],false):=by rw[i4,show k=[]from Az (by simp_all)];rfl
   exact Kw.trans (.of_eq (show ZG ([],false)=ZG P by rw[e]))
  intro hk;have hk:¬((k.map A1).length:Int)=0:=hk;refine Am (show ∃y k',k=y::k' by cases k<;>simp_all) (fun y hy=>?_)
  refine Am hy (fun k' hy=>?_);have nR:(k.map A1)[(0:Int).toNat]?=some (A1 y):=by simp_all
  have i5:P=W5 d ⟨before,needs,r⟩ x[i] (x.drop (i+1)) (y::k'):=by simp_all
  refine Xi (A1 y) (Yi (Yi aa2 nR) (Yi rfl (Yi ?_ ?_)))
  .intro hh;have hh:y.path≠r.path:=hh;refine Yi aa3 ?_;have e:P=([],false):=by rw[i5];show(if _ then _ else _)=_;simp_all
   exact Kw.trans (.of_eq (show ZG ([],false)=ZG P by rw[e]))
  intro h5;have h5:¬y.path≠r.path:=h5;have h5:y.path=r.path:=Bs.1 h5;refine Xi (A1 y) (Yi (Yi aa2 nR) (Yi rfl (Yi ?_ ?_)))
  .intro hh;have hh:y.place≠plc x[i].ver:=hh;refine Yi aa3 ?_;have e:P=([],false):=by rw[i5];show(if _ then _ else _)=_;simp_all
   exact Kw.trans (.of_eq (show ZG ([],false)=ZG P by rw[e]))
  intro h6;have h6:¬y.place≠plc x[i].ver:=h6;have h6:y.place=plc x[i].ver:=Bs.1 h6;have i6:P=match Di d y.inf with | none=>([],false) | some t=>if CN t (before++[Cn x[i]])then DP d ⟨before,needs,r⟩ (x.drop (i+1)) k' else([],false):=by
   rw[i5];show(if _ then _ else _)=_;simp_all
  refine Xi (A1 y) (Yi (Yi aa2 nR) (Yi rfl (Yi ?_ ?_)))
  .intro hh;have hh:y.inf<0:=hh;refine Yi aa3 ?_;have e:P=([],false):=by grind [Di]
   exact Kw.trans (.of_eq (show ZG ([],false)=ZG P by rw[e]))
  intro h7;have h7:¬y.inf<0:=h7;refine Xi (A1 y) (Yi (Yi aa2 nR) (Yi rfl (Yi ?_ ?_)))
  .intro hh;have hh:((d.map Ap).length:Int)<=y.inf:=hh;refine Yi aa3 ?_;have e:P=([],false):=by grind [Di]
   exact Kw.trans (.of_eq (show ZG ([],false)=ZG P by rw[e]))
  intro h8;have h8:¬((d.map Ap).length:Int)<=y.inf:=h8;rw[Lm]at h8;refine Yi aa3 (Am (show ∃j:Nat,y.inf=j from⟨y.inf.toNat,by omega⟩) (fun j hj=>?_));have eX:j<d.length:=by omega
  have wP:d[j]?=some d[j]:=Ge eX;have Aa2:Di d y.inf=some d[j]:=by grind [Di]
  rw[Aa2]at i6;have i6:P=if CN d[j] (before++[Cn x[i]])then DP d ⟨before,needs,r⟩ (x.drop (i+1)) k' else([],false):=i6
  refine cU [(0,.cptr (BF x ifs roots d)),(1,sl A1 k),(2,sl Ae before),(3,sl Ad needs),(9,.ref 9 0),(12,vi (plc r.ver)),(15,.ref 15 0),(29,sl Ak x),(30,vi (x.map Ak).length),(31,vi i)] [(9,.ro (Ak r)),(15,.cells (Ak x[i]))] Z10 Z2 (Xi 4 (Xi (before.map Ae) (Yi rfl (Yi (yy before uA) (yN ?_)))));have CM:AZ 4 [[vs x[i].path,vi x[i].ver.a,vi x[i].ver.b,vi x[i].ver.c]]/\(before.map Ae).length=(before.map Ae).length/\((before.map Ae).length+[[vs x[i].path,vi x[i].ver.a,vi x[i].ver.b,vi x[i].ver.c]].length)*40<=140737488355328/\(before.map Ae).length+[[vs x[i].path,vi x[i].ver.a,vi x[i].ver.b,vi x[i].ver.c]].length<=9223372036854775807:=
   ⟨⟨rfl,trivial⟩,rfl,by grind,by grind⟩
  refine Yi CM (Yi aa3 (cU [(0,.cptr (BF x ifs roots d)),(1,sl A1 k),(2,sl Ae before),(3,sl Ad needs),(9,.ref 9 0),(12,vi (plc r.ver)),(18,.slice (.id 19800 4) (before.map Ae++[[vs x[i].path,vi x[i].ver.a,vi x[i].ver.b,vi x[i].ver.c]])),(29,sl Ak x),(30,vi (x.map Ak).length),(31,vi i)] [(9,.ro (Ak r)),(19800,.tok 4 ((before.map Ae).length+[[vs x[i].path,vi x[i].ver.a,vi x[i].ver.b,vi x[i].ver.c]].length))] Z10 Z2 ?_))
  have aH:PC 152 [sl Ac d[j],.slice .none (before.map Ae++[[vs x[i].path,vi x[i].ver.a,vi x[i].ver.b,vi x[i].ver.c]])] (vb (CN d[j] (before++[Cn x[i]]))):=by
   have:=c91 d[j] (before++[Cn x[i]]) (ht _ (Ah eX)) (by grind)
   grind [Cn]
  have wQ:(d.map Ap)[y.inf.toNat]?=some (Ap d[j]):=by simp_all
  refine Xi (A1 y) (Yi (Yi aa2 nR) (Yi rfl (Xi (Ap d[j]) (Yi (Yi aa0 wQ) (Yi rfl (AG (Bt (CN d[j] (before++[Cn x[i]]))) (fun h9=>?_) (fun h9=>?_)))))))
  .rw[h9]at aH;refine Xi _ (Yi (aH) (Yi aa3 ?_));rw[AE h9]at i6;have pF:1<=(k.map A1).length:=by omega
   refine cU [(0,.cptr (BF x ifs roots d)),(1,sl A1 k),(2,sl Ae before),(3,sl Ad needs),(9,.ref 9 0),(12,vi (plc r.ver)),(29,sl Ak x),(30,vi (x.map Ak).length),(31,vi i)] [(9,.ro (Ak r))] Z9 Z1 ?_;refine Yi (by grind) (Yi (fun c hc=>by
    obtain⟨z,_,rfl⟩:=Ay.1 hc;rfl) ?_)
   have ek:AV.slice .none (((k.map A1).take ((k.map A1).length:Int).toNat).drop (1:Int).toNat)=sl A1 k':=by grind [gw]
   refine cU [(0,.cptr (BF x ifs roots d)),(1,sl A1 k'),(2,sl Ae before),(3,sl Ad needs),(9,.ref 9 0),(12,vi (plc r.ver)),(29,sl Ak x),(30,vi (x.map Ak).length),(31,vi i)] [(9,.ro (Ak r))] ⟨Zr,⟨ek,rfl⟩,Zr,Zr,Zr,Zr,Zr,Zr,Zr,Tv⟩ Z1 (Yi (Ii i aa0) (Xi ⟨(i+1,k'),by omega,i6⟩ ?_));exact⟨by grind,Z9,Z1,Fh,Tv⟩
  .rw[h9]at aH;refine Xi _ (Yi (aH) (Yi aa3 ?_));have e:P=([],false):=by simp_all
   exact Kw.trans (.of_eq (show ZG ([],false)=ZG P by rw[e]))
 .intro h;have h:¬(i:Int)<(x.map Ak).length:=h;have h:¬i<x.length:=by simp_all
  have e:P=(k,true):=by rw[i2,Hj aa0];rfl
  exact .of_eq (show ZG (k,true)=ZG P by rw[e])
abbrev Be(p:ByteArray):List AV:=[vs p]
abbrev dH:List (Nat×HO):=[(1000,.cells [.slice (.id 1001 1) (l.map Be)]),(1001,.tok 1 (l.map Be).length)]
theorem c43(before:List Sl)(needs:List Rq)(r:Rl)(hl:l.length<=100000) :
  Cq Tryz.prog 89 [sl Ae before,sl Ad needs,.agg (Ak r),.ref 1000 0] (Ar (dH l) Af) fun v h'=>v=.tup []/\h'=Ar (dH (l++[r.path])) Af:=by
 refine BO (Mt Cu) [(1000,1000),(1001,1001)] rfl B8 hm rfl Tryz.func89 aa3 rfl (Nz rfl) aa3 rfl ?_;have CM:AZ 1 [[vs r.path]]/\(l.map Be).length=(l.map Be).length/\((l.map Be).length+[[vs r.path]].length)*16<=140737488355328/\(l.map Be).length+[[vs r.path]].length<=9223372036854775807:=
  ⟨⟨rfl,trivial⟩,rfl,by grind,by grind⟩
 refine Yi CM (yN (Xi _ (Yi (.refl _) (Yi rfl ?_))));have e:(l++[r.path]).map Be=l.map Be++[[vs r.path]]:=by simp_all
 have e2:Ar (dH (l++[r.path])) Af=Ar [(1000,.cells [.slice (.id 1001 1) (l.map Be++[[vs r.path]])]),(1001,.tok 1 ((l.map Be).length+[[vs r.path]].length))] Af:=by
  grind
 exact Eq.trans rfl e2.symm
abbrev sH(a:Bool×List Sk):List (Nat×HO):=[(1000,.cells [sl A1 a.2]),(1001,.cells [vb a.1])]
theorem c46(ifs:AV)(roots:List Rq)(d:List (List Tm))(a:Bool×List Sk)(before:List Sl)(needs:List Rq)(r:Rl)(hx:x.length<=256)(hd:d.length<=65536)(ht:∀t∈d,TQ t)(hb:before.length<=1000)(hn:BB needs)(hq:∀q∈needs,BB q.set) :
  Cq Tryz.prog 85 [sl Ae before,sl Ad needs,.agg (Ak r),.cptr [.cptr (BF x ifs roots d)],.ref 1000 0,.ref 1001 0] (Ar (sH a) Af) fun v h'=>v=.tup []/\h'=Ar (sH (BT x d a ⟨before,needs,r⟩)) Af:=by
 obtain⟨b,k⟩:=a;have hc:=c47 x ifs roots d k before needs r hx hd ht hb hn hq;obtain⟨p,hp⟩:∃p,p=DP d ⟨before,needs,r⟩ x k:=⟨_,rfl⟩;have es:BT x d (b,k) ⟨before,needs,r⟩=(b&&p.2&&!r.yanked,p.1):=by grind [BT]
 rw[<-hp]at hc;rw[es];obtain⟨k2,ok⟩:=p;have fin:∀z:Bool,z=(b&&ok&&!r.yanked)->Ar (sH (z,k2)) Af=Ar (sH (b&&(k2,ok).2&&!r.yanked,(k2,ok).1)) Af:=fun z hz=>by rw[hz]
 cases ok with
 |false=>
  refine BO (Mt Cu) [(1000,1000),(1001,1001)] rfl B8 hm rfl Tryz.func85 aa3 rfl (Nz rfl) aa3 rfl (yN (Xi .pure (Xi _ (Yi (hc) (Yi ?_ ?_)))))
  .intro h1;refine yN (yN ?_);exact Xi _ (Yi (.refl _) (Yi rfl (fin false (by simp_all))))
  .intro h1;refine yN (yN ?_);exact Xi _ (Yi (.refl _) (Yi rfl (fin false (by simp_all))))
 |true=>
  refine BO (Mt Cu) [(1000,1000),(1001,1001)] rfl B8 hm rfl Tryz.func85 aa3 rfl (Nz rfl) aa3 rfl (yN (Xi .pure (Xi _ (Yi (hc) (Yi ?_ ?_)))))
  .intro h1;have h1:b=true:=h1;refine Yi ?_ ?_
   .intro h2;have h2:r.yanked=true:=h2;refine yN (yN ?_);exact Xi _ (Yi (.refl _) (Yi rfl (fin false (by simp_all))))
   .intro h2;have h2:r.yanked=false:=h2;refine yN (yN ?_);exact Xi _ (Yi (.refl _) (Yi rfl (fin true (by simp_all))))
  .intro h1;have h1:b=false:=h1;refine yN (yN ?_);exact Xi _ (Yi (.refl _) (Yi rfl (fin false (by simp_all))))
end Go.Eng
