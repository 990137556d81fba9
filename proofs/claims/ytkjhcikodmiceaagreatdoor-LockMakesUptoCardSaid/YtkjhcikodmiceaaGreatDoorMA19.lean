/- Lemmas 19. -/
import Derived.Test.YtkjhcikodmiceaaGreatDoorMA18
namespace Go.Eng
open Go.Proofs Go.Proofs.Tryz
variable {p:CS}{BZ:List (Value×AV)}{i:Nat}(x:List Rl)(ifs:C0)(y:List Rl)(d:List (List Tm))(v:WH)(j n:Nat)(o:Rl)(roots:List Rq)(before:List Sl)(l:List Rq)(s:List Sl)
theorem L0:∀(y:List Rl) (acc:List CS) (r:Rl),AQ (y++[r]) acc=if(AQ y acc).any (fun p=>decide (p=r.path))then AQ y acc else AQ y acc++[r.path]
 | [],acc,r=>rfl
 |s::y,acc,r=>by rw[F3,AQ,AQ,L0 y]
theorem Fa:∀(y:List Rl) (acc:List CS),acc.Nodup->(AQ y acc).Nodup
 | [],_,h=>h
 |s::y,acc,h=>by
  rw[AQ];refine Fa y _ ?_
  grind
abbrev fD(p:CS):C0:=(y.filter fun r=>decide (r.path=p)).map V
abbrev zI(q:CS×Nat):Value×AV:=(.string q.1,.slice (.id (q.2+50) 9) (fD y q.1))
abbrev UH:List (Value×AV):=(AQ y []).zipIdx.map (zI y)
def Mc(l:Nat):HO:=match(AQ y [])[l]? with
 |some q=>.tok 9 (fD y q).length
 |none=>.free
def Xg:HO:=bif Nat.ble 50 j then Mc y (j-50)else .free
theorem Ir(l:Nat):Xg y (l+50)=Mc y l:=by
 grind [Xg,Nat.ble_eq]
theorem wC{j:Nat}(h:j<50):Xg y j=.free:=by
 grind [Xg,Nat.ble_eq]
open Classical in
theorem Jd{k:Value}{a:AV}(h:∀a',(k,a')∉BZ):Fc BZ k a=BZ++[(k,a)]:=by
 grind [Fc]
open Classical in
theorem bT{k:Value}{a a' : AV}(h:(k,a')∈BZ):Fc BZ k a=BZ.map fun p=>if p.1=k then(k,a)else p:=by
 unfold Fc;rw[A1 ⟨a',h⟩]
section
variable {y:List Rl}{r:Rl}{k:Nat}
theorem NU(h:(AQ y [])[k]?=some r.path):AQ (y++[r]) []=AQ y []:=by
 grind [L0]
theorem NT(h:r.path∉AQ y []):AQ (y++[r]) []=AQ y []++[r.path]:=by
 grind [L0]
theorem JV{l:List CS}(hd:l.Nodup){i j:Nat}(h1:l[i]?=some p)(h2:l[j]?=some p):i=j:=by
 grind [List.getElem_inj]
open Classical in
theorem rK(h:(AQ y [])[k]?=some r.path):Fc (UH y) (.string r.path) (.slice (.id (k+50) 9) (fD y r.path++[V r]))=UH (y++[r]):=by
 have hd:=Fa y [] KX;have hm:zI y (r.path,k)∈UH y:=Ar.2 ⟨_,Ig.2 h,rfl⟩;rw[bT (a':=.slice (.id (k+50) 9) (fD y r.path)) hm];unfold UH;rw[NU h,BH];refine Cg fun q hq=>?_
 grind [JV]
theorem iA(h:r.path∉AQ y []):fD y r.path=[]:=by
 grind [List.filter_eq_nil_iff,HZ]
theorem np(h:r.path∉AQ y [])(a:AV):(Value.string r.path,a)∉UH y:=by
 grind
theorem rJ(h:r.path∉AQ y []):Fc (UH y) (.string r.path) (.slice (.id ((AQ y []).length+50) 9) [V r])=UH (y++[r]):=by
 grind [Jd,NT,List.map_congr_left,iA]
theorem ns{j:Nat}(h:(AQ y [])[j]?=some p):(Value.string p,AV.slice (.id (j+50) 9) (fD y p))∈UH y/\∀b,(Value.string p,b)∈UH y->b=AV.slice (.id (j+50) 9) (fD y p):=by
 refine⟨Ar.2 ⟨(p,j),Ig.2 h,rfl⟩,fun b hb=>?_⟩
 grind [JV,Fa]
theorem qf{j:Nat}(h:(AQ y [])[j]?=some p):Mc y j=.tok 9 (fD y p).length:=by
 grind [Mc]
theorem tW(h:(AQ y [])[k]?=some r.path)(l:Nat):(bif Nat.beq (l+50) (k+50)then HO.tok 9 ((fD y r.path).length+1)else Mc y l)=Mc (y++[r]) l:=by
 grind [Nat.beq_refl,Mc,NU,Nat.eq_of_beq_eq_true,JV,Fa]
theorem tV(h:r.path∉AQ y [])(l:Nat):(bif Nat.beq (l+50) ((AQ y []).length+50)then HO.tok 9 1 else Mc y l)=Mc (y++[r]) l:=by
 grind [Nat.beq_refl,Mc,NT,iA,Nat.eq_of_beq_eq_true]
end
theorem Rz{h:Nat->HO}:∀{BZ:List (Value×AV)},(∀p∈BZ,UX h p.2=true)->SF h BZ=true
 | [],_=>rfl
 |p::r,hk=>by
  unfold SF;rw[hk p (Ah ..)];exact Rz (fun q hq=>hk q (Aj _ hq))
theorem LO{h:Nat->HO}(hh:∀l,h (l+50)=Mc y l):SF h (UH y)=true:=by
 refine Rz fun p hp=>?_;obtain⟨q,h1,rfl⟩:=Ar.1 hp;show Th h (q.2+50)=true
 grind [Th,qf]
theorem J6{y:List Rl}{h h' : Nat->HO}(hh:∀l,h (l+50)=Mc y l)(j:Nat):Xg y j=.free\/(h j=Xg y j/\bn h' (Xg y j)=true):=by
 by_cases hj:j<50
 .grind [wC]
 .obtain⟨l,rfl⟩:∃l,j=l+50:=⟨j-50,by omega⟩
  right
  rw[Ir];refine⟨hh l,?_⟩;unfold Mc;cases (AQ y [])[l]?<;>rfl
theorem ti{x:List Rl}(hx:Aw x=0)(hi:i<x.length):Fc ((x.take i).map Pa) (Xr (Cr x[i])) (.agg (V x[i]))=(x.take (i+1)).map Pa:=by
 rw[Jd]
 .rw[Dv,Ge hi,Bl];rfl
 intro a ha;obtain⟨r,hr,he,_⟩:=Zb ha;obtain⟨j,hj,e2⟩:=CG.1 hr;rw[BX]at hj;rw[List.getElem_take]at e2;have hp:=(Bp hx).2
 grind [List.pairwise_iff_getElem,Pc]
abbrev Abf:Ns:=⟨[],[],[],[],[8,9],[9],[40],[],[],[],[8,9,10,11]⟩
abbrev zT:List AV:=[.v (.map none),.v (.map none)]
theorem re(ww:PC 47 [GM x ifs] (G (Aw x)))(h0:Aw x≠0):lR x ifs:=by
 have ht:xM x=.tup [.agg [.cmap Px [],.cmap Ca []],G (Aw x)]:=aa0
 unfold lR;rw[ht];refine Ps Abf func51 rfl C4 (Z 0 (Z 0 (yN (Z 0 (yN (C1 (U (ww) (Z 0 (J ?_ ?_)))))))))
 .intro _;refine Z 0 (yN (yN (yN ?_)));exact .refl _
 .intro h;exact absurd h (fun hc=>hc h0)
theorem HY:∀(y:List Rl) (acc:List CS),(AQ y acc).length<=acc.length+y.length
 | [],acc=>by simp[AQ]
 |r::y,acc=>by
  rw[AQ];refine Bd (HY y _) ?_
  grind
section
attribute [local irreducible] IT
theorem wb(ww:PC 47 [GM x ifs] (G (Aw x)))(h0:Aw x=0)(CN:x.length<=256):lR x ifs:=by
 have ht:xM x=.tup [.agg [.cmap Px (x.map Pa),.cmap Ca ((AQ x []).map (ky x))],G 0]:=aa0
 unfold lR;rw[ht];rw[h0]at ww;refine Ps Abf func51 rfl C4 (Z 0 (Z 0 (yN (Z 0 (yN (C1 (U (ww) (Z 0 (J ?_ ?_)))))))))
 .intro hc;exact absurd (show(0:Int)≠0 from hc) aa3
 intro _;refine Z 0 (Z {i:Nat // i<=x.length} (Z (fun i=>⟨[(2,.ref 2 0),(4,.ref 4 0),(18,sl V x),(19,G (x.map V).length),(20,G i.1)],[(2,.cells zT),(4,.cells [.mref 8,.mref 9]),(8,.map Px ((x.take i.1).map Pa)),(9,.mapU Ca (UH (x.take i.1)))],Xg (x.take i.1)⟩) (Z (fun i=>x.length-i.1) (J (Z ⟨0,Ak _⟩ ?_) ?_))))
 .refine⟨Z5,Z4,fun j=>.inl ?_,W⟩;show Xg [] j=.free;unfold Xg;cases Nat.ble 50 j<;>rfl
 intro⟨i,i1⟩;refine Z 0 (J ?_ ?_)
 .intro h;have h:i<x.length:=aa0
  have hg:x[i]?=some x[i]:=Ge h;have Qr:x.take (i+1)=x.take i++[x[i]]:=aa0
  refine Z 0 (Z (V x[i]) (J (J Wk aa0) (J rfl ?_)));refine J C4 (yN (Z ⟨[(2,.ref 2 0),(4,.ref 4 0),(7,.ref 7 0),(18,sl V x),(19,G (x.map V).length),(20,G i)],[(2,.cells zT),(4,.cells [.mref 8,.mref 9]),(7,.cells (V x[i])),(8,.map Px ((x.take i).map Pa)),(9,.mapU Ca (UH (x.take i)))],Xg (x.take i)⟩ (J ?_ ?_)))
  .exact⟨Z6,⟨X,X,X,X,⟨rfl,LO _ (Ir _)⟩,W⟩,J6 (Ir _),W⟩
  refine Z 0 (yN (U (vF x[i]) (yN (J aa4 ?_))));have e8:Fc ((x.take i).map Pa) (Xr (Cr x[i])) (.agg (V x[i]))=(x.take (i+1)).map Pa:=ti h0 h;refine Z ⟨[(2,.ref 2 0),(4,.ref 4 0),(7,.ref 7 0),(18,sl V x),(19,G (x.map V).length),(20,G i)],[(2,.cells zT),(4,.cells [.mref 8,.mref 9]),(7,.cells (V x[i])),(8,.map Px ((x.take (i+1)).map Pa)),(9,.mapU Ca (UH (x.take i)))],Xg (x.take i)⟩ (J ?_ ?_)
  .exact⟨Z6,⟨X,X,X,⟨Aa (HO.map Px) e8,rfl⟩,⟨rfl,LO _ (Ir _)⟩,W⟩,J6 (Ir _),W⟩
  have hL:((x.take i).filter (fun r=>decide (r.path=x[i].path))).length<=256:=by
   grind
  have hP:∀l,Xg (x.take i) (l+50)=Mc (x.take i) l:=Ir _;refine Ay (Classical.em (x[i].path∈AQ (x.take i) [])) (fun hp=>?_) (fun hp=>?_)
  .refine Al (Es.1 hp) (fun k hk=>?_);have hu:=ns hk;refine Z 0 ?_;refine Or.inl (Z (.slice (.id (k+50) 9) (fD (x.take i) x[i].path)) (J hu ?_));refine yN ?_;have hr:Xg (x.take i) (k+50)=.tok 9 (fD (x.take i) x[i].path).length:=by rw[hP,qf hk]
   have hl:(fD (x.take i) x[i].path).length<=256:=aa2
   refine So (e:=70) (m:=8) (es2:=[V x[i]]) rfl rfl rfl (fun _ h=>h) hr ⟨rfl,trivial⟩ (by show(_+1)*120<=_;omega) aa2 ?_;have Aav:k<256:=by
    have:=(Bg.1 hk).1
    have:=HY (x.take i) []
    grind
   have wR:=hk;refine J (JK ⟨AO _,AO _,AO _,AO _,AO _,AO _,AO _,AO _,AO _,AO _,En (show 39<10000000 by decide),En Wk,En (show 9<10000000 by decide),trivial⟩ aa4) ?_;have e9:Fc (UH (x.take i)) (.string x[i].path) (.slice (.id (k+50) 9) (fD (x.take i) x[i].path++[V x[i]]))=UH (x.take (i+1)):=by rw[Qr];exact rK wR
   have hG:∀l,(bif Nat.beq (l+50) (k+50)then HO.tok 9 ((fD (x.take i) x[i].path).length+1)else Mc (x.take i) l)=Mc (x.take (i+1)) l:=by rw[Qr];exact tW wR
   refine Z ⟨[(2,.ref 2 0),(4,.ref 4 0),(18,sl V x),(19,G (x.map V).length),(20,G i)],[(2,.cells zT),(4,.cells [.mref 8,.mref 9]),(8,.map Px ((x.take (i+1)).map Pa)),(9,.mapU Ca (UH (x.take (i+1))))],Xg (x.take (i+1))⟩ (J ?_ ?_)
   .refine⟨Z5,⟨X,X,X,⟨Aa (HO.mapU Ca) e9,LO _ (Ir _)⟩,W⟩,J6 (fun l=>?_),W⟩;show(bif Nat.beq (l+50) (k+50)then HO.tok 9 ((fD (x.take i) x[i].path).length+1)else Xg (x.take i) (l+50))=_
    grind
   refine Z 0 (J (Ii i Wk) (Z ⟨i+1,by omega⟩ ?_));exact⟨by grind,Z5,⟨X,X,X,⟨rfl,LO _ (Ir _)⟩,W⟩,J6 (Ir _),W⟩
  .have wR:=hp;have UT:(AQ (x.take i) []).length<=256:=by
    have:=HY (x.take i) []
    grind
   have hn:=np hp;refine Z ((AQ (x.take i) []).length+50) ?_;refine Or.inr (J hn ?_);refine yN ?_;have hr:Xg (x.take i) ((AQ (x.take i) []).length+50)=.free:=by
    rw[hP];unfold Mc;simp_all
   refine Sn (e:=70) (m:=8) (es2:=[V x[i]]) rfl rfl rfl (fun _ h=>h) hr rfl ⟨rfl,trivial⟩ (by show 1*120<=_;omega) aa0 ?_;refine J (JK ⟨AO _,AO _,AO _,AO _,AO _,AO _,AO _,AO _,AO _,AO _,En (show 39<10000000 by decide),En (by show _+50<10000000;omega),En (show 9<10000000 by decide),trivial⟩ aa4) ?_;have e9:Fc (UH (x.take i)) (.string x[i].path) (.slice (.id ((AQ (x.take i) []).length+50) 9) [V x[i]])=UH (x.take (i+1)):=by rw[Qr];exact rJ wR
   have hG:∀l,(bif Nat.beq (l+50) ((AQ (x.take i) []).length+50)then HO.tok 9 1 else Mc (x.take i) l)=Mc (x.take (i+1)) l:=by rw[Qr];exact tV wR
   refine Z ⟨[(2,.ref 2 0),(4,.ref 4 0),(18,sl V x),(19,G (x.map V).length),(20,G i)],[(2,.cells zT),(4,.cells [.mref 8,.mref 9]),(8,.map Px ((x.take (i+1)).map Pa)),(9,.mapU Ca (UH (x.take (i+1))))],Xg (x.take (i+1))⟩ (J ?_ ?_)
   .refine⟨Z5,⟨X,X,X,⟨Aa (HO.mapU Ca) e9,LO _ (Ir _)⟩,W⟩,J6 (fun l=>?_),W⟩;show(bif Nat.beq (l+50) ((AQ (x.take i) []).length+50)then HO.tok 9 1 else Xg (x.take i) (l+50))=_;simp_all
   refine Z 0 (J (Ii i Wk) (Z ⟨i+1,by omega⟩ ?_));exact⟨by grind,Z5,⟨X,X,X,⟨rfl,LO _ (Ir _)⟩,W⟩,J6 (Ir _),W⟩
 .intro h;have h:¬i<x.length:=aa0
  have et:x.take i=x:=A3 Wk;refine Z ⟨[(2,.ref 2 0),(4,.ref 4 0)],[(2,.cells zT),(4,.cells [.mref 8,.mref 9]),(8,.map Px ((x.take i).map Pa)),(9,.mapU Ca (UH (x.take i)))],Xg (x.take i)⟩ (J ?_ ?_)
  .exact⟨Z2,⟨X,X,X,⟨rfl,LO _ (Ir _)⟩,W⟩,J6 (Ir _),W⟩
  refine Z 0 (yN (yN (yN ?_)));have es:∀h:Nat->HO,Tl h (UH (x.take i))=(AQ x []).map (ky x):=fun h=>by
   rw[et];unfold Tl UH;rw[BH];refine C3 fun j=>?_;rw[Ct,Ct,List.getElem?_zipIdx];cases (AQ x [])[j]?<;>rfl
  have e1:(x.take i).map Pa=x.map Pa:=by rw[et]
  exact .of_eq (show AV.tup [.agg [.cmap Px ((x.take i).map Pa),.cmap Ca (Tl _ (UH (x.take i)))],G 0]=_ by rw[e1,es])
end
theorem c84(hx:∀r∈x,Eo r):lR x ifs:=by
 by_cases h0:Aw x=0
 .exact wb x ifs (zn Wm x ifs hx) h0 (Fi h0).1
 .exact re x ifs (zn Wm x ifs hx) h0
abbrev plT:Ns:=⟨[],[(2,n)],[],[],[],[],[5],[],[],[],[2,3]⟩
theorem zt(hl:BF l):A6 prog 57 [sl Ac l] (Ai [] Af) fun r h'=>r=.slice (.id 2000 2) (l.map Ac)/\h'=Ai [(2000,.tok 2 (l.map Ac).length)] Af:=by
 refine Bi (IU (plT 2)) [(2,2000)] rfl BA hm rfl func57 aa4 rfl C4 aa4 rfl ?_;have De:A7 2 (l.map Ac)/\([]:C0).length=0/\(([]:C0).length+(l.map Ac).length)*40<=140737488355328/\([]:C0).length+(l.map Ac).length<=9223372036854775807:=by
  grind [B8]
 have e2:HO.tok 2 (([]:C0).length+(l.map Ac).length)=.tok 2 (l.map Ac).length:=aa0
 have e3:AV.slice (.id 2000 2) ([]++l.map Ac)=.slice (.id 2000 2) (l.map Ac):=rfl;have full:∀st:St,(∃s:LS,St.le (IU (plT 2)) st s/\True)->True:=fun _ _=>trivial;refine Z 0 (Z 0 (J ?_ ?_))
 .intro _;refine cU [(0,sl Ac l)] [] Z1 W (Z 2 (J De ?_));exact U (.refl _) (J e3 (Aa (fun o=>Ai [(2000,o)] Af) e2))
 .intro h;have h:l.map Ac=[]:=h;refine J ?_ ?_
  .refine Z ⟨[],[],Af⟩ (J ⟨trivial,trivial,fun _=>.inl rfl,A2 aa4⟩ ?_);refine Z 0 ?_;exact U (.refl _) (J (show AV.slice (.id 2000 2) []=_ by rw[h]) (show Ai [(2000,HO.tok 2 0)] Af=_ by simp_all))
  .refine cU [(0,sl Ac l)] [] Z1 W (Z 2 (J De ?_));exact U (.refl _) (J e3 (Aa (fun o=>Ai [(2000,o)] Af) e2))
theorem v8(l:List Sl)(hl:BF l):A6 prog 76 [sl Ae l] (Ai [] Af) fun r h'=>r=.slice (.id 2000 4) (l.map Ae)/\h'=Ai [(2000,.tok 4 (l.map Ae).length)] Af:=by
 refine Bi (IU (plT 4)) [(2,2000)] rfl BA hm rfl func76 aa4 rfl C4 aa4 rfl ?_;have De:A7 4 (l.map Ae)/\([]:C0).length=0/\(([]:C0).length+(l.map Ae).length)*40<=140737488355328/\([]:C0).length+(l.map Ae).length<=9223372036854775807:=by
  grind [B8]
 have e2:HO.tok 4 (([]:C0).length+(l.map Ae).length)=.tok 4 (l.map Ae).length:=aa0
 have e3:AV.slice (.id 2000 4) ([]++l.map Ae)=.slice (.id 2000 4) (l.map Ae):=rfl;refine Z 0 (Z 0 (J ?_ ?_))
 .intro _;refine cU [(0,sl Ae l)] [] Z1 W (Z 2 (J De ?_));exact U (.refl _) (J e3 (Aa (fun o=>Ai [(2000,o)] Af) e2))
 .intro h;refine J ?_ ?_
  .refine Z ⟨[],[],Af⟩ (J ⟨trivial,trivial,fun _=>.inl rfl,A2 aa4⟩ ?_);refine Z 0 ?_;exact U (.refl _) (J (show AV.slice (.id 2000 4) []=_ by rw[h]) (show Ai [(2000,HO.tok 4 0)] Af=_ by simp_all))
  .refine cU [(0,sl Ae l)] [] Z1 W (Z 2 (J De ?_));exact U (.refl _) (J e3 (Aa (fun o=>Ai [(2000,o)] Af) e2))
abbrev AfW:Ns:=⟨[9,16],[],[],[],[],[],[],[],[(98,3)],[],[5,6,7,8,10,11,13,14]⟩
abbrev da(p:List Sk×Bool):AV:=.tup [sl N p.1,I p.2]
def Zy(x:List Rl)(k:List Sk):List Sk×Bool:=match k with
  | []=>([],false)
  |y::k'=>if !decide (y.path=v.rel.path)||!decide (y.place=plc o.ver)then([],false)else match DU d y.inf with
   |none=>([],false)
   |some t=>if Bq t (v.before++[Cr o])then DM d v x k' else([],false)
theorem RV(x:List Rl)(k:List Sk):DM d v (o::x) k =
  if !decide (o.path=v.rel.path)||o.yanked||!decide (plc o.ver<plc v.rel.ver)then DM d v x k else
  if v.needs.any (fun q=>decide (q.path=v.rel.path)&&!has q.set (plc o.ver))then DM d v x k else Zy d v o x k:=by
 cases k<;>rfl
theorem NY{d:List (List Tm)}{v:WH}{x:List Rl}(h:i<x.length){k:List Sk}{p:List Sk×Bool}(e:p=DM d v (x.drop i) k)(hs:(!decide (x[i].path=v.rel.path)||x[i].yanked||!decide (plc x[i].ver<plc v.rel.ver))=true\/v.needs.any (fun q=>decide (q.path=v.rel.path)&&!has q.set (plc x[i].ver))=true):p=DM d v (x.drop (i+1)) k:=by
 grind [List.drop_eq_getElem_cons,RV]
theorem tJ{d:List (List Tm)}{v:WH}{x:List Rl}(h:i<x.length){k:List Sk}{p:List Sk×Bool}(e:p=DM d v (x.drop i) k)(h1:x[i].path=v.rel.path)(h2:x[i].yanked=false)(h3:plc x[i].ver<plc v.rel.ver)(h4:v.needs.any (fun q=>decide (q.path=v.rel.path)&&!has q.set (plc x[i].ver))=false):p=Zy d v x[i] (x.drop (i+1)) k:=by
 grind [List.drop_eq_getElem_cons,RV]
theorem Lv:CD (.tup [BY,I false]) (da ([],false)):=CD.tup ⟨.nil,.refl _,trivial⟩
theorem lC(k:List Sk):(((k.map N).take ((k.map N).length:Int).toNat).drop (1:Int).toNat)=(k.drop 1).map N:=by
 grind [List.take_length,List.map_drop]
theorem c47(ifs:AV)(roots:List Rq)(d:List (List Tm))(k:List Sk)(before:List Sl)(needs:List Rq)(r:Rl)(hx:x.length<=256)(_hd:d.length<=65536)(ht:∀t∈d,Rb t)(hb:before.length<=1000)(hn:BF needs)(hq:∀q∈needs,BF q.set) :
  PC 110 [.cptr (Cz x ifs roots d),sl N k,sl Ae before,sl Ac needs,.agg (V r)] (da (DM d ⟨before,needs,r⟩ x k)):=by
 have hbf:BF before:=Wk
 obtain⟨P,hP⟩:∃P,P=DM d ⟨before,needs,r⟩ x k:=⟨_,rfl⟩;rw[<-hP];refine Ps AfW func110 rfl C4 (yN (C1 (U (wa r.ver) (Z {p:Nat×List Sk // p.1<=x.length/\P=DM d ⟨before,needs,r⟩ (x.drop p.1) p.2} (Z (fun p=>⟨[(0,.cptr (Cz x ifs roots d)),(1,sl N p.1.2),(2,sl Ae before),(3,sl Ac needs),(9,.ref 9 0),(12,G (plc r.ver)),(29,sl V x),(30,G (x.map V).length),(31,G p.1.1)],[(9,.ro (V r))],Af⟩) (Z (fun p=>x.length-p.1.1) (J (Z ⟨(0,k),Ak _,hP⟩ ?_) ?_)))))))
 .exact⟨Z9,Z1,Fh,W⟩
 intro⟨⟨i,k⟩,i1,i2⟩;refine J ?_ ?_
 .intro h;have h:i<x.length:=aa0
  have hg:x[i]?=some x[i]:=Ge h;refine Z (V x[i]) (J (J Wk aa0) (J rfl ?_));refine J C4 (yN (cU [(0,.cptr (Cz x ifs roots d)),(1,sl N k),(2,sl Ae before),(3,sl Ac needs),(9,.ref 9 0),(12,G (plc r.ver)),(15,.ref 15 0),(29,sl V x),(30,G (x.map V).length),(31,G i)] [(9,.ro (V r)),(15,.cells (V x[i]))] Z10 Z2 (yN (C1 (U (wa x[i].ver) (yN (cU [(0,.cptr (Cz x ifs roots d)),(1,sl N k),(2,sl Ae before),(3,sl Ac needs),(9,.ref 9 0),(12,G (plc r.ver)),(15,.ref 15 0),(16,.ref 16 0),(29,sl V x),(30,G (x.map V).length),(31,G i)] [(9,.ro (V r)),(15,.cells (V x[i])),(16,.ro [G (plc x[i].ver)])] Z11 Z3 (J ?_ ?_))))))))
  .intro h1;have i3:=NY h i2 (.inl aa0);refine cU [(0,.cptr (Cz x ifs roots d)),(1,sl N k),(2,sl Ae before),(3,sl Ac needs),(9,.ref 9 0),(12,G (plc r.ver)),(29,sl V x),(30,G (x.map V).length),(31,G i)] [(9,.ro (V r))] Z9 Z1 (J (by grind [Au]) (Z ⟨(i+1,k),by omega,i3⟩ ?_));exact⟨by grind,Z9,Z1,Fh,W⟩
  intro h1;have h1:x[i].path=r.path:=BV.1 h1;refine J ?_ ?_
  .intro h2;have i3:=NY h i2 (.inl aa0);refine cU [(0,.cptr (Cz x ifs roots d)),(1,sl N k),(2,sl Ae before),(3,sl Ac needs),(9,.ref 9 0),(12,G (plc r.ver)),(29,sl V x),(30,G (x.map V).length),(31,G i)] [(9,.ro (V r))] Z9 Z1 (J (by grind [Au]) (Z ⟨(i+1,k),by omega,i3⟩ ?_));exact⟨by grind,Z9,Z1,Fh,W⟩
  intro h2;refine J ?_ ?_
  .intro h3;have i3:=NY h i2 (.inl aa0);refine cU [(0,.cptr (Cz x ifs roots d)),(1,sl N k),(2,sl Ae before),(3,sl Ac needs),(9,.ref 9 0),(12,G (plc r.ver)),(29,sl V x),(30,G (x.map V).length),(31,G i)] [(9,.ro (V r))] Z9 Z1 (J (by grind [Au]) (Z ⟨(i+1,k),by omega,i3⟩ ?_));exact⟨by grind,Z9,Z1,Fh,W⟩
  intro h3;have h3:plc x[i].ver<plc r.ver:=Wk
  refine cU [(0,.cptr (Cz x ifs roots d)),(1,sl N k),(2,sl Ae before),(3,sl Ac needs),(9,.ref 9 0),(12,G (plc r.ver)),(15,.ref 15 0),(16,.ref 16 0),(29,sl V x),(30,G (x.map V).length),(31,G i)] [(9,.ro (V r)),(15,.cells (V x[i])),(16,.ro [G (plc x[i].ver)])] Z11 Z3 ?_
  have AeH:∀q∈needs,PC 187 ([.agg (Ac q)]++[.cptr (V r),.cptr [G (plc x[i].ver)]]) (I (decide (q.path=r.path)&&!has q.set (plc x[i].ver))):=fun q hh=>c90 q r (plc x[i].ver) (hq q hh);have LR:=c89 (fF:=187) (caps:=[.cptr (V r),.cptr [G (plc x[i].ver)]]) (fun c hc=>by
   rcases AM.1 hc with rfl | hc
   .intro h;rfl
   .obtain rfl:=AI.1 hc;intro h;rfl) needs (fun q=>decide (q.path=r.path)&&!has q.set (plc x[i].ver)) AeH hn
  refine Ay (Bt (needs.any fun q=>decide (q.path=r.path)&&!has q.set (plc x[i].ver))) (fun h4=>?_) (fun h4=>?_)
  .rw[h4]at LR;refine C1 (U (LR) ?_);have i3:=NY h i2 (.inr h4);refine cU [(0,.cptr (Cz x ifs roots d)),(1,sl N k),(2,sl Ae before),(3,sl Ac needs),(9,.ref 9 0),(12,G (plc r.ver)),(29,sl V x),(30,G (x.map V).length),(31,G i)] [(9,.ro (V r))] Z9 Z1 (J (by grind [Au]) (Z ⟨(i+1,k),by omega,i3⟩ ?_));exact⟨by grind,Z9,Z1,Fh,W⟩
  rw[h4]at LR;refine C1 (U (LR) ?_);have i4:P=Zy d ⟨before,needs,r⟩ x[i] (x.drop (i+1)) k:=tJ h i2 h1 h2 h3 h4;refine cU [(0,.cptr (Cz x ifs roots d)),(1,sl N k),(2,sl Ae before),(3,sl Ac needs),(9,.ref 9 0),(12,G (plc r.ver)),(15,.ref 15 0),(16,.ref 16 0),(29,sl V x),(30,G (x.map V).length),(31,G i)] [(9,.ro (V r)),(15,.cells (V x[i])),(16,.ro [G (plc x[i].ver)])] Z11 Z3 (J ?_ ?_)
  .intro hh;refine J aa4 ?_;have e:P=([],false):=by rw[i4,show k=[]from Az aa0];rfl
   exact Lv.trans (.of_eq (show da ([],false)=da P by rw[e]))
  intro hk;refine Al (show ∃y k',k=y::k' by cases k<;>simp_all) (fun y hy=>?_)
  refine Al hy (fun k' hy=>?_);have r8:(k.map N)[(0:Int).toNat]?=some (N y):=aa0
  have i5:P=Zy d ⟨before,needs,r⟩ x[i] (x.drop (i+1)) (y::k'):=aa0
  refine Z (N y) (J (J aa3 r8) (J rfl (J ?_ ?_)))
  .intro hh;refine J aa4 ?_;have e:P=([],false):=by rw[i5];show(if _ then _ else _)=_;simp_all
   exact Lv.trans (.of_eq (show da ([],false)=da P by rw[e]))
  intro h5;have h5:y.path=r.path:=BV.1 h5;refine Z (N y) (J (J aa3 r8) (J rfl (J ?_ ?_)))
  .intro hh;refine J aa4 ?_;have e:P=([],false):=by rw[i5];show(if _ then _ else _)=_;simp_all
   exact Lv.trans (.of_eq (show da ([],false)=da P by rw[e]))
  intro h6;have h6:y.place=plc x[i].ver:=BV.1 h6;have i6:P=match DU d y.inf with | none=>([],false) | some t=>if Bq t (before++[Cr x[i]])then DM d ⟨before,needs,r⟩ (x.drop (i+1)) k' else([],false):=by
   rw[i5];show(if _ then _ else _)=_;simp_all
  refine Z (N y) (J (J aa3 r8) (J rfl (J ?_ ?_)))
  .intro hh;have hh:y.inf<0:=hh;refine J aa4 ?_;have e:P=([],false):=by grind [DU]
   exact Lv.trans (.of_eq (show da ([],false)=da P by rw[e]))
  intro h7;have h7:¬y.inf<0:=h7;refine Z (N y) (J (J aa3 r8) (J rfl (J ?_ ?_)))
  .intro hh;have hh:((d.map F).length:Int)<=y.inf:=hh;refine J aa4 ?_;have e:P=([],false):=by grind [DU]
   exact Lv.trans (.of_eq (show da ([],false)=da P by rw[e]))
  intro h8;have h8:¬((d.map F).length:Int)<=y.inf:=h8;rw[Lm]at h8;refine J aa4 (Al (show ∃j:Nat,y.inf=j from⟨y.inf.toNat,by omega⟩) (fun j hj=>?_));have hj2:j<d.length:=Wk
  have hdg:d[j]?=some d[j]:=Ge hj2;have Afe:DU d y.inf=some d[j]:=by grind [DU]
  rw[Afe]at i6;have i6:P=if Bq d[j] (before++[Cr x[i]])then DM d ⟨before,needs,r⟩ (x.drop (i+1)) k' else([],false):=i6
  refine cU [(0,.cptr (Cz x ifs roots d)),(1,sl N k),(2,sl Ae before),(3,sl Ac needs),(9,.ref 9 0),(12,G (plc r.ver)),(15,.ref 15 0),(29,sl V x),(30,G (x.map V).length),(31,G i)] [(9,.ro (V r)),(15,.cells (V x[i]))] Z10 Z2 (Z 4 (Z (before.map Ae) (J rfl (J (v8 before hbf) (yN ?_)))));have De:A7 4 [[vs x[i].path,G x[i].ver.a,G x[i].ver.b,G x[i].ver.c]]/\(before.map Ae).length=(before.map Ae).length/\((before.map Ae).length+[[vs x[i].path,G x[i].ver.a,G x[i].ver.b,G x[i].ver.c]].length)*40<=140737488355328/\(before.map Ae).length+[[vs x[i].path,G x[i].ver.a,G x[i].ver.b,G x[i].ver.c]].length<=9223372036854775807:=
   ⟨⟨rfl,trivial⟩,rfl,by grind,by grind⟩
  refine J De (J aa4 (cU [(0,.cptr (Cz x ifs roots d)),(1,sl N k),(2,sl Ae before),(3,sl Ac needs),(9,.ref 9 0),(12,G (plc r.ver)),(18,.slice (.id 19800 4) (before.map Ae++[[vs x[i].path,G x[i].ver.a,G x[i].ver.b,G x[i].ver.c]])),(29,sl V x),(30,G (x.map V).length),(31,G i)] [(9,.ro (V r)),(19800,.tok 4 ((before.map Ae).length+[[vs x[i].path,G x[i].ver.a,G x[i].ver.b,G x[i].ver.c]].length))] Z10 Z2 ?_))
  have eH:PC 188 [sl M d[j],.slice .none (before.map Ae++[[vs x[i].path,G x[i].ver.a,G x[i].ver.b,G x[i].ver.c]])] (I (Bq d[j] (before++[Cr x[i]]))):=by
   have:=c91 d[j] (before++[Cr x[i]]) (ht _ (Ag hj2)) aa2
   grind [Cr]
  have hgd:(d.map F)[y.inf.toNat]?=some (F d[j]):=aa0
  refine Z (N y) (J (J aa3 r8) (J rfl (Z (F d[j]) (J (J Wk hgd) (J rfl (Ay (Bt (Bq d[j] (before++[Cr x[i]]))) (fun h9=>?_) (fun h9=>?_)))))))
  .rw[h9]at eH;refine U (eH) (J aa4 ?_);rw[A1 h9]at i6;have r9:1<=(k.map N).length:=Wk
   refine cU [(0,.cptr (Cz x ifs roots d)),(1,sl N k),(2,sl Ae before),(3,sl Ac needs),(9,.ref 9 0),(12,G (plc r.ver)),(29,sl V x),(30,G (x.map V).length),(31,G i)] [(9,.ro (V r))] Z9 Z1 ?_;refine J aa2 (J (fun c hc=>by
    obtain⟨z,_,rfl⟩:=Ar.1 hc;rfl) ?_)
   have ek:AV.slice .none (((k.map N).take ((k.map N).length:Int).toNat).drop (1:Int).toNat)=sl N k':=by grind [lC]
   refine cU [(0,.cptr (Cz x ifs roots d)),(1,sl N k'),(2,sl Ae before),(3,sl Ac needs),(9,.ref 9 0),(12,G (plc r.ver)),(29,sl V x),(30,G (x.map V).length),(31,G i)] [(9,.ro (V r))] ⟨X,⟨ek,rfl⟩,X,X,X,X,X,X,X,W⟩ Z1 (J (Ii i Wk) (Z ⟨(i+1,k'),by omega,i6⟩ ?_));exact⟨by grind,Z9,Z1,Fh,W⟩
  .rw[h9]at eH;refine U (eH) (J aa4 ?_);have e:P=([],false):=aa0
   exact Lv.trans (.of_eq (show da ([],false)=da P by rw[e]))
 .intro h;have h:¬(i:Int)<(x.map V).length:=h;have h:¬i<x.length:=aa0
  have e:P=(k,true):=by rw[i2,H4 Wk];rfl
  exact .of_eq (show da (k,true)=da P by rw[e])
abbrev sH(a:Bool×List Sk):List (Nat×HO):=[(1000,.cells [sl N a.2]),(1001,.cells [I a.1])]
theorem c46(ifs:AV)(roots:List Rq)(d:List (List Tm))(a:Bool×List Sk)(before:List Sl)(needs:List Rq)(r:Rl)(hx:x.length<=256)(hd:d.length<=65536)(ht:∀t∈d,Rb t)(hb:before.length<=1000)(hn:BF needs)(hq:∀q∈needs,BF q.set) :
  A6 prog 109 [sl Ae before,sl Ac needs,.agg (V r),.cptr [.cptr (Cz x ifs roots d)],.ref 1000 0,.ref 1001 0] (Ai (sH a) Af) fun v h'=>v=.tup []/\h'=Ai (sH (Cf x d a ⟨before,needs,r⟩)) Af:=by
 obtain⟨b,k⟩:=a;have hc:=c47 x ifs roots d k before needs r hx hd ht hb hn hq;obtain⟨p,hp⟩:∃p,p=DM d ⟨before,needs,r⟩ x k:=⟨_,rfl⟩;have es:Cf x d (b,k) ⟨before,needs,r⟩=(b&&p.2&&!r.yanked,p.1):=by grind [Cf]
 rw[<-hp]at hc;rw[es];obtain⟨k2,ok⟩:=p;have fin:∀z:Bool,z=(b&&ok&&!r.yanked)->Ai (sH (z,k2)) Af=Ai (sH (b&&(k2,ok).2&&!r.yanked,(k2,ok).1)) Af:=fun z hz=>by rw[hz]
 cases ok with
 |false=>
  refine Bi (IU Dc) [(1000,1000),(1001,1001)] rfl BA hm rfl func109 aa4 rfl C4 aa4 rfl (yN (C1 (U (hc) (J ?_ ?_))))
  .intro h1;refine yN (yN ?_);exact U (.refl _) (J rfl (fin false aa0))
  .intro h1;refine yN (yN ?_);exact U (.refl _) (J rfl (fin false aa0))
 |true=>
  refine Bi (IU Dc) [(1000,1000),(1001,1001)] rfl BA hm rfl func109 aa4 rfl C4 aa4 rfl (yN (C1 (U (hc) (J ?_ ?_))))
  .intro h1;have h1:b=true:=h1;refine J ?_ ?_
   .intro h2;have h2:r.yanked=true:=h2;refine yN (yN ?_);exact U (.refl _) (J rfl (fin false aa0))
   .intro h2;have h2:r.yanked=false:=h2;refine yN (yN ?_);exact U (.refl _) (J rfl (fin true aa0))
  .intro h1;have h1:b=false:=h1;refine yN (yN ?_);exact U (.refl _) (J rfl (fin false aa0))
def CH(acc:Option CS)(q:Rq):Option CS:=if BP before q.path then acc else match acc with
  |none=>some q.path
  |some p=>if Ek q.path p then some q.path else some p
theorem Ou(before:List Sl):∀(a b:List Rq) (acc:Option CS),CO before (a++b) acc=CO before b (CO before a acc)
 | [],_,_=>rfl
 |q::a,b,acc=>Ou before a b (if BP before q.path then acc else match acc with |none=>some q.path |some p=>if Ek q.path p then some q.path else some p)
theorem HX(acc:Option CS){j:Nat}(h:j<l.length):CO before (l.take (j+1)) acc=CH before (CO before (l.take j) acc) l[j]:=by
 rw[Dv,Ge h];show CO before (l.take j++[l[j]]) acc=_;rw[Ou];rfl
structure DI{S:Type}(x:List Rl)(roots:List Rq)(s:List Sl)(step:S->WH->S)(Wf:S)(before:List Sl)(needs:List Rq)(n:Nat)(st:S):Prop where
 nd:(before.map (·.path)).Nodup
 sub:∀y∈before,y∈s
 fuel:before.length+n=s.length+1
 few:∀q∈needs,BF q.set
 len:needs.length<=roots.length+16*before.length
 ok:(visits x roots s).2=(Ef x s n before needs).2
 fold:(visits x roots s).1.foldl step Wf=(Ef x s n before needs).1.foldl step st
section
variable {S:Type}{x:List Rl}{roots:List Rq}{s:List Sl}{step:S->WH->S}{Wf:S}{before:List Sl}{needs:List Rq}{n:Nat}{st:S}
theorem DI.start(hq:∀q∈roots,BF q.set)(Wf:S):DI x roots s step Wf [] roots (s.length+1) Wf:=
 ⟨by simp,fun _ h=>(by cases h),by simp,hq,by simp,rfl,rfl⟩
theorem DI.lt(h:DI x roots s step Wf before needs n st):before.length<=s.length:=by
 have:=CC (m:=s.map (·.path)) h.nd fun p hp=>by
  grind [DI.sub]
 simp_all
theorem DI.pos(h:DI x roots s step Wf before needs n st):∃m,n=m+1:=by
 have:=h.lt
 have:=h.fuel
 exact⟨n-1,by omega⟩
theorem DI.stop{m:Nat}(h:DI x roots s step Wf before needs (m+1) st)(hp:DH needs before=none):(visits x roots s).2=true/\(visits x roots s).1.foldl step Wf=st:=by
 have h1:=h.ok;have h2:=h.fold
 grind [Ef]
theorem DI.lost{m:Nat}(h:DI x roots s step Wf before needs (m+1) st)(hp:DH needs before=some p)(hf:AE s p=none):(visits x roots s).2=false/\(visits x roots s).1.foldl step Wf=st:=by
 have h1:=h.ok;have h2:=h.fold
 grind [Ef]
theorem DI.gone{m:Nat}(h:DI x roots s step Wf before needs (m+1) st){y:Sl}(hp:DH needs before=some p)(hf:AE s p=some y)(hr:AW x y=none):(visits x roots s).2=false/\(visits x roots s).1.foldl step Wf=st:=by
 have h1:=h.ok;have h2:=h.fold
 grind [Ef]
theorem DI.next{m:Nat}(h:DI x roots s step Wf before needs (m+1) st){y:Sl}{r:Rl}(hp:DH needs before=some p)(hf:AE s p=some y)(hr:AW x y=some r)(hl:r.reqs.length<=16)(hq:∀q∈r.reqs,BF q.set) :
  DI x roots s step Wf (before++[y]) (needs++r.reqs) m (step st ⟨before,needs,r⟩):=by
 have h1:=h.ok;have h2:=h.fold;unfold Ef at h1 h2;rw[hp]at h1 h2;simp only[hf,hr]at h1 h2;obtain⟨g1,g2⟩:=IK hp<;>grind [GY,Kv,E8,DI.mk,DI.nd,DI.sub,DI.fuel,DI.few,DI.len]
end
theorem km(p:CS):(KT (fun y:Sl=>decide (y.path=p)) s 0=-1/\AE s p=none)\/∃i y,KT (fun y:Sl=>decide (y.path=p)) s 0=(i:Nat)/\s[i]?=some y/\AE s p=some y:=by
 rcases MX (p:=fun y:Sl=>decide (y.path=p)) s 0 with h | ⟨i,y,h1,h2,h3⟩
 .exact .inl h
 .exact .inr ⟨i,y,by omega,h2,h3⟩
abbrev AfV:Ns:=⟨[12],[(8,4)],[],[(49,[9])],[],[],[],[],[],[],[3,8,9,11,12,14,15,17,18,20,21]⟩
theorem Ae3(d:List (List Tm))(s:List Sl)(Wf:Bool×List Sk)(UI:lR x ifs)(h0:Aw x=0)(hx:∀r∈x,Eo r)(hrl:roots.length<=1000)(Tu:∀q∈roots,BF q.set)(hs:s.length<=500)(hd:d.length<=65536)(ht:∀t∈d,Rb t) :
  A6 prog 108 [.cptr (Cz x (.slice .none ifs) roots d),sl Ae s,.clo 109 [.cptr [.cptr (Cz x (.slice .none ifs) roots d)],.ref 1000 0,.ref 1001 0]] (Ai (sH Wf) Af) fun r h'=>r=I (visits x roots s).2/\h'=Ai (sH ((visits x roots s).1.foldl (Cf x d) Wf)) Af:=by
 have oe:=(Fi h0).2;have yu:BF roots:=Wk
 refine Bi (IU AfV) [(1000,1000),(1001,1001)] rfl BA hm rfl func108 aa4 rfl C4 aa4 rfl (Z (.gen [] 1) (J rfl ((zt roots yu).imp ?_)));intro v g q;have q1:=q.1;have q2:=q.2;subst q1;subst q2
 clear q
 refine Z {p:List Sl×List Rq×Nat×Bool×List Sk // DI x roots s (Cf x d) Wf p.1 p.2.1 p.2.2.1 p.2.2.2} (Z (fun p=>⟨[(0,.cptr (Cz x (.slice .none ifs) roots d)),(1,sl Ae s),(2,.clo 109 [.cptr [.cptr (Cz x (.slice .none ifs) roots d)],.ref 1000 0,.ref 1001 0]),(7,.slice (.id 12100 2) (p.1.2.1.map Ac)),(8,.slice (.id 8 4) (p.1.1.map Ae))],[(8,.tok 4 (p.1.1.map Ae).length),(12100,.tok 2 (p.1.2.1.map Ac).length),(1000,.cells [sl N p.1.2.2.2.2]),(1001,.cells [I p.1.2.2.2.1])],Af⟩) (Z (fun p=>p.1.2.2.1) (J (Z ⟨([],roots,s.length+1,Wf),DI.start Tu Wf⟩ ?_) ?_)))
 .exact⟨Z5,Z4,Fh,A2 aa4⟩
 intro⟨⟨before,needs,n,st⟩,inv⟩;refine Al inv.pos (fun m hm'=>?_);have inv:DI x roots s (Cf x d) Wf before needs (m+1) st:=hm'▸inv;have hbl:=inv.lt;have hnl:=inv.len;have hnf:BF needs:=Wk
 have hbf:BF before:=Wk
 refine cU [(0,.cptr (Cz x (.slice .none ifs) roots d)),(1,sl Ae s),(2,.clo 109 [.cptr [.cptr (Cz x (.slice .none ifs) roots d)],.ref 1000 0,.ref 1001 0]),(7,.slice (.id 12100 2) (needs.map Ac)),(8,.slice (.id 8 4) (before.map Ae))] [(8,.tok 4 (before.map Ae).length),(12100,.tok 2 (needs.map Ac).length),(1000,.cells [sl N st.2]),(1001,.cells [I st.1])] Z5 Z4 (yN (Z {p:Nat×Option CS // p.1<=needs.length/\p.2=CO before (needs.take p.1) none} (Z (fun p=>⟨[(0,.cptr (Cz x (.slice .none ifs) roots d)),(1,sl Ae s),(2,.clo 109 [.cptr [.cptr (Cz x (.slice .none ifs) roots d)],.ref 1000 0,.ref 1001 0]),(7,.slice (.id 12100 2) (needs.map Ac)),(8,.slice (.id 8 4) (before.map Ae)),(9,.ref 9 0),(10,I p.1.2.isSome),(22,.slice (.id 12100 2) (needs.map Ac)),(23,G (needs.map Ac).length),(24,G p.1.1)],[(8,.tok 4 (before.map Ae).length),(12100,.tok 2 (needs.map Ac).length),(1000,.cells [sl N st.2]),(1001,.cells [I st.1]),(9,.cells [vs (p.1.2.getD R)])],Af⟩) (Z (fun p=>needs.length-p.1.1) (J (Z ⟨(0,none),Ak _,rfl⟩ ?_) ?_)))))
 .exact⟨Z10,Z5,Fh,A2 aa4⟩
 intro⟨⟨j,acc⟩,j1,j2⟩;have j2:acc=CO before (needs.take j) none:=j2;refine J ?_ ?_
 .intro h;have h:(j:Int)<(needs.map Ac).length:=h;have h:j<needs.length:=aa0
  have hg:needs[j]?=some needs[j]:=Ge h;have cZ:=HX before needs none h;rw[<-j2]at cZ;refine Z (Ac needs[j]) (J (J Wk aa0) (J rfl ?_));refine J C4 (yN (cU [(0,.cptr (Cz x (.slice .none ifs) roots d)),(1,sl Ae s),(2,.clo 109 [.cptr [.cptr (Cz x (.slice .none ifs) roots d)],.ref 1000 0,.ref 1001 0]),(7,.slice (.id 12100 2) (needs.map Ac)),(8,.slice (.id 8 4) (before.map Ae)),(9,.ref 9 0),(10,I acc.isSome),(12,.ref 12 0),(22,.slice (.id 12100 2) (needs.map Ac)),(23,G (needs.map Ac).length),(24,G j)] [(8,.tok 4 (before.map Ae).length),(12100,.tok 2 (needs.map Ac).length),(1000,.cells [sl N st.2]),(1001,.cells [I st.1]),(9,.cells [vs (acc.getD R)]),(12,.ro (Ac needs[j]))] Z11 Z6 ?_))
  have rX:PC 183 [sl Ae before,.clo 184 [.cptr (Ac needs[j])]] (I (BP before needs[j].path)):=c51 (fF:=184) (caps:=[.cptr (Ac needs[j])]) (fun c hc=>by
   obtain rfl:=AI.1 hc;intro h;rfl) before (fun y=>decide (y.path=needs[j].path)) (fun y _=>c77 y needs[j]) hbf
  refine Ay (Bt (BP before needs[j].path)) (fun hd=>?_) (fun hd=>?_)
  .rw[hd]at rX;refine C1 (U (rX) ?_);have Iz:CH before acc needs[j]=acc:=by unfold CH;simp_all
   refine cU [(0,.cptr (Cz x (.slice .none ifs) roots d)),(1,sl Ae s),(2,.clo 109 [.cptr [.cptr (Cz x (.slice .none ifs) roots d)],.ref 1000 0,.ref 1001 0]),(7,.slice (.id 12100 2) (needs.map Ac)),(8,.slice (.id 8 4) (before.map Ae)),(9,.ref 9 0),(10,I acc.isSome),(13,I true),(22,.slice (.id 12100 2) (needs.map Ac)),(23,G (needs.map Ac).length),(24,G j)] [(8,.tok 4 (before.map Ae).length),(12100,.tok 2 (needs.map Ac).length),(1000,.cells [sl N st.2]),(1001,.cells [I st.1]),(9,.cells [vs (acc.getD R)])] Z11 Z5 (cU [(0,.cptr (Cz x (.slice .none ifs) roots d)),(1,sl Ae s),(2,.clo 109 [.cptr [.cptr (Cz x (.slice .none ifs) roots d)],.ref 1000 0,.ref 1001 0]),(7,.slice (.id 12100 2) (needs.map Ac)),(8,.slice (.id 8 4) (before.map Ae)),(9,.ref 9 0),(10,I (CH before acc needs[j]).isSome),(22,.slice (.id 12100 2) (needs.map Ac)),(23,G (needs.map Ac).length),(24,G j)] [(8,.tok 4 (before.map Ae).length),(12100,.tok 2 (needs.map Ac).length),(1000,.cells [sl N st.2]),(1001,.cells [I st.1]),(9,.cells [vs ((CH before acc needs[j]).getD R)])] ⟨X,X,X,X,X,X,⟨Aa I (Aa Option.isSome Iz.symm),rfl⟩,X,X,X,W⟩ ⟨X,X,X,X,⟨Aa (fun a=>HO.cells [vs (Option.getD a R)]) Iz.symm,rfl⟩,W⟩ (J (by show Au ((j:Int)+1);grind [Au]) (Z ⟨(j+1,CH before acc needs[j]),by omega,cZ.symm⟩ ?_)));exact⟨by grind,Z10,Z5,Fh,A2 aa4⟩
  rw[hd]at rX;refine C1 (U (rX) ?_);refine Ay (show acc=none\/∃p,acc=some p by cases acc<;>grind) (fun ha=>?_) (fun ha=>?_)
  .have Iz:CH before acc needs[j]=some needs[j].path:=by grind [CH]
   refine cU [(0,.cptr (Cz x (.slice .none ifs) roots d)),(1,sl Ae s),(2,.clo 109 [.cptr [.cptr (Cz x (.slice .none ifs) roots d)],.ref 1000 0,.ref 1001 0]),(7,.slice (.id 12100 2) (needs.map Ac)),(8,.slice (.id 8 4) (before.map Ae)),(9,.ref 9 0),(10,I false),(12,.ref 12 0),(13,I false),(22,.slice (.id 12100 2) (needs.map Ac)),(23,G (needs.map Ac).length),(24,G j)] [(8,.tok 4 (before.map Ae).length),(12100,.tok 2 (needs.map Ac).length),(1000,.cells [sl N st.2]),(1001,.cells [I st.1]),(9,.cells [vs R]),(12,.ro (Ac needs[j]))] ⟨X,X,X,X,X,X,⟨by show I acc.isSome=I false;grind,rfl⟩,X,X,X,X,X,W⟩ ⟨X,X,X,X,⟨by show HO.cells [vs (acc.getD R)]=HO.cells [vs R];grind,rfl⟩,X,W⟩ ?_
   refine yN (cU [(0,.cptr (Cz x (.slice .none ifs) roots d)),(1,sl Ae s),(2,.clo 109 [.cptr [.cptr (Cz x (.slice .none ifs) roots d)],.ref 1000 0,.ref 1001 0]),(7,.slice (.id 12100 2) (needs.map Ac)),(8,.slice (.id 8 4) (before.map Ae)),(9,.ref 9 0),(10,I (CH before acc needs[j]).isSome),(22,.slice (.id 12100 2) (needs.map Ac)),(23,G (needs.map Ac).length),(24,G j)] [(8,.tok 4 (before.map Ae).length),(12100,.tok 2 (needs.map Ac).length),(1000,.cells [sl N st.2]),(1001,.cells [I st.1]),(9,.cells [vs ((CH before acc needs[j]).getD R)])] ⟨X,X,X,X,X,X,⟨by show I true=_;grind,rfl⟩,X,X,X,W⟩ ⟨X,X,X,X,⟨by show HO.cells [vs needs[j].path]=_;grind,rfl⟩,W⟩ ?_)
   refine J (by grind [Au]) (Z ⟨(j+1,CH before acc needs[j]),by omega,cZ.symm⟩ ?_);exact⟨by grind,Z10,Z5,Fh,A2 aa4⟩
  refine Al ha (fun p ha=>?_);refine cU [(0,.cptr (Cz x (.slice .none ifs) roots d)),(1,sl Ae s),(2,.clo 109 [.cptr [.cptr (Cz x (.slice .none ifs) roots d)],.ref 1000 0,.ref 1001 0]),(7,.slice (.id 12100 2) (needs.map Ac)),(8,.slice (.id 8 4) (before.map Ae)),(9,.ref 9 0),(10,I true),(12,.ref 12 0),(13,I false),(22,.slice (.id 12100 2) (needs.map Ac)),(23,G (needs.map Ac).length),(24,G j)] [(8,.tok 4 (before.map Ae).length),(12100,.tok 2 (needs.map Ac).length),(1000,.cells [sl N st.2]),(1001,.cells [I st.1]),(9,.cells [vs p]),(12,.ro (Ac needs[j]))] ⟨X,X,X,X,X,X,⟨by show I acc.isSome=I true;grind,rfl⟩,X,X,X,X,X,W⟩ ⟨X,X,X,X,⟨by show HO.cells [vs (acc.getD R)]=HO.cells [vs p];grind,rfl⟩,X,W⟩ ?_
  refine J ?_ ?_
  .intro hb;have hb:Op.bytesLess needs[j].path.toList p.toList=true:=hb;rw[<-DZ]at hb;have Iz:CH before acc needs[j]=some needs[j].path:=by grind [CH]
   refine yN (cU [(0,.cptr (Cz x (.slice .none ifs) roots d)),(1,sl Ae s),(2,.clo 109 [.cptr [.cptr (Cz x (.slice .none ifs) roots d)],.ref 1000 0,.ref 1001 0]),(7,.slice (.id 12100 2) (needs.map Ac)),(8,.slice (.id 8 4) (before.map Ae)),(9,.ref 9 0),(10,I (CH before acc needs[j]).isSome),(22,.slice (.id 12100 2) (needs.map Ac)),(23,G (needs.map Ac).length),(24,G j)] [(8,.tok 4 (before.map Ae).length),(12100,.tok 2 (needs.map Ac).length),(1000,.cells [sl N st.2]),(1001,.cells [I st.1]),(9,.cells [vs ((CH before acc needs[j]).getD R)])] ⟨X,X,X,X,X,X,⟨by show I true=_;simp_all,rfl⟩,X,X,X,W⟩ ⟨X,X,X,X,⟨by show HO.cells [vs needs[j].path]=_;simp_all,rfl⟩,W⟩ ?_)
   refine J (by grind [Au]) (Z ⟨(j+1,CH before acc needs[j]),by omega,cZ.symm⟩ ?_);exact⟨by grind,Z10,Z5,Fh,A2 aa4⟩
  .intro hb;have hb:¬Op.bytesLess needs[j].path.toList p.toList=true:=hb;rw[<-DZ]at hb;have Iz:CH before acc needs[j]=some p:=by grind [CH]
   refine cU [(0,.cptr (Cz x (.slice .none ifs) roots d)),(1,sl Ae s),(2,.clo 109 [.cptr [.cptr (Cz x (.slice .none ifs) roots d)],.ref 1000 0,.ref 1001 0]),(7,.slice (.id 12100 2) (needs.map Ac)),(8,.slice (.id 8 4) (before.map Ae)),(9,.ref 9 0),(10,I (CH before acc needs[j]).isSome),(22,.slice (.id 12100 2) (needs.map Ac)),(23,G (needs.map Ac).length),(24,G j)] [(8,.tok 4 (before.map Ae).length),(12100,.tok 2 (needs.map Ac).length),(1000,.cells [sl N st.2]),(1001,.cells [I st.1]),(9,.cells [vs ((CH before acc needs[j]).getD R)])] ⟨X,X,X,X,X,X,⟨by show I true=_;grind,rfl⟩,X,X,X,W⟩ ⟨X,X,X,X,⟨by show HO.cells [vs p]=_;grind,rfl⟩,W⟩ ?_
   refine J (by grind [Au]) (Z ⟨(j+1,CH before acc needs[j]),by omega,cZ.symm⟩ ?_);exact⟨by grind,Z10,Z5,Fh,A2 aa4⟩
 intro h;have h:¬(j:Int)<(needs.map Ac).length:=h;have h:¬j<needs.length:=aa0
 have yg:DH needs before=acc:=by rw[j2,A3 Wk];rfl
 refine Ay (show acc=none\/∃p,acc=some p by cases acc<;>grind) (fun ha=>?_) (fun ha=>?_)
 .have aX:=inv.stop (yg.trans ha);refine cU [(10,I false)] [(1000,.cells [sl N st.2]),(1001,.cells [I st.1])] ⟨⟨by show I acc.isSome=I false;grind,rfl⟩,W⟩ Z2 ?_
  exact U (.refl _) (J (Aa I aX.1.symm) (Aa (fun a=>Ai (sH a) Af) aX.2.symm))
 refine Al ha (fun p ha=>?_);have yg:DH needs before=some p:=yg.trans ha;refine cU [(0,.cptr (Cz x (.slice .none ifs) roots d)),(1,sl Ae s),(2,.clo 109 [.cptr [.cptr (Cz x (.slice .none ifs) roots d)],.ref 1000 0,.ref 1001 0]),(7,.slice (.id 12100 2) (needs.map Ac)),(8,.slice (.id 8 4) (before.map Ae)),(9,.ref 9 0),(10,I true)] [(8,.tok 4 (before.map Ae).length),(12100,.tok 2 (needs.map Ac).length),(1000,.cells [sl N st.2]),(1001,.cells [I st.1]),(9,.cells [vs p])] ⟨X,X,X,X,X,X,⟨by show I acc.isSome=I true;grind,rfl⟩,W⟩ ⟨X,X,X,X,⟨by show HO.cells [vs (acc.getD R)]=HO.cells [vs p];grind,rfl⟩,W⟩ ?_
 refine cU [(0,.cptr (Cz x (.slice .none ifs) roots d)),(1,sl Ae s),(2,.clo 109 [.cptr [.cptr (Cz x (.slice .none ifs) roots d)],.ref 1000 0,.ref 1001 0]),(7,.slice (.id 12100 2) (needs.map Ac)),(8,.slice (.id 8 4) (before.map Ae)),(9,.ref 9 0)] [(8,.tok 4 (before.map Ae).length),(12100,.tok 2 (needs.map Ac).length),(1000,.cells [sl N st.2]),(1001,.cells [I st.1]),(9,.cells [vs p])] Z6 Z5 ?_
 have rY:=c78 (fF:=186) (caps:=[.cptr [vs p]]) (fun c hc=>by
  obtain rfl:=AI.1 hc;intro h;rfl) s (fun y=>decide (y.path=p)) (fun y _=>c79 y p) Wk
 refine Ay (km s p) (fun hi=>?_) (fun hi=>?_)
 .rw[hi.1]at rY;have aX:=inv.lost yg hi.2;refine C1 (U (rY) (cU [(14,G (-1))] [(1000,.cells [sl N st.2]),(1001,.cells [I st.1])] Z1 Z2 (J ?_ ?_)))
  .intro _;exact U (.refl _) (J (Aa I aX.1.symm) (Aa (fun a=>Ai (sH a) Af) aX.2.symm))
  .intro hc;exact absurd (show((-1:Int)<0) by decide) hc
 refine Al hi (fun i hi=>?_);refine Al hi (fun y hi=>?_);have hi2:=hi.2.1;have hi3:=hi.2.2;rw[hi.1]at rY;refine C1 (U (rY) (cU [(0,.cptr (Cz x (.slice .none ifs) roots d)),(1,sl Ae s),(2,.clo 109 [.cptr [.cptr (Cz x (.slice .none ifs) roots d)],.ref 1000 0,.ref 1001 0]),(7,.slice (.id 12100 2) (needs.map Ac)),(8,.slice (.id 8 4) (before.map Ae)),(14,G i)] [(8,.tok 4 (before.map Ae).length),(12100,.tok 2 (needs.map Ac).length),(1000,.cells [sl N st.2]),(1001,.cells [I st.1])] Z6 Z4 (J ?_ ?_)))
 .intro hc;exact absurd (show((i:Int)<0)from hc) Wk
 intro _;refine cU [(0,.cptr (Cz x (.slice .none ifs) roots d)),(1,sl Ae s),(2,.clo 109 [.cptr [.cptr (Cz x (.slice .none ifs) roots d)],.ref 1000 0,.ref 1001 0]),(7,.slice (.id 12100 2) (needs.map Ac)),(8,.slice (.id 8 4) (before.map Ae)),(14,G i)] [(8,.tok 4 (before.map Ae).length),(12100,.tok 2 (needs.map Ac).length),(1000,.cells [sl N st.2]),(1001,.cells [I st.1])] Z6 Z4 ?_
 have hgy:(s.map Ae)[(i:Int).toNat]?=some (Ae y):=aa0
 have Wr:PC 40 [GM x ifs,vs y.path,.agg (Ez y.ver)] (Hi (AW x y)):=c53 x ifs y.path y.ver UI hx;refine yN (Z (Ae y) (J (J Wk hgy) (J rfl (Z (Ae y) (J (J Wk hgy) (J rfl (yN (Ay (show AW x y=none\/∃r,AW x y=some r by grind) (fun hr=>?_) (fun hr=>?_)))))))))
 .rw[hr]at Wr;have aX:=inv.gone yg hi3 hr;refine U (Wr) (yN (J aa4 (cU [(16,I false)] [(1000,.cells [sl N st.2]),(1001,.cells [I st.1])] Z1 Z2 ?_)))
  exact U (.refl _) (J (Aa I aX.1.symm) (Aa (fun a=>Ai (sH a) Af) aX.2.symm))
 refine Al hr (fun r hr=>?_);rw[hr]at Wr;refine U (Wr) (yN (J aa4 ?_));have hrx:r∈x:=(Ce hr).2.1;have AeX:=inv.next yg hi3 hr (oe r hrx) (fun q hq=>((hx r hrx).2 q hq).1)
 refine cU [(0,.cptr (Cz x (.slice .none ifs) roots d)),(1,sl Ae s),(2,.clo 109 [.cptr [.cptr (Cz x (.slice .none ifs) roots d)],.ref 1000 0,.ref 1001 0]),(7,.slice (.id 12100 2) (needs.map Ac)),(8,.slice (.id 8 4) (before.map Ae)),(14,G i),(15,.ref 15 0),(16,I true)] [(8,.tok 4 (before.map Ae).length),(12100,.tok 2 (needs.map Ac).length),(1000,.cells [sl N st.2]),(1001,.cells [I st.1]),(15,.cells (V r))] Z8 Z5 (cU [(0,.cptr (Cz x (.slice .none ifs) roots d)),(1,sl Ae s),(2,.clo 109 [.cptr [.cptr (Cz x (.slice .none ifs) roots d)],.ref 1000 0,.ref 1001 0]),(7,.slice (.id 12100 2) (needs.map Ac)),(8,.slice (.id 8 4) (before.map Ae)),(14,G i),(15,.ref 15 0)] [(8,.tok 4 (before.map Ae).length),(12100,.tok 2 (needs.map Ac).length),(1000,.cells [sl N st.2]),(1001,.cells [I st.1]),(15,.cells (V r))] Z7 Z5 (yN ?_));have AfD:=c46 x (.slice .none ifs) roots d st before needs r (Fi h0).1 hd ht Wk hnf inv.few;refine Z (.gen [(1000,1000),(1001,1001)] 0) (J rfl (AfD.imp ?_));intro v g q;have q1:=q.1;have q2:=q.2;subst q1;subst q2
 clear q
 refine cU [(0,.cptr (Cz x (.slice .none ifs) roots d)),(1,sl Ae s),(2,.clo 109 [.cptr [.cptr (Cz x (.slice .none ifs) roots d)],.ref 1000 0,.ref 1001 0]),(7,.slice (.id 12100 2) (needs.map Ac)),(8,.slice (.id 8 4) (before.map Ae)),(14,G i),(15,.ref 15 0)] [(8,.tok 4 (before.map Ae).length),(12100,.tok 2 (needs.map Ac).length),(1000,.cells [sl N (Cf x d st ⟨before,needs,r⟩).2]),(1001,.cells [I (Cf x d st ⟨before,needs,r⟩).1]),(15,.cells (V r))] Z7 Z5 (Z (Ae y) (J (J Wk hgy) (J rfl (yN ?_))));have De:A7 4 [Ae y]/\(before.map Ae).length=(before.map Ae).length/\((before.map Ae).length+[Ae y].length)*40<=140737488355328/\(before.map Ae).length+[Ae y].length<=9223372036854775807:=
  ⟨⟨rfl,trivial⟩,rfl,by grind,by grind⟩
 refine J De ?_;have Mu:=oe r hrx;have gw:A7 2 (r.reqs.map Ac)/\(needs.map Ac).length=(needs.map Ac).length/\((needs.map Ac).length+(r.reqs.map Ac).length)*40<=140737488355328/\(needs.map Ac).length+(r.reqs.map Ac).length<=9223372036854775807:=
  ⟨B8 (enc:=Ac) (n:=2) (fun _=>rfl) r.reqs,rfl,by grind,by grind⟩
 refine J gw ?_;have e7:AV.slice (.id 12100 2) (needs.map Ac++r.reqs.map Ac)=.slice (.id 12100 2) ((needs++r.reqs).map Ac):=aa0
 have e8:AV.slice (.id 8 4) (before.map Ae++[Ae y])=.slice (.id 8 4) ((before++[y]).map Ae):=aa0
 have o7:HO.tok 2 ((needs.map Ac).length+(r.reqs.map Ac).length)=.tok 2 ((needs++r.reqs).map Ac).length:=aa0
 have o8:HO.tok 4 ((before.map Ae).length+[Ae y].length)=.tok 4 ((before++[y]).map Ae).length:=aa0
 refine Z ⟨(before++[y],needs++r.reqs,m,(Cf x d) st ⟨before,needs,r⟩),AeX⟩ ?_;exact⟨by simp_all,⟨X,X,X,⟨e7,rfl⟩,⟨e8,rfl⟩,W⟩,⟨⟨o8,rfl⟩,⟨o7,rfl⟩,X,X,W⟩,Fh,A2 aa4⟩
def Pr(q:Rq):Bool:=decide (q.path.size<=100)&&decide (q.set.length<=8)
def EG:Bool:=l.all Pr&&decide (l.length<=20)
theorem c35(hl:BF l):PC 37 [sl Ac l] (I (EG l)):=by
 unfold BF at hl;refine Ps Dc func37 rfl C4 (Z {i:Nat // i<=l.length/\∀j (hj:j<l.length),j<i->Pr l[j]=true} (Z (fun i=>⟨[(0,sl Ac l),(3,G i.1)],[],Af⟩) (Z (fun i=>l.length-i.1) (J (Z ⟨0,Ak _,fun j _ h=>by omega⟩ ?_) ?_))))
 .exact⟨Z2,W,Fh,W⟩
 intro⟨i,h1,h2⟩;refine J ?_ ?_
 .intro h;have h:i<l.length:=aa0
  have hg:l[i]?=some l[i]:=Ge h;have no:Pr l[i]=false->false=EG l:=fun e=>by
   grind [EG]
  refine Z (Ac l[i]) (J (J Wk aa0) (J rfl ?_));refine J ?_ ?_
  .intro h3;exact E I (no (by grind [Pr]))
  intro h3;refine Z (Ac l[i]) (J (J Wk aa0) (J rfl ?_));refine J ?_ ?_
  .intro h4;rw[Lm]at h4;exact E I (no (by grind [Pr]))
  intro h4;have h5:l[i].set.length<=8:=aa2
  refine J (by grind [Au]) (Z ⟨i+1,by omega,fun j hj F6=>?_⟩ ?_)
  .grind [Pr]
  .exact⟨Dl l.length i Wk,Z2,W,Fh,W⟩
 .intro h;have h:¬i<l.length:=aa0
  have ha:l.all Pr=true:=AS.2 fun q hq=>by
   grind [List.getElem_of_mem]
  refine J ?_ ?_
  .intro h3;rw[Lm]at h3;exact E I (show true=EG l by grind [EG])
  .intro h3;rw[Lm]at h3;exact E I (show false=EG l by grind [EG])
def KQ(r:Rl):Bool:=decide (r.path.size<=100)&&decide (r.arch.size<=100)&&decide (r.ifc.size<=100)&&decide (r.cert.size<=100)&&EG r.reqs
def Ga:Bool:=x.all KQ&&decide (x.length<=n)
theorem c34(hl:BF x)(hr:∀r∈x,BF r.reqs):PC 36 [sl V x,G n] (I (Ga x n)):=by
 unfold BF at hl;refine Ps Dc func36 rfl C4 (Z {i:Nat // i<=x.length/\∀j (hj:j<x.length),j<i->KQ x[j]=true} (Z (fun i=>⟨[(0,sl V x),(1,G n),(5,G i.1)],[],Af⟩) (Z (fun i=>x.length-i.1) (J (Z ⟨0,Ak _,fun j _ h=>by omega⟩ ?_) ?_))))
 .exact⟨Z3,W,Fh,W⟩
 intro⟨i,h1,h2⟩;refine J ?_ ?_
 .intro h;have h:i<x.length:=aa0
  have hg:x[i]?=some x[i]:=Ge h;have no:KQ x[i]=false->false=Ga x n:=fun e=>by
   grind [Ga]
  have hc:=c35 x[i].reqs (hr _ (Ag h));refine Z (V x[i]) (J (J Wk aa0) (J rfl ?_));refine J ?_ ?_
  .intro h3;exact E I (no (by grind [KQ]))
  intro h3;refine Z (V x[i]) (J (J Wk aa0) (J rfl ?_));refine J ?_ ?_
  .intro h4;exact E I (no (by grind [KQ]))
  intro h4;refine Z (V x[i]) (J (J Wk aa0) (J rfl ?_));refine J ?_ ?_
  .intro h5;exact E I (no (by grind [KQ]))
  intro h5;refine Z (V x[i]) (J (J Wk aa0) (J rfl ?_));refine J ?_ ?_
  .intro h6;exact E I (no (by grind [KQ]))
  intro h6;refine Z (V x[i]) (J (J Wk aa0) (J rfl ?_));refine Ay (Bt (EG x[i].reqs)) (fun e=>?_) (fun e=>?_)
  rotate_left
  .rw[e]at hc;refine C1 (U (hc) ?_);exact E I (no (by grind [KQ]))
  rw[e]at hc;refine C1 (U (hc) (J (by grind [Au]) (Z ⟨i+1,by omega,fun j hj F6=>?_⟩ ?_)))
  .grind [KQ]
  .exact⟨Dl x.length i Wk,Z3,W,Fh,W⟩
 .intro h;have h:¬i<x.length:=aa0
  have ha:x.all KQ=true:=AS.2 fun q hq=>by
   grind [List.getElem_of_mem]
  refine J ?_ ?_
  .intro h3;rw[Lm]at h3;exact E I (show true=Ga x n by grind [Ga])
  .intro h3;rw[Lm]at h3;exact E I (show false=Ga x n by grind [Ga])
theorem c11(hl:BF x)(hr:∀r∈x,BF r.reqs)(hq:BF roots):PC 10 [GM x ifs,sl Ac roots] (I (Ga x 16&&EG roots)):=by
 have h1:=c34 x 16 hl hr;have h2:=c35 roots hq;cases e:Ga x 16 with
 |true=>
  rw[e]at h1;refine Ps Dc func10 rfl C4 (C1 (U (h1) (C1 (U (h2) ?_))));exact .refl _
 |false=>
  rw[e]at h1;refine Ps Dc func10 rfl C4 (C1 (U (h1) ?_));exact .refl _
abbrev H45:Prop:=PC 21 [GM x ifs,sl Ac roots,sl Ae s] (G (Do x roots s))
end Go.Eng
