/- Lemmas 20. -/
import Derived.Test.YtkmnnpmneamgoaaGreatDoorPA19
namespace Go.Eng
open Go.Proofs
variable {p:ByteArray}{BV:List (Value×AV)}{i:Nat}(x y:List Rl)(ifs:List (List AV))(d:List (List Tm))(v:WT)(j n:Nat)(o:Rl)(l roots:List Rq)(before:List Sl)
theorem Lw:∀(y:List Rl) (acc:List ByteArray) (r:Rl),AK (y++[r]) acc=if(AK y acc).any (fun p=>decide (p=r.path))then AK y acc else AK y acc++[r.path]
 | [],acc,r=>rfl
 |s::y,acc,r=>by rw[F2,AK,AK,Lw y]
theorem E3:∀(y:List Rl) (acc:List ByteArray),acc.Nodup->(AK y acc).Nodup
 | [],_,h=>h
 |s::y,acc,h=>by
  rw[AK];refine E3 y _ ?_
  grind
abbrev cp(p:ByteArray):List (List AV):=(y.filter fun r=>decide (r.path=p)).map Am
abbrev wO(q:ByteArray×Nat):Value×AV:=(.string q.1,.slice (.id (q.2+50) 9) (cp y q.1))
abbrev TC:List (Value×AV):=(AK y []).zipIdx.map (wO y)
def LJ(l:Nat):HO:=match(AK y [])[l]? with
 |some q=>.tok 9 (cp y q).length
 |none=>.free
def VZ:HO:=bif Nat.ble 50 j then LJ y (j-50)else .free
theorem H2(l:Nat):VZ y (l+50)=LJ y l:=by
 grind [VZ,Nat.ble_eq]
theorem tp{j:Nat}(h:j<50):VZ y j=.free:=by
 grind [VZ,Nat.ble_eq]
open Classical in
theorem IH{k:Value}{a:AV}(h:∀a',(k,a')∉BV):Fm BV k a=BV++[(k,a)]:=by
 grind [Fm]
open Classical in
theorem ZJ{k:Value}{a a' : AV}(h:(k,a')∈BV):Fm BV k a=BV.map fun p=>if p.1=k then(k,a)else p:=by
 unfold Fm;rw[AX ⟨a',h⟩]
section
variable {y:List Rl}{r:Rl}{k:Nat}
theorem Nm(h:(AK y [])[k]?=some r.path):AK (y++[r]) []=AK y []:=by
 grind [Lw]
theorem Nl(h:r.path∉AK y []):AK (y++[r]) []=AK y []++[r.path]:=by
 grind [Lw]
theorem Jj{l:List ByteArray}(hd:l.Nodup){i j:Nat}(h1:l[i]?=some p)(h2:l[j]?=some p):i=j:=by
 grind [List.getElem_inj]
open Classical in
theorem po(h:(AK y [])[k]?=some r.path):Fm (TC y) (.string r.path) (.slice (.id (k+50) 9) (cp y r.path++[Am r]))=TC (y++[r]):=by
 have hd:=E3 y [] Kt;have hm:wO y (r.path,k)∈TC y:=Ar.2 ⟨_,HR.2 h,rfl⟩;rw[ZJ (a':=.slice (.id (k+50) 9) (cp y r.path)) hm];unfold TC;rw[Nm h,B2];refine Cg fun q hq=>?_
 grind [Jj]
theorem ee(h:r.path∉AK y []):cp y r.path=[]:=by
 grind [List.filter_eq_nil_iff,HB]
theorem kP(h:r.path∉AK y [])(a:AV):(Value.string r.path,a)∉TC y:=by
 grind
theorem pn(h:r.path∉AK y []):Fm (TC y) (.string r.path) (.slice (.id ((AK y []).length+50) 9) [Am r])=TC (y++[r]):=by
 grind [IH,Nl,List.map_congr_left,ee]
theorem kR{j:Nat}(h:(AK y [])[j]?=some p):(Value.string p,AV.slice (.id (j+50) 9) (cp y p))∈TC y/\∀b,(Value.string p,b)∈TC y->b=AV.slice (.id (j+50) 9) (cp y p):=by
 refine⟨Ar.2 ⟨(p,j),HR.2 h,rfl⟩,fun b hb=>?_⟩
 grind [Jj,E3]
theorem nM{j:Nat}(h:(AK y [])[j]?=some p):LJ y j=.tok 9 (cp y p).length:=by
 grind [LJ]
theorem rh(h:(AK y [])[k]?=some r.path)(l:Nat):(bif Nat.beq (l+50) (k+50)then HO.tok 9 ((cp y r.path).length+1)else LJ y l)=LJ (y++[r]) l:=by
 grind [Nat.beq_refl,LJ,Nm,Nat.eq_of_beq_eq_true,Jj,E3]
theorem rg(h:r.path∉AK y [])(l:Nat):(bif Nat.beq (l+50) ((AK y []).length+50)then HO.tok 9 1 else LJ y l)=LJ (y++[r]) l:=by
 grind [Nat.beq_refl,LJ,Nl,ee,Nat.eq_of_beq_eq_true]
end
theorem Qq{h:Nat->HO}:∀{BV:List (Value×AV)},(∀p∈BV,TR h p.2=true)->Rx h BV=true
 | [],_=>rfl
 |p::r,hk=>by
  unfold Rx;rw[hk p (Ah ..)];exact Qq (fun q hq=>hk q (Ai _ hq))
theorem Ll{h:Nat->HO}(hh:∀l,h (l+50)=LJ y l):Rx h (TC y)=true:=by
 refine Qq fun p hp=>?_;obtain⟨q,h1,rfl⟩:=Ar.1 hp;show RW h (q.2+50)=true
 grind [RW,nM]
theorem Js{y:List Rl}{h h' : Nat->HO}(hh:∀l,h (l+50)=LJ y l)(j:Nat):VZ y j=.free\/(h j=VZ y j/\Zf h' (VZ y j)=true):=by
 by_cases hj:j<50
 .grind [tp]
 .obtain⟨l,rfl⟩:∃l,j=l+50:=⟨j-50,by omega⟩
  right
  rw[H2];refine⟨hh l,?_⟩;unfold LJ;cases (AK y [])[l]?<;>rfl
theorem qL{x:List Rl}(hx:Av x=0)(hi:i<x.length):Fm ((x.take i).map Oh) (V9 (Cq x[i])) (.agg (Am x[i]))=(x.take (i+1)).map Oh:=by
 rw[IH]
 .rw[Ck,Ge hi,BD];rfl
 intro a ha;obtain⟨r,hr,he,_⟩:=XE ha;obtain⟨j,hj,e2⟩:=List.mem_iff_getElem.1 hr;rw[Cy]at hj;rw[List.getElem_take]at e2;have hp:=(BC hx).2
 grind [List.pairwise_iff_getElem,Ol]
abbrev yw:Md:=⟨[],[],[],[],[8,9],[9],[40],[],[],[],[8,9,10,11]⟩
abbrev zT:List AV:=[.v (.map none),.v (.map none)]
theorem oN(te:PC 59 [Il x ifs] (vi (Av x)))(h0:Av x≠0):jr x ifs:=by
 have ht:uJ x=.tup [.agg [.cmap OI [],.cmap Cv []],vi (Av x)]:=by simp_all
 unfold jr;rw[ht];refine Ps yw Tryz.func95 rfl (Nz rfl) (Xi 0 (Xi 0 (yN (Xi 0 (yN (Xi .pure (Xi _ (Yi (te) (Xi 0 (Yi ?_ ?_))))))))))
 .intro _;refine Xi 0 (yN (yN (yN ?_)));exact .refl _
 .intro h;exact absurd h (fun hc=>hc h0)
theorem HA:∀(y:List Rl) (acc:List ByteArray),(AK y acc).length<=acc.length+y.length
 | [],acc=>by simp[AK]
 |r::y,acc=>by
  rw[AK];refine Bl (HA y _) ?_
  grind
section
attribute [local irreducible] Iq
theorem sV(te:PC 59 [Il x ifs] (vi (Av x)))(h0:Av x=0)(CD:x.length<=256):jr x ifs:=by
 have ht:uJ x=.tup [.agg [.cmap OI (x.map Oh),.cmap Cv ((AK x []).map (ia x))],vi 0]:=by simp_all
 unfold jr;rw[ht];rw[h0]at te;refine Ps yw Tryz.func95 rfl (Nz rfl) (Xi 0 (Xi 0 (yN (Xi 0 (yN (Xi .pure (Xi _ (Yi (te) (Xi 0 (Yi ?_ ?_))))))))))
 .intro hc;exact absurd (show(0:Int)≠0 from hc) aa2
 intro _;refine Xi 0 (Xi {i:Nat // i<=x.length} (Xi (fun i=>⟨[(2,.ref 2 0),(4,.ref 4 0),(18,sl Am x),(19,vi (x.map Am).length),(20,vi i.1)],[(2,.cells zT),(4,.cells [.mref 8,.mref 9]),(8,.map OI ((x.take i.1).map Oh)),(9,.mapU Cv (TC (x.take i.1)))],VZ (x.take i.1)⟩) (Xi (fun i=>x.length-i.1) (Yi (Xi ⟨0,Ap _⟩ ?_) ?_))))
 .refine⟨Z5,Z4,fun j=>.inl ?_,Tv⟩;show VZ [] j=.free;unfold VZ;cases Nat.ble 50 j<;>rfl
 intro⟨i,i1⟩;refine Xi 0 (Yi ?_ ?_)
 .intro h;have h:i<x.length:=by simp_all
  have hg:x[i]?=some x[i]:=Ge h;have Pi:x.take (i+1)=x.take i++[x[i]]:=by simp_all
  refine Xi 0 (Xi (Am x[i]) (Yi (Yi aa0 (by simp_all)) (Yi rfl ?_)));refine Yi (Nz rfl) (yN (Xi ⟨[(2,.ref 2 0),(4,.ref 4 0),(7,.ref 7 0),(18,sl Am x),(19,vi (x.map Am).length),(20,vi i)],[(2,.cells zT),(4,.cells [.mref 8,.mref 9]),(7,.cells (Am x[i])),(8,.map OI ((x.take i).map Oh)),(9,.mapU Cv (TC (x.take i)))],VZ (x.take i)⟩ (Yi ?_ ?_)))
  .exact⟨Z6,⟨Zr,Zr,Zr,Zr,⟨rfl,Ll _ (H2 _)⟩,Tv⟩,Js (H2 _),Tv⟩
  refine Xi 0 (yN (Xi _ (Yi (sv x[i]) (yN (Yi aa3 ?_)))));have e8:Fm ((x.take i).map Oh) (V9 (Cq x[i])) (.agg (Am x[i]))=(x.take (i+1)).map Oh:=qL h0 h;refine Xi ⟨[(2,.ref 2 0),(4,.ref 4 0),(7,.ref 7 0),(18,sl Am x),(19,vi (x.map Am).length),(20,vi i)],[(2,.cells zT),(4,.cells [.mref 8,.mref 9]),(7,.cells (Am x[i])),(8,.map OI ((x.take (i+1)).map Oh)),(9,.mapU Cv (TC (x.take i)))],VZ (x.take i)⟩ (Yi ?_ ?_)
  .exact⟨Z6,⟨Zr,Zr,Zr,⟨Aa (HO.map OI) e8,rfl⟩,⟨rfl,Ll _ (H2 _)⟩,Tv⟩,Js (H2 _),Tv⟩
  have hL:((x.take i).filter (fun r=>decide (r.path=x[i].path))).length<=256:=by
   grind
  have hP:∀l,VZ (x.take i) (l+50)=LJ (x.take i) l:=H2 _;refine AA (Classical.em (x[i].path∈AK (x.take i) [])) (fun hp=>?_) (fun hp=>?_)
  .refine Al (Eg.1 hp) (fun k hk=>?_);have hu:=kR hk;refine Xi 0 ?_;refine Or.inl (Xi (.slice (.id (k+50) 9) (cp (x.take i) x[i].path)) (Yi hu ?_));refine yN ?_;have hr:VZ (x.take i) (k+50)=.tok 9 (cp (x.take i) x[i].path).length:=by rw[hP,nM hk]
   have hl:(cp (x.take i) x[i].path).length<=256:=by grind
   refine Ri (e:=67) (m:=8) (es2:=[Am x[i]]) rfl rfl rfl (fun _ h=>h) hr ⟨rfl,trivial⟩ (by show(_+1)*120<=_;omega) (by grind) ?_;have xK:k<256:=by
    have:=(Bb.1 hk).1
    have:=HA (x.take i) []
    grind
   have tL:=hk;refine Yi (I8 ⟨AJ _,AJ _,AJ _,AJ _,AJ _,AJ _,AJ _,AJ _,AJ _,AJ _,Ee (show 39<10000000 by decide),Ee aa0,Ee (show 9<10000000 by decide),trivial⟩ aa3) ?_;have e9:Fm (TC (x.take i)) (.string x[i].path) (.slice (.id (k+50) 9) (cp (x.take i) x[i].path++[Am x[i]]))=TC (x.take (i+1)):=by rw[Pi];exact po tL
   have hG:∀l,(bif Nat.beq (l+50) (k+50)then HO.tok 9 ((cp (x.take i) x[i].path).length+1)else LJ (x.take i) l)=LJ (x.take (i+1)) l:=by rw[Pi];exact rh tL
   refine Xi ⟨[(2,.ref 2 0),(4,.ref 4 0),(18,sl Am x),(19,vi (x.map Am).length),(20,vi i)],[(2,.cells zT),(4,.cells [.mref 8,.mref 9]),(8,.map OI ((x.take (i+1)).map Oh)),(9,.mapU Cv (TC (x.take (i+1))))],VZ (x.take (i+1))⟩ (Yi ?_ ?_)
   .refine⟨Z5,⟨Zr,Zr,Zr,⟨Aa (HO.mapU Cv) e9,Ll _ (H2 _)⟩,Tv⟩,Js (fun l=>?_),Tv⟩;show(bif Nat.beq (l+50) (k+50)then HO.tok 9 ((cp (x.take i) x[i].path).length+1)else VZ (x.take i) (l+50))=_
    grind
   refine Xi 0 (Yi (Ii i aa0) (Xi ⟨i+1,by omega⟩ ?_));exact⟨by grind,Z5,⟨Zr,Zr,Zr,⟨rfl,Ll _ (H2 _)⟩,Tv⟩,Js (H2 _),Tv⟩
  .have tL:=hp;have Ph:(AK (x.take i) []).length<=256:=by
    have:=HA (x.take i) []
    grind
   have hn:=kP hp;refine Xi ((AK (x.take i) []).length+50) ?_;refine Or.inr (Yi hn ?_);refine yN ?_;have hr:VZ (x.take i) ((AK (x.take i) []).length+50)=.free:=by
    rw[hP];unfold LJ;simp_all
   refine Rh (e:=67) (m:=8) (es2:=[Am x[i]]) rfl rfl rfl (fun _ h=>h) hr rfl ⟨rfl,trivial⟩ (by show 1*120<=_;omega) (by simp_all) ?_;refine Yi (I8 ⟨AJ _,AJ _,AJ _,AJ _,AJ _,AJ _,AJ _,AJ _,AJ _,AJ _,Ee (show 39<10000000 by decide),Ee (by show _+50<10000000;omega),Ee (show 9<10000000 by decide),trivial⟩ aa3) ?_;have e9:Fm (TC (x.take i)) (.string x[i].path) (.slice (.id ((AK (x.take i) []).length+50) 9) [Am x[i]])=TC (x.take (i+1)):=by rw[Pi];exact pn tL
   have hG:∀l,(bif Nat.beq (l+50) ((AK (x.take i) []).length+50)then HO.tok 9 1 else LJ (x.take i) l)=LJ (x.take (i+1)) l:=by rw[Pi];exact rg tL
   refine Xi ⟨[(2,.ref 2 0),(4,.ref 4 0),(18,sl Am x),(19,vi (x.map Am).length),(20,vi i)],[(2,.cells zT),(4,.cells [.mref 8,.mref 9]),(8,.map OI ((x.take (i+1)).map Oh)),(9,.mapU Cv (TC (x.take (i+1))))],VZ (x.take (i+1))⟩ (Yi ?_ ?_)
   .refine⟨Z5,⟨Zr,Zr,Zr,⟨Aa (HO.mapU Cv) e9,Ll _ (H2 _)⟩,Tv⟩,Js (fun l=>?_),Tv⟩;show(bif Nat.beq (l+50) ((AK (x.take i) []).length+50)then HO.tok 9 1 else VZ (x.take i) (l+50))=_;simp_all
   refine Xi 0 (Yi (Ii i aa0) (Xi ⟨i+1,by omega⟩ ?_));exact⟨by grind,Z5,⟨Zr,Zr,Zr,⟨rfl,Ll _ (H2 _)⟩,Tv⟩,Js (H2 _),Tv⟩
 .intro h;have h:¬i<x.length:=by simp_all
  have et:x.take i=x:=Bd aa0;refine Xi ⟨[(2,.ref 2 0),(4,.ref 4 0)],[(2,.cells zT),(4,.cells [.mref 8,.mref 9]),(8,.map OI ((x.take i).map Oh)),(9,.mapU Cv (TC (x.take i)))],VZ (x.take i)⟩ (Yi ?_ ?_)
  .exact⟨Z2,⟨Zr,Zr,Zr,⟨rfl,Ll _ (H2 _)⟩,Tv⟩,Js (H2 _),Tv⟩
  refine Xi 0 (yN (yN (yN ?_)));have es:∀h:Nat->HO,Sb h (TC (x.take i))=(AK x []).map (ia x):=fun h=>by
   rw[et];unfold Sb TC;rw[B2];refine CR fun j=>?_;rw[BA,BA,List.getElem?_zipIdx];cases (AK x [])[j]?<;>rfl
  have e1:(x.take i).map Oh=x.map Oh:=by rw[et]
  exact .of_eq (show AV.tup [.agg [.cmap OI ((x.take i).map Oh),.cmap Cv (Sb _ (TC (x.take i)))],vi 0]=_ by rw[e1,es])
end
theorem c84(hx:∀r∈x,E4 r):jr x ifs:=by
 by_cases h0:Av x=0
 .exact sV x ifs (zh fS x ifs hx) h0 (Fb h0).1
 .exact oN x ifs (zh fS x ifs hx) h0
abbrev yx:Md:=⟨[],[(2,n)],[],[],[],[],[5],[],[],[],[2,3]⟩
theorem sU(hl:BL l):A6 Tryz.prog 25 [sl Ac l] (Af [] Ae) fun r h'=>r=.slice (.id 2000 2) (l.map Ac)/\h'=Af [(2000,.tok 2 (l.map Ac).length)] Ae:=by
 refine Bi (IB (yx 2)) [(2,2000)] rfl Bz hm rfl Tryz.func25 aa3 rfl (Nz rfl) aa3 rfl ?_;have CO:A7 2 (l.map Ac)/\([]:List (List AV)).length=0/\(([]:List (List AV)).length+(l.map Ac).length)*40<=140737488355328/\([]:List (List AV)).length+(l.map Ac).length<=9223372036854775807:=by
  grind [Cn]
 have e2:HO.tok 2 (([]:List (List AV)).length+(l.map Ac).length)=.tok 2 (l.map Ac).length:=by simp_all
 have e3:AV.slice (.id 2000 2) ([]++l.map Ac)=.slice (.id 2000 2) (l.map Ac):=rfl;have full:∀st:St,(∃s:LS,St.le (IB (yx 2)) st s/\True)->True:=fun _ _=>trivial;refine Xi 0 (Xi 0 (Yi ?_ ?_))
 .intro _;refine cU [(0,sl Ac l)] [] Z1 Tv (Xi 2 (Yi CO ?_));exact Xi _ (Yi (.refl _) (Yi e3 (Aa (fun o=>Af [(2000,o)] Ae) e2)))
 .intro h;have h:l.map Ac=[]:=h;refine Yi ?_ ?_
  .refine Xi ⟨[],[],Ae⟩ (Yi ⟨trivial,trivial,fun _=>.inl rfl,Bg aa3⟩ ?_);refine Xi 0 ?_;exact Xi _ (Yi (.refl _) (Yi (show AV.slice (.id 2000 2) []=_ by rw[h]) (show Af [(2000,HO.tok 2 0)] Ae=_ by simp_all)))
  .refine cU [(0,sl Ac l)] [] Z1 Tv (Xi 2 (Yi CO ?_));exact Xi _ (Yi (.refl _) (Yi e3 (Aa (fun o=>Af [(2000,o)] Ae) e2)))
theorem sT(l:List Sl)(hl:BL l):A6 Tryz.prog 46 [sl Ag l] (Af [] Ae) fun r h'=>r=.slice (.id 2000 4) (l.map Ag)/\h'=Af [(2000,.tok 4 (l.map Ag).length)] Ae:=by
 refine Bi (IB (yx 4)) [(2,2000)] rfl Bz hm rfl Tryz.func46 aa3 rfl (Nz rfl) aa3 rfl ?_;have CO:A7 4 (l.map Ag)/\([]:List (List AV)).length=0/\(([]:List (List AV)).length+(l.map Ag).length)*40<=140737488355328/\([]:List (List AV)).length+(l.map Ag).length<=9223372036854775807:=by
  grind [Cn]
 have e2:HO.tok 4 (([]:List (List AV)).length+(l.map Ag).length)=.tok 4 (l.map Ag).length:=by simp_all
 have e3:AV.slice (.id 2000 4) ([]++l.map Ag)=.slice (.id 2000 4) (l.map Ag):=rfl;refine Xi 0 (Xi 0 (Yi ?_ ?_))
 .intro _;refine cU [(0,sl Ag l)] [] Z1 Tv (Xi 2 (Yi CO ?_));exact Xi _ (Yi (.refl _) (Yi e3 (Aa (fun o=>Af [(2000,o)] Ae) e2)))
 .intro h;refine Yi ?_ ?_
  .refine Xi ⟨[],[],Ae⟩ (Yi ⟨trivial,trivial,fun _=>.inl rfl,Bg aa3⟩ ?_);refine Xi 0 ?_;exact Xi _ (Yi (.refl _) (Yi (show AV.slice (.id 2000 4) []=_ by rw[h]) (show Af [(2000,HO.tok 4 0)] Ae=_ by simp_all)))
  .refine cU [(0,sl Ag l)] [] Z1 Tv (Xi 2 (Yi CO ?_));exact Xi _ (Yi (.refl _) (Yi e3 (Aa (fun o=>Af [(2000,o)] Ae) e2)))
abbrev Ad1:Md:=⟨[9,16],[],[],[],[],[],[],[],[(98,3)],[],[5,6,7,8,10,11,13,14]⟩
abbrev aG(p:List Sk×Bool):AV:=.tup [sl AN p.1,vb p.2]
def XX(x:List Rl)(k:List Sk):List Sk×Bool:=match k with
  | []=>([],false)
  |y::k'=>if !decide (y.path=v.rel.path)||!decide (y.place=plc o.ver)then([],false)else match DG d y.inf with
   |none=>([],false)
   |some t=>if Bm t (v.before++[Cq o])then DJ d v x k' else([],false)
theorem QP(x:List Rl)(k:List Sk):DJ d v (o::x) k =
  if !decide (o.path=v.rel.path)||o.yanked||!decide (plc o.ver<plc v.rel.ver)then DJ d v x k else
  if v.needs.any (fun q=>decide (q.path=v.rel.path)&&!has q.set (plc o.ver))then DJ d v x k else XX d v o x k:=by
 cases k<;>rfl
theorem Nq{d:List (List Tm)}{v:WT}{x:List Rl}(h:i<x.length){k:List Sk}{p:List Sk×Bool}(e:p=DJ d v (x.drop i) k)(hs:(!decide (x[i].path=v.rel.path)||x[i].yanked||!decide (plc x[i].ver<plc v.rel.ver))=true\/v.needs.any (fun q=>decide (q.path=v.rel.path)&&!has q.set (plc x[i].ver))=true):p=DJ d v (x.drop (i+1)) k:=by
 grind [List.drop_eq_getElem_cons,QP]
theorem ra{d:List (List Tm)}{v:WT}{x:List Rl}(h:i<x.length){k:List Sk}{p:List Sk×Bool}(e:p=DJ d v (x.drop i) k)(h1:x[i].path=v.rel.path)(h2:x[i].yanked=false)(h3:plc x[i].ver<plc v.rel.ver)(h4:v.needs.any (fun q=>decide (q.path=v.rel.path)&&!has q.set (plc x[i].ver))=false):p=XX d v x[i] (x.drop (i+1)) k:=by
 grind [List.drop_eq_getElem_cons,QP]
theorem KY:Ea (.tup [nzA,vb false]) (aG ([],false)):=Ea.tup ⟨.nil,.refl _,trivial⟩
theorem ja(k:List Sk):(((k.map AN).take ((k.map AN).length:Int).toNat).drop (1:Int).toNat)=(k.drop 1).map AN:=by
 grind [List.take_length,List.map_drop]
theorem c47(ifs:AV)(roots:List Rq)(d:List (List Tm))(k:List Sk)(before:List Sl)(needs:List Rq)(r:Rl)(hx:x.length<=256)(_hd:d.length<=65536)(ht:∀t∈d,PT t)(hb:before.length<=1000)(hn:BL needs)(hq:∀q∈needs,BL q.set) :
  PC 53 [.cptr (Cr x ifs roots d),sl AN k,sl Ag before,sl Ac needs,.agg (Am r)] (aG (DJ d ⟨before,needs,r⟩ x k)):=by
 have hbf:BL before:=by omega
 obtain⟨P,hP⟩:∃P,P=DJ d ⟨before,needs,r⟩ x k:=⟨_,rfl⟩;rw[<-hP];refine Ps Ad1 Tryz.func53 rfl (Nz rfl) (yN (Xi .pure (Xi _ (Yi (uU r.ver) (Xi {p:Nat×List Sk // p.1<=x.length/\P=DJ d ⟨before,needs,r⟩ (x.drop p.1) p.2} (Xi (fun p=>⟨[(0,.cptr (Cr x ifs roots d)),(1,sl AN p.1.2),(2,sl Ag before),(3,sl Ac needs),(9,.ref 9 0),(12,vi (plc r.ver)),(29,sl Am x),(30,vi (x.map Am).length),(31,vi p.1.1)],[(9,.ro (Am r))],Ae⟩) (Xi (fun p=>x.length-p.1.1) (Yi (Xi ⟨(0,k),Ap _,hP⟩ ?_) ?_))))))))
 .exact⟨Z9,Z1,Fh,Tv⟩
 intro⟨⟨i,k⟩,i1,i2⟩;have i1:i<=x.length:=i1;have i2:P=DJ d ⟨before,needs,r⟩ (x.drop i) k:=i2;refine Yi ?_ ?_
 .intro h;have h:(i:Int)<(x.map Am).length:=h;have h:i<x.length:=by simp_all
  have hg:x[i]?=some x[i]:=Ge h;refine Xi (Am x[i]) (Yi (Yi aa0 (by simp_all)) (Yi rfl ?_));refine Yi (Nz rfl) (yN (cU [(0,.cptr (Cr x ifs roots d)),(1,sl AN k),(2,sl Ag before),(3,sl Ac needs),(9,.ref 9 0),(12,vi (plc r.ver)),(15,.ref 15 0),(29,sl Am x),(30,vi (x.map Am).length),(31,vi i)] [(9,.ro (Am r)),(15,.cells (Am x[i]))] Z10 Z2 (yN (Xi .pure (Xi _ (Yi (uU x[i].ver) (yN (cU [(0,.cptr (Cr x ifs roots d)),(1,sl AN k),(2,sl Ag before),(3,sl Ac needs),(9,.ref 9 0),(12,vi (plc r.ver)),(15,.ref 15 0),(16,.ref 16 0),(29,sl Am x),(30,vi (x.map Am).length),(31,vi i)] [(9,.ro (Am r)),(15,.cells (Am x[i])),(16,.ro [vi (plc x[i].ver)])] Z11 Z3 (Yi ?_ ?_)))))))))
  .intro h1;have h1:x[i].path≠r.path:=h1;have i3:=Nq h i2 (.inl (by simp_all));refine cU [(0,.cptr (Cr x ifs roots d)),(1,sl AN k),(2,sl Ag before),(3,sl Ac needs),(9,.ref 9 0),(12,vi (plc r.ver)),(29,sl Am x),(30,vi (x.map Am).length),(31,vi i)] [(9,.ro (Am r))] Z9 Z1 (Yi (by grind [As]) (Xi ⟨(i+1,k),by omega,i3⟩ ?_));exact⟨by grind,Z9,Z1,Fh,Tv⟩
  intro h1;have h1:¬x[i].path≠r.path:=h1;have h1:x[i].path=r.path:=Cc.1 h1;refine Yi ?_ ?_
  .intro h2;have h2:x[i].yanked=true:=h2;have i3:=Nq h i2 (.inl (by simp_all));refine cU [(0,.cptr (Cr x ifs roots d)),(1,sl AN k),(2,sl Ag before),(3,sl Ac needs),(9,.ref 9 0),(12,vi (plc r.ver)),(29,sl Am x),(30,vi (x.map Am).length),(31,vi i)] [(9,.ro (Am r))] Z9 Z1 (Yi (by grind [As]) (Xi ⟨(i+1,k),by omega,i3⟩ ?_));exact⟨by grind,Z9,Z1,Fh,Tv⟩
  intro h2;have h2:x[i].yanked=false:=h2;refine Yi ?_ ?_
  .intro h3;have h3:plc r.ver<=plc x[i].ver:=h3;have i3:=Nq h i2 (.inl (by simp_all));refine cU [(0,.cptr (Cr x ifs roots d)),(1,sl AN k),(2,sl Ag before),(3,sl Ac needs),(9,.ref 9 0),(12,vi (plc r.ver)),(29,sl Am x),(30,vi (x.map Am).length),(31,vi i)] [(9,.ro (Am r))] Z9 Z1 (Yi (by grind [As]) (Xi ⟨(i+1,k),by omega,i3⟩ ?_));exact⟨by grind,Z9,Z1,Fh,Tv⟩
  intro h3;have h3:¬plc r.ver<=plc x[i].ver:=h3;have h3:plc x[i].ver<plc r.ver:=by omega
  refine cU [(0,.cptr (Cr x ifs roots d)),(1,sl AN k),(2,sl Ag before),(3,sl Ac needs),(9,.ref 9 0),(12,vi (plc r.ver)),(15,.ref 15 0),(16,.ref 16 0),(29,sl Am x),(30,vi (x.map Am).length),(31,vi i)] [(9,.ro (Am r)),(15,.cells (Am x[i])),(16,.ro [vi (plc x[i].ver)])] Z11 Z3 ?_
  have AbR:∀q∈needs,PC 100 ([.agg (Ac q)]++[.cptr (Am r),.cptr [vi (plc x[i].ver)]]) (vb (decide (q.path=r.path)&&!has q.set (plc x[i].ver))):=fun q hh=>c90 q r (plc x[i].ver) (hq q hh);have Lo:=c89 (fF:=100) (caps:=[.cptr (Am r),.cptr [vi (plc x[i].ver)]]) (fun c hc=>by
   rcases AF.1 hc with rfl | hc
   .intro h;rfl
   .obtain rfl:=AD.1 hc;intro h;rfl) needs (fun q=>decide (q.path=r.path)&&!has q.set (plc x[i].ver)) AbR hn
  refine AA (Bt (needs.any fun q=>decide (q.path=r.path)&&!has q.set (plc x[i].ver))) (fun h4=>?_) (fun h4=>?_)
  .rw[h4]at Lo;refine Xi .pure (Xi _ (Yi (Lo) ?_));have i3:=Nq h i2 (.inr h4);refine cU [(0,.cptr (Cr x ifs roots d)),(1,sl AN k),(2,sl Ag before),(3,sl Ac needs),(9,.ref 9 0),(12,vi (plc r.ver)),(29,sl Am x),(30,vi (x.map Am).length),(31,vi i)] [(9,.ro (Am r))] Z9 Z1 (Yi (by grind [As]) (Xi ⟨(i+1,k),by omega,i3⟩ ?_));exact⟨by grind,Z9,Z1,Fh,Tv⟩
  rw[h4]at Lo;refine Xi .pure (Xi _ (Yi (Lo) ?_));have i4:P=XX d ⟨before,needs,r⟩ x[i] (x.drop (i+1)) k:=ra h i2 h1 h2 h3 h4;refine cU [(0,.cptr (Cr x ifs roots d)),(1,sl AN k),(2,sl Ag before),(3,sl Ac needs),(9,.ref 9 0),(12,vi (plc r.ver)),(15,.ref 15 0),(16,.ref 16 0),(29,sl Am x),(30,vi (x.map Am).length),(31,vi i)] [(9,.ro (Am r)),(15,.cells (Am x[i])),(16,.ro [vi (plc x[i].ver)])] Z11 Z3 (Yi ?_ ?_)
  .intro hh;have hh:((k.map AN).length:Int)=0:=hh;refine Yi aa3 ?_;have e:P=([],false):=by rw[i4,show k=[]from Aw (by simp_all)];rfl
   exact KY.trans (.of_eq (show aG ([],false)=aG P by rw[e]))
  intro hk;have hk:¬((k.map AN).length:Int)=0:=hk;refine Al (show ∃y k',k=y::k' by cases k<;>simp_all) (fun y hy=>?_)
  refine Al hy (fun k' hy=>?_);have pS:(k.map AN)[(0:Int).toNat]?=some (AN y):=by simp_all
  have i5:P=XX d ⟨before,needs,r⟩ x[i] (x.drop (i+1)) (y::k'):=by simp_all
  refine Xi (AN y) (Yi (Yi aa2 pS) (Yi rfl (Yi ?_ ?_)))
  .intro hh;have hh:y.path≠r.path:=hh;refine Yi aa3 ?_;have e:P=([],false):=by rw[i5];show(if _ then _ else _)=_;simp_all
   exact KY.trans (.of_eq (show aG ([],false)=aG P by rw[e]))
  intro h5;have h5:¬y.path≠r.path:=h5;have h5:y.path=r.path:=Cc.1 h5;refine Xi (AN y) (Yi (Yi aa2 pS) (Yi rfl (Yi ?_ ?_)))
  .intro hh;have hh:y.place≠plc x[i].ver:=hh;refine Yi aa3 ?_;have e:P=([],false):=by rw[i5];show(if _ then _ else _)=_;simp_all
   exact KY.trans (.of_eq (show aG ([],false)=aG P by rw[e]))
  intro h6;have h6:¬y.place≠plc x[i].ver:=h6;have h6:y.place=plc x[i].ver:=Cc.1 h6;have i6:P=match DG d y.inf with | none=>([],false) | some t=>if Bm t (before++[Cq x[i]])then DJ d ⟨before,needs,r⟩ (x.drop (i+1)) k' else([],false):=by
   rw[i5];show(if _ then _ else _)=_;simp_all
  refine Xi (AN y) (Yi (Yi aa2 pS) (Yi rfl (Yi ?_ ?_)))
  .intro hh;have hh:y.inf<0:=hh;refine Yi aa3 ?_;have e:P=([],false):=by grind [DG]
   exact KY.trans (.of_eq (show aG ([],false)=aG P by rw[e]))
  intro h7;have h7:¬y.inf<0:=h7;refine Xi (AN y) (Yi (Yi aa2 pS) (Yi rfl (Yi ?_ ?_)))
  .intro hh;have hh:((d.map Aq).length:Int)<=y.inf:=hh;refine Yi aa3 ?_;have e:P=([],false):=by grind [DG]
   exact KY.trans (.of_eq (show aG ([],false)=aG P by rw[e]))
  intro h8;have h8:¬((d.map Aq).length:Int)<=y.inf:=h8;rw[Lm]at h8;refine Yi aa3 (Al (show ∃j:Nat,y.inf=j from⟨y.inf.toNat,by omega⟩) (fun j hj=>?_));have zA:j<d.length:=by omega
  have zv:d[j]?=some d[j]:=Ge zA;have Acm:DG d y.inf=some d[j]:=by grind [DG]
  rw[Acm]at i6;have i6:P=if Bm d[j] (before++[Cq x[i]])then DJ d ⟨before,needs,r⟩ (x.drop (i+1)) k' else([],false):=i6
  refine cU [(0,.cptr (Cr x ifs roots d)),(1,sl AN k),(2,sl Ag before),(3,sl Ac needs),(9,.ref 9 0),(12,vi (plc r.ver)),(15,.ref 15 0),(29,sl Am x),(30,vi (x.map Am).length),(31,vi i)] [(9,.ro (Am r)),(15,.cells (Am x[i]))] Z10 Z2 (Xi 4 (Xi (before.map Ag) (Yi rfl (Yi (sT before hbf) (yN ?_)))));have CO:A7 4 [[vs x[i].path,vi x[i].ver.a,vi x[i].ver.b,vi x[i].ver.c]]/\(before.map Ag).length=(before.map Ag).length/\((before.map Ag).length+[[vs x[i].path,vi x[i].ver.a,vi x[i].ver.b,vi x[i].ver.c]].length)*40<=140737488355328/\(before.map Ag).length+[[vs x[i].path,vi x[i].ver.a,vi x[i].ver.b,vi x[i].ver.c]].length<=9223372036854775807:=
   ⟨⟨rfl,trivial⟩,rfl,by grind,by grind⟩
  refine Yi CO (Yi aa3 (cU [(0,.cptr (Cr x ifs roots d)),(1,sl AN k),(2,sl Ag before),(3,sl Ac needs),(9,.ref 9 0),(12,vi (plc r.ver)),(18,.slice (.id 19800 4) (before.map Ag++[[vs x[i].path,vi x[i].ver.a,vi x[i].ver.b,vi x[i].ver.c]])),(29,sl Am x),(30,vi (x.map Am).length),(31,vi i)] [(9,.ro (Am r)),(19800,.tok 4 ((before.map Ag).length+[[vs x[i].path,vi x[i].ver.a,vi x[i].ver.b,vi x[i].ver.c]].length))] Z10 Z2 ?_))
  have bI:PC 101 [sl Ad d[j],.slice .none (before.map Ag++[[vs x[i].path,vi x[i].ver.a,vi x[i].ver.b,vi x[i].ver.c]])] (vb (Bm d[j] (before++[Cq x[i]]))):=by
   have:=c91 d[j] (before++[Cq x[i]]) (ht _ (Ak zA)) (by grind)
   grind [Cq]
  have zy:(d.map Aq)[y.inf.toNat]?=some (Aq d[j]):=by simp_all
  refine Xi (AN y) (Yi (Yi aa2 pS) (Yi rfl (Xi (Aq d[j]) (Yi (Yi aa0 zy) (Yi rfl (AA (Bt (Bm d[j] (before++[Cq x[i]]))) (fun h9=>?_) (fun h9=>?_)))))))
  .rw[h9]at bI;refine Xi _ (Yi (bI) (Yi aa3 ?_));rw[AX h9]at i6;have lD:1<=(k.map AN).length:=by omega
   refine cU [(0,.cptr (Cr x ifs roots d)),(1,sl AN k),(2,sl Ag before),(3,sl Ac needs),(9,.ref 9 0),(12,vi (plc r.ver)),(29,sl Am x),(30,vi (x.map Am).length),(31,vi i)] [(9,.ro (Am r))] Z9 Z1 ?_;refine Yi (by grind) (Yi (fun c hc=>by
    obtain⟨z,_,rfl⟩:=Ar.1 hc;rfl) ?_)
   have ek:AV.slice .none (((k.map AN).take ((k.map AN).length:Int).toNat).drop (1:Int).toNat)=sl AN k':=by grind [ja]
   refine cU [(0,.cptr (Cr x ifs roots d)),(1,sl AN k'),(2,sl Ag before),(3,sl Ac needs),(9,.ref 9 0),(12,vi (plc r.ver)),(29,sl Am x),(30,vi (x.map Am).length),(31,vi i)] [(9,.ro (Am r))] ⟨Zr,⟨ek,rfl⟩,Zr,Zr,Zr,Zr,Zr,Zr,Zr,Tv⟩ Z1 (Yi (Ii i aa0) (Xi ⟨(i+1,k'),by omega,i6⟩ ?_));exact⟨by grind,Z9,Z1,Fh,Tv⟩
  .rw[h9]at bI;refine Xi _ (Yi (bI) (Yi aa3 ?_));have e:P=([],false):=by simp_all
   exact KY.trans (.of_eq (show aG ([],false)=aG P by rw[e]))
 .intro h;have h:¬(i:Int)<(x.map Am).length:=h;have h:¬i<x.length:=by simp_all
  have e:P=(k,true):=by rw[i2,HF aa0];rfl
  exact .of_eq (show aG (k,true)=aG P by rw[e])
abbrev sH(a:Bool×List Sk):List (Nat×HO):=[(1000,.cells [sl AN a.2]),(1001,.cells [vb a.1])]
theorem c46(ifs:AV)(roots:List Rq)(d:List (List Tm))(a:Bool×List Sk)(before:List Sl)(needs:List Rq)(r:Rl)(hx:x.length<=256)(hd:d.length<=65536)(ht:∀t∈d,PT t)(hb:before.length<=1000)(hn:BL needs)(hq:∀q∈needs,BL q.set) :
  A6 Tryz.prog 52 [sl Ag before,sl Ac needs,.agg (Am r),.cptr [.cptr (Cr x ifs roots d)],.ref 1000 0,.ref 1001 0] (Af (sH a) Ae) fun v h'=>v=.tup []/\h'=Af (sH (Ci x d a ⟨before,needs,r⟩)) Ae:=by
 obtain⟨b,k⟩:=a;have hc:=c47 x ifs roots d k before needs r hx hd ht hb hn hq;obtain⟨p,hp⟩:∃p,p=DJ d ⟨before,needs,r⟩ x k:=⟨_,rfl⟩;have es:Ci x d (b,k) ⟨before,needs,r⟩=(b&&p.2&&!r.yanked,p.1):=by grind [Ci]
 rw[<-hp]at hc;rw[es];obtain⟨k2,ok⟩:=p;have fin:∀z:Bool,z=(b&&ok&&!r.yanked)->Af (sH (z,k2)) Ae=Af (sH (b&&(k2,ok).2&&!r.yanked,(k2,ok).1)) Ae:=fun z hz=>by rw[hz]
 cases ok with
 |false=>
  refine Bi (IB De) [(1000,1000),(1001,1001)] rfl Bz hm rfl Tryz.func52 aa3 rfl (Nz rfl) aa3 rfl (yN (Xi .pure (Xi _ (Yi (hc) (Yi ?_ ?_)))))
  .intro h1;refine yN (yN ?_);exact Xi _ (Yi (.refl _) (Yi rfl (fin false (by simp_all))))
  .intro h1;refine yN (yN ?_);exact Xi _ (Yi (.refl _) (Yi rfl (fin false (by simp_all))))
 |true=>
  refine Bi (IB De) [(1000,1000),(1001,1001)] rfl Bz hm rfl Tryz.func52 aa3 rfl (Nz rfl) aa3 rfl (yN (Xi .pure (Xi _ (Yi (hc) (Yi ?_ ?_)))))
  .intro h1;have h1:b=true:=h1;refine Yi ?_ ?_
   .intro h2;have h2:r.yanked=true:=h2;refine yN (yN ?_);exact Xi _ (Yi (.refl _) (Yi rfl (fin false (by simp_all))))
   .intro h2;have h2:r.yanked=false:=h2;refine yN (yN ?_);exact Xi _ (Yi (.refl _) (Yi rfl (fin true (by simp_all))))
  .intro h1;have h1:b=false:=h1;refine yN (yN ?_);exact Xi _ (Yi (.refl _) (Yi rfl (fin false (by simp_all))))
def Cu(acc:Option ByteArray)(q:Rq):Option ByteArray:=if BS before q.path then acc else match acc with
  |none=>some q.path
  |some p=>if Fp q.path p then some q.path else some p
theorem NQ(before:List Sl):∀(a b:List Rq) (acc:Option ByteArray),CE before (a++b) acc=CE before b (CE before a acc)
 | [],_,_=>rfl
 |q::a,b,acc=>NQ before a b (if BS before q.path then acc else match acc with |none=>some q.path |some p=>if Fp q.path p then some q.path else some p)
theorem Hz(l:List Rq)(acc:Option ByteArray){j:Nat}(h:j<l.length):CE before (l.take (j+1)) acc=Cu before (CE before (l.take j) acc) l[j]:=by
 rw[Ck,Ge h];show CE before (l.take j++[l[j]]) acc=_;rw[NQ];rfl
structure DI{S:Type}(x:List Rl)(roots:List Rq)(s:List Sl)(step:S->WT->S)(UW:S)(before:List Sl)(needs:List Rq)(n:Nat)(st:S):Prop where
 nd:(before.map (·.path)).Nodup
 sub:∀y∈before,y∈s
 fuel:before.length+n=s.length+1
 few:∀q∈needs,BL q.set
 len:needs.length<=roots.length+16*before.length
 ok:(visits x roots s).2=(D3 x s n before needs).2
 fold:(visits x roots s).1.foldl step UW=(D3 x s n before needs).1.foldl step st
section
variable {S:Type}{x:List Rl}{roots:List Rq}{s:List Sl}{step:S->WT->S}{UW:S}{before:List Sl}{needs:List Rq}{n:Nat}{st:S}
theorem DI.start(hq:∀q∈roots,BL q.set)(UW:S):DI x roots s step UW [] roots (s.length+1) UW:=
 ⟨by simp,fun _ h=>(by cases h),by simp,hq,by simp,rfl,rfl⟩
theorem DI.lt(h:DI x roots s step UW before needs n st):before.length<=s.length:=by
 have:=CM (m:=s.map (·.path)) h.nd fun p hp=>by
  grind [DI.sub]
 simp_all
theorem DI.pos(h:DI x roots s step UW before needs n st):∃m,n=m+1:=by
 have:=h.lt
 have:=h.fuel
 exact⟨n-1,by omega⟩
theorem DI.stop{m:Nat}(h:DI x roots s step UW before needs (m+1) st)(hp:DF needs before=none):(visits x roots s).2=true/\(visits x roots s).1.foldl step UW=st:=by
 have h1:=h.ok;have h2:=h.fold
 grind [D3]
theorem DI.lost{m:Nat}(h:DI x roots s step UW before needs (m+1) st)(hp:DF needs before=some p)(hf:AB s p=none):(visits x roots s).2=false/\(visits x roots s).1.foldl step UW=st:=by
 have h1:=h.ok;have h2:=h.fold
 grind [D3]
theorem DI.gone{m:Nat}(h:DI x roots s step UW before needs (m+1) st){y:Sl}(hp:DF needs before=some p)(hf:AB s p=some y)(hr:Bo x y=none):(visits x roots s).2=false/\(visits x roots s).1.foldl step UW=st:=by
 have h1:=h.ok;have h2:=h.fold
 grind [D3]
theorem DI.next{m:Nat}(h:DI x roots s step UW before needs (m+1) st){y:Sl}{r:Rl}(hp:DF needs before=some p)(hf:AB s p=some y)(hr:Bo x y=some r)(hl:r.reqs.length<=16)(hq:∀q∈r.reqs,BL q.set) :
  DI x roots s step UW (before++[y]) (needs++r.reqs) m (step st ⟨before,needs,r⟩):=by
 have h1:=h.ok;have h2:=h.fold;unfold D3 at h1 h2;rw[hp]at h1 h2;simp only[hf,hr]at h1 h2;obtain⟨g1,g2⟩:=In hp<;>grind [GS,JY,E0,DI.mk,DI.nd,DI.sub,DI.fuel,DI.few,DI.len]
end
theorem gT(s:List Sl)(p:ByteArray):(KJ (fun y:Sl=>decide (y.path=p)) s 0=-1/\AB s p=none)\/∃i y,KJ (fun y:Sl=>decide (y.path=p)) s 0=(i:Nat)/\s[i]?=some y/\AB s p=some y:=by
 rcases MA (p:=fun y:Sl=>decide (y.path=p)) s 0 with h | ⟨i,y,h1,h2,h3⟩
 .exact .inl h
 .exact .inr ⟨i,y,by omega,h2,h3⟩
abbrev Ad0:Md:=⟨[12],[(8,4)],[],[(49,[9])],[],[],[],[],[],[],[3,8,9,11,12,14,15,17,18,20,21]⟩
theorem Ab2(d:List (List Tm))(s:List Sl)(UW:Bool×List Sk)(TE:jr x ifs)(h0:Av x=0)(hx:∀r∈x,E4 r)(Jh:roots.length<=1000)(Vj:∀q∈roots,BL q.set)(hs:s.length<=500)(hd:d.length<=65536)(ht:∀t∈d,PT t) :
  A6 Tryz.prog 42 [.cptr (Cr x (.slice .none ifs) roots d),sl Ag s,.clo 52 [.cptr [.cptr (Cr x (.slice .none ifs) roots d)],.ref 1000 0,.ref 1001 0]] (Af (sH UW) Ae) fun r h'=>r=vb (visits x roots s).2/\h'=Af (sH ((visits x roots s).1.foldl (Ci x d) UW)) Ae:=by
 have p5:=(Fb h0).2;have vu:BL roots:=by omega
 refine Bi (IB Ad0) [(1000,1000),(1001,1001)] rfl Bz hm rfl Tryz.func42 aa3 rfl (Nz rfl) aa3 rfl (Xi (.gen [] 1) (Yi rfl ((sU roots vu).imp ?_)));intro v g q;have q1:=q.1;have q2:=q.2;subst q1;subst q2
 clear q
 refine Xi {p:List Sl×List Rq×Nat×Bool×List Sk // DI x roots s (Ci x d) UW p.1 p.2.1 p.2.2.1 p.2.2.2} (Xi (fun p=>⟨[(0,.cptr (Cr x (.slice .none ifs) roots d)),(1,sl Ag s),(2,.clo 52 [.cptr [.cptr (Cr x (.slice .none ifs) roots d)],.ref 1000 0,.ref 1001 0]),(7,.slice (.id 12100 2) (p.1.2.1.map Ac)),(8,.slice (.id 8 4) (p.1.1.map Ag))],[(8,.tok 4 (p.1.1.map Ag).length),(12100,.tok 2 (p.1.2.1.map Ac).length),(1000,.cells [sl AN p.1.2.2.2.2]),(1001,.cells [vb p.1.2.2.2.1])],Ae⟩) (Xi (fun p=>p.1.2.2.1) (Yi (Xi ⟨([],roots,s.length+1,UW),DI.start Vj UW⟩ ?_) ?_)))
 .exact⟨Z5,Z4,Fh,Bg aa3⟩
 intro⟨⟨before,needs,n,st⟩,inv⟩;have inv:DI x roots s (Ci x d) UW before needs n st:=inv;refine Al inv.pos (fun m xQ=>?_);have inv:DI x roots s (Ci x d) UW before needs (m+1) st:=xQ▸inv;have hbl:=inv.lt;have hnl:=inv.len;have xV:BL needs:=by omega
 have hbf:BL before:=by omega
 refine cU [(0,.cptr (Cr x (.slice .none ifs) roots d)),(1,sl Ag s),(2,.clo 52 [.cptr [.cptr (Cr x (.slice .none ifs) roots d)],.ref 1000 0,.ref 1001 0]),(7,.slice (.id 12100 2) (needs.map Ac)),(8,.slice (.id 8 4) (before.map Ag))] [(8,.tok 4 (before.map Ag).length),(12100,.tok 2 (needs.map Ac).length),(1000,.cells [sl AN st.2]),(1001,.cells [vb st.1])] Z5 Z4 (yN (Xi {p:Nat×Option ByteArray // p.1<=needs.length/\p.2=CE before (needs.take p.1) none} (Xi (fun p=>⟨[(0,.cptr (Cr x (.slice .none ifs) roots d)),(1,sl Ag s),(2,.clo 52 [.cptr [.cptr (Cr x (.slice .none ifs) roots d)],.ref 1000 0,.ref 1001 0]),(7,.slice (.id 12100 2) (needs.map Ac)),(8,.slice (.id 8 4) (before.map Ag)),(9,.ref 9 0),(10,vb p.1.2.isSome),(22,.slice (.id 12100 2) (needs.map Ac)),(23,vi (needs.map Ac).length),(24,vi p.1.1)],[(8,.tok 4 (before.map Ag).length),(12100,.tok 2 (needs.map Ac).length),(1000,.cells [sl AN st.2]),(1001,.cells [vb st.1]),(9,.cells [vs (p.1.2.getD mt)])],Ae⟩) (Xi (fun p=>needs.length-p.1.1) (Yi (Xi ⟨(0,none),Ap _,rfl⟩ ?_) ?_)))))
 .exact⟨Z10,Z5,Fh,Bg aa3⟩
 intro⟨⟨j,acc⟩,j1,j2⟩;have j1:j<=needs.length:=j1;have j2:acc=CE before (needs.take j) none:=j2;refine Yi ?_ ?_
 .intro h;have h:(j:Int)<(needs.map Ac).length:=h;have h:j<needs.length:=by simp_all
  have hg:needs[j]?=some needs[j]:=Ge h;have jz:=Hz before needs none h;rw[<-j2]at jz;refine Xi (Ac needs[j]) (Yi (Yi aa0 (by simp_all)) (Yi rfl ?_));refine Yi (Nz rfl) (yN (cU [(0,.cptr (Cr x (.slice .none ifs) roots d)),(1,sl Ag s),(2,.clo 52 [.cptr [.cptr (Cr x (.slice .none ifs) roots d)],.ref 1000 0,.ref 1001 0]),(7,.slice (.id 12100 2) (needs.map Ac)),(8,.slice (.id 8 4) (before.map Ag)),(9,.ref 9 0),(10,vb acc.isSome),(12,.ref 12 0),(22,.slice (.id 12100 2) (needs.map Ac)),(23,vi (needs.map Ac).length),(24,vi j)] [(8,.tok 4 (before.map Ag).length),(12100,.tok 2 (needs.map Ac).length),(1000,.cells [sl AN st.2]),(1001,.cells [vb st.1]),(9,.cells [vs (acc.getD mt)]),(12,.ro (Ac needs[j]))] Z11 Z6 ?_))
  have pI:PC 80 [sl Ag before,.clo 81 [.cptr (Ac needs[j])]] (vb (BS before needs[j].path)):=c51 (fF:=81) (caps:=[.cptr (Ac needs[j])]) (fun c hc=>by
   obtain rfl:=AD.1 hc;intro h;rfl) before (fun y=>decide (y.path=needs[j].path)) (fun y _=>c77 y needs[j]) hbf
  refine AA (Bt (BS before needs[j].path)) (fun hd=>?_) (fun hd=>?_)
  .rw[hd]at pI;refine Xi .pure (Xi _ (Yi (pI) ?_));have Gw:Cu before acc needs[j]=acc:=by unfold Cu;simp_all
   refine cU [(0,.cptr (Cr x (.slice .none ifs) roots d)),(1,sl Ag s),(2,.clo 52 [.cptr [.cptr (Cr x (.slice .none ifs) roots d)],.ref 1000 0,.ref 1001 0]),(7,.slice (.id 12100 2) (needs.map Ac)),(8,.slice (.id 8 4) (before.map Ag)),(9,.ref 9 0),(10,vb acc.isSome),(13,vb true),(22,.slice (.id 12100 2) (needs.map Ac)),(23,vi (needs.map Ac).length),(24,vi j)] [(8,.tok 4 (before.map Ag).length),(12100,.tok 2 (needs.map Ac).length),(1000,.cells [sl AN st.2]),(1001,.cells [vb st.1]),(9,.cells [vs (acc.getD mt)])] Z11 Z5 (cU [(0,.cptr (Cr x (.slice .none ifs) roots d)),(1,sl Ag s),(2,.clo 52 [.cptr [.cptr (Cr x (.slice .none ifs) roots d)],.ref 1000 0,.ref 1001 0]),(7,.slice (.id 12100 2) (needs.map Ac)),(8,.slice (.id 8 4) (before.map Ag)),(9,.ref 9 0),(10,vb (Cu before acc needs[j]).isSome),(22,.slice (.id 12100 2) (needs.map Ac)),(23,vi (needs.map Ac).length),(24,vi j)] [(8,.tok 4 (before.map Ag).length),(12100,.tok 2 (needs.map Ac).length),(1000,.cells [sl AN st.2]),(1001,.cells [vb st.1]),(9,.cells [vs ((Cu before acc needs[j]).getD mt)])] ⟨Zr,Zr,Zr,Zr,Zr,Zr,⟨Aa vb (Aa Option.isSome Gw.symm),rfl⟩,Zr,Zr,Zr,Tv⟩ ⟨Zr,Zr,Zr,Zr,⟨Aa (fun a=>HO.cells [vs (Option.getD a mt)]) Gw.symm,rfl⟩,Tv⟩ (Yi (by show As ((j:Int)+1);grind [As]) (Xi ⟨(j+1,Cu before acc needs[j]),by omega,jz.symm⟩ ?_)));exact⟨by grind,Z10,Z5,Fh,Bg aa3⟩
  rw[hd]at pI;refine Xi .pure (Xi _ (Yi (pI) ?_));refine AA (show acc=none\/∃p,acc=some p by cases acc<;>grind) (fun ha=>?_) (fun ha=>?_)
  .have Gw:Cu before acc needs[j]=some needs[j].path:=by grind [Cu]
   refine cU [(0,.cptr (Cr x (.slice .none ifs) roots d)),(1,sl Ag s),(2,.clo 52 [.cptr [.cptr (Cr x (.slice .none ifs) roots d)],.ref 1000 0,.ref 1001 0]),(7,.slice (.id 12100 2) (needs.map Ac)),(8,.slice (.id 8 4) (before.map Ag)),(9,.ref 9 0),(10,vb false),(12,.ref 12 0),(13,vb false),(22,.slice (.id 12100 2) (needs.map Ac)),(23,vi (needs.map Ac).length),(24,vi j)] [(8,.tok 4 (before.map Ag).length),(12100,.tok 2 (needs.map Ac).length),(1000,.cells [sl AN st.2]),(1001,.cells [vb st.1]),(9,.cells [vs mt]),(12,.ro (Ac needs[j]))] ⟨Zr,Zr,Zr,Zr,Zr,Zr,⟨by show vb acc.isSome=vb false;grind,rfl⟩,Zr,Zr,Zr,Zr,Zr,Tv⟩ ⟨Zr,Zr,Zr,Zr,⟨by show HO.cells [vs (acc.getD mt)]=HO.cells [vs mt];grind,rfl⟩,Zr,Tv⟩ ?_
   refine yN (cU [(0,.cptr (Cr x (.slice .none ifs) roots d)),(1,sl Ag s),(2,.clo 52 [.cptr [.cptr (Cr x (.slice .none ifs) roots d)],.ref 1000 0,.ref 1001 0]),(7,.slice (.id 12100 2) (needs.map Ac)),(8,.slice (.id 8 4) (before.map Ag)),(9,.ref 9 0),(10,vb (Cu before acc needs[j]).isSome),(22,.slice (.id 12100 2) (needs.map Ac)),(23,vi (needs.map Ac).length),(24,vi j)] [(8,.tok 4 (before.map Ag).length),(12100,.tok 2 (needs.map Ac).length),(1000,.cells [sl AN st.2]),(1001,.cells [vb st.1]),(9,.cells [vs ((Cu before acc needs[j]).getD mt)])] ⟨Zr,Zr,Zr,Zr,Zr,Zr,⟨by show vb true=_;grind,rfl⟩,Zr,Zr,Zr,Tv⟩ ⟨Zr,Zr,Zr,Zr,⟨by show HO.cells [vs needs[j].path]=_;grind,rfl⟩,Tv⟩ ?_)
   refine Yi (by grind [As]) (Xi ⟨(j+1,Cu before acc needs[j]),by omega,jz.symm⟩ ?_);exact⟨by grind,Z10,Z5,Fh,Bg aa3⟩
  refine Al ha (fun p ha=>?_);refine cU [(0,.cptr (Cr x (.slice .none ifs) roots d)),(1,sl Ag s),(2,.clo 52 [.cptr [.cptr (Cr x (.slice .none ifs) roots d)],.ref 1000 0,.ref 1001 0]),(7,.slice (.id 12100 2) (needs.map Ac)),(8,.slice (.id 8 4) (before.map Ag)),(9,.ref 9 0),(10,vb true),(12,.ref 12 0),(13,vb false),(22,.slice (.id 12100 2) (needs.map Ac)),(23,vi (needs.map Ac).length),(24,vi j)] [(8,.tok 4 (before.map Ag).length),(12100,.tok 2 (needs.map Ac).length),(1000,.cells [sl AN st.2]),(1001,.cells [vb st.1]),(9,.cells [vs p]),(12,.ro (Ac needs[j]))] ⟨Zr,Zr,Zr,Zr,Zr,Zr,⟨by show vb acc.isSome=vb true;grind,rfl⟩,Zr,Zr,Zr,Zr,Zr,Tv⟩ ⟨Zr,Zr,Zr,Zr,⟨by show HO.cells [vs (acc.getD mt)]=HO.cells [vs p];grind,rfl⟩,Zr,Tv⟩ ?_
  refine Yi ?_ ?_
  .intro hb;have hb:Op.bytesLess needs[j].path.toList p.toList=true:=hb;rw[<-Ew]at hb;have Gw:Cu before acc needs[j]=some needs[j].path:=by grind [Cu]
   refine yN (cU [(0,.cptr (Cr x (.slice .none ifs) roots d)),(1,sl Ag s),(2,.clo 52 [.cptr [.cptr (Cr x (.slice .none ifs) roots d)],.ref 1000 0,.ref 1001 0]),(7,.slice (.id 12100 2) (needs.map Ac)),(8,.slice (.id 8 4) (before.map Ag)),(9,.ref 9 0),(10,vb (Cu before acc needs[j]).isSome),(22,.slice (.id 12100 2) (needs.map Ac)),(23,vi (needs.map Ac).length),(24,vi j)] [(8,.tok 4 (before.map Ag).length),(12100,.tok 2 (needs.map Ac).length),(1000,.cells [sl AN st.2]),(1001,.cells [vb st.1]),(9,.cells [vs ((Cu before acc needs[j]).getD mt)])] ⟨Zr,Zr,Zr,Zr,Zr,Zr,⟨by show vb true=_;simp_all,rfl⟩,Zr,Zr,Zr,Tv⟩ ⟨Zr,Zr,Zr,Zr,⟨by show HO.cells [vs needs[j].path]=_;simp_all,rfl⟩,Tv⟩ ?_)
   refine Yi (by grind [As]) (Xi ⟨(j+1,Cu before acc needs[j]),by omega,jz.symm⟩ ?_);exact⟨by grind,Z10,Z5,Fh,Bg aa3⟩
  .intro hb;have hb:¬Op.bytesLess needs[j].path.toList p.toList=true:=hb;rw[<-Ew]at hb;have Gw:Cu before acc needs[j]=some p:=by grind [Cu]
   refine cU [(0,.cptr (Cr x (.slice .none ifs) roots d)),(1,sl Ag s),(2,.clo 52 [.cptr [.cptr (Cr x (.slice .none ifs) roots d)],.ref 1000 0,.ref 1001 0]),(7,.slice (.id 12100 2) (needs.map Ac)),(8,.slice (.id 8 4) (before.map Ag)),(9,.ref 9 0),(10,vb (Cu before acc needs[j]).isSome),(22,.slice (.id 12100 2) (needs.map Ac)),(23,vi (needs.map Ac).length),(24,vi j)] [(8,.tok 4 (before.map Ag).length),(12100,.tok 2 (needs.map Ac).length),(1000,.cells [sl AN st.2]),(1001,.cells [vb st.1]),(9,.cells [vs ((Cu before acc needs[j]).getD mt)])] ⟨Zr,Zr,Zr,Zr,Zr,Zr,⟨by show vb true=_;grind,rfl⟩,Zr,Zr,Zr,Tv⟩ ⟨Zr,Zr,Zr,Zr,⟨by show HO.cells [vs p]=_;grind,rfl⟩,Tv⟩ ?_
   refine Yi (by grind [As]) (Xi ⟨(j+1,Cu before acc needs[j]),by omega,jz.symm⟩ ?_);exact⟨by grind,Z10,Z5,Fh,Bg aa3⟩
 intro h;have h:¬(j:Int)<(needs.map Ac).length:=h;have h:¬j<needs.length:=by simp_all
 have vf:DF needs before=acc:=by rw[j2,Bd aa0];rfl
 refine AA (show acc=none\/∃p,acc=some p by cases acc<;>grind) (fun ha=>?_) (fun ha=>?_)
 .have YY:=inv.stop (vf.trans ha);refine cU [(10,vb false)] [(1000,.cells [sl AN st.2]),(1001,.cells [vb st.1])] ⟨⟨by show vb acc.isSome=vb false;grind,rfl⟩,Tv⟩ Z2 ?_
  exact Xi _ (Yi (.refl _) (Yi (Aa vb YY.1.symm) (Aa (fun a=>Af (sH a) Ae) YY.2.symm)))
 refine Al ha (fun p ha=>?_);have vf:DF needs before=some p:=vf.trans ha;refine cU [(0,.cptr (Cr x (.slice .none ifs) roots d)),(1,sl Ag s),(2,.clo 52 [.cptr [.cptr (Cr x (.slice .none ifs) roots d)],.ref 1000 0,.ref 1001 0]),(7,.slice (.id 12100 2) (needs.map Ac)),(8,.slice (.id 8 4) (before.map Ag)),(9,.ref 9 0),(10,vb true)] [(8,.tok 4 (before.map Ag).length),(12100,.tok 2 (needs.map Ac).length),(1000,.cells [sl AN st.2]),(1001,.cells [vb st.1]),(9,.cells [vs p])] ⟨Zr,Zr,Zr,Zr,Zr,Zr,⟨by show vb acc.isSome=vb true;grind,rfl⟩,Tv⟩ ⟨Zr,Zr,Zr,Zr,⟨by show HO.cells [vs (acc.getD mt)]=HO.cells [vs p];grind,rfl⟩,Tv⟩ ?_
 refine cU [(0,.cptr (Cr x (.slice .none ifs) roots d)),(1,sl Ag s),(2,.clo 52 [.cptr [.cptr (Cr x (.slice .none ifs) roots d)],.ref 1000 0,.ref 1001 0]),(7,.slice (.id 12100 2) (needs.map Ac)),(8,.slice (.id 8 4) (before.map Ag)),(9,.ref 9 0)] [(8,.tok 4 (before.map Ag).length),(12100,.tok 2 (needs.map Ac).length),(1000,.cells [sl AN st.2]),(1001,.cells [vb st.1]),(9,.cells [vs p])] Z6 Z5 ?_
 have pK:=c78 (fF:=83) (caps:=[.cptr [vs p]]) (fun c hc=>by
  obtain rfl:=AD.1 hc;intro h;rfl) s (fun y=>decide (y.path=p)) (fun y _=>c79 y p) aa0
 refine AA (gT s p) (fun hi=>?_) (fun hi=>?_)
 .rw[hi.1]at pK;have YY:=inv.lost vf hi.2;refine Xi .pure (Xi _ (Yi (pK) (cU [(14,vi (-1))] [(1000,.cells [sl AN st.2]),(1001,.cells [vb st.1])] Z1 Z2 (Yi ?_ ?_))))
  .intro _;exact Xi _ (Yi (.refl _) (Yi (Aa vb YY.1.symm) (Aa (fun a=>Af (sH a) Ae) YY.2.symm)))
  .intro hc;exact absurd (show((-1:Int)<0) by decide) hc
 refine Al hi (fun i hi=>?_);refine Al hi (fun y hi=>?_);have hi2:=hi.2.1;have hi3:=hi.2.2;rw[hi.1]at pK;refine Xi .pure (Xi _ (Yi (pK) (cU [(0,.cptr (Cr x (.slice .none ifs) roots d)),(1,sl Ag s),(2,.clo 52 [.cptr [.cptr (Cr x (.slice .none ifs) roots d)],.ref 1000 0,.ref 1001 0]),(7,.slice (.id 12100 2) (needs.map Ac)),(8,.slice (.id 8 4) (before.map Ag)),(14,vi i)] [(8,.tok 4 (before.map Ag).length),(12100,.tok 2 (needs.map Ac).length),(1000,.cells [sl AN st.2]),(1001,.cells [vb st.1])] Z6 Z4 (Yi ?_ ?_))))
 .intro hc;exact absurd (show((i:Int)<0)from hc) aa0
 intro _;refine cU [(0,.cptr (Cr x (.slice .none ifs) roots d)),(1,sl Ag s),(2,.clo 52 [.cptr [.cptr (Cr x (.slice .none ifs) roots d)],.ref 1000 0,.ref 1001 0]),(7,.slice (.id 12100 2) (needs.map Ac)),(8,.slice (.id 8 4) (before.map Ag)),(14,vi i)] [(8,.tok 4 (before.map Ag).length),(12100,.tok 2 (needs.map Ac).length),(1000,.cells [sl AN st.2]),(1001,.cells [vb st.1])] Z6 Z4 ?_
 have hgy:(s.map Ag)[(i:Int).toNat]?=some (Ag y):=by simp_all
 have Vg:PC 84 [Il x ifs,vs y.path,.agg (ES y.ver)] (H4 (Bo x y)):=c53 x ifs y.path y.ver TE hx;refine yN (Xi (Ag y) (Yi (Yi aa0 hgy) (Yi rfl (Xi (Ag y) (Yi (Yi aa0 hgy) (Yi rfl (yN (AA (show Bo x y=none\/∃r,Bo x y=some r by grind) (fun hr=>?_) (fun hr=>?_)))))))))
 .rw[hr]at Vg;have YY:=inv.gone vf hi3 hr;refine Xi _ (Yi (Vg) (yN (Yi aa3 (cU [(16,vb false)] [(1000,.cells [sl AN st.2]),(1001,.cells [vb st.1])] Z1 Z2 ?_))))
  exact Xi _ (Yi (.refl _) (Yi (Aa vb YY.1.symm) (Aa (fun a=>Af (sH a) Ae) YY.2.symm)))
 refine Al hr (fun r hr=>?_);rw[hr]at Vg;refine Xi _ (Yi (Vg) (yN (Yi aa3 ?_)));have hrx:r∈x:=(CH hr).2.1;have Ac5:=inv.next vf hi3 hr (p5 r hrx) (fun q hq=>((hx r hrx).2 q hq).1)
 refine cU [(0,.cptr (Cr x (.slice .none ifs) roots d)),(1,sl Ag s),(2,.clo 52 [.cptr [.cptr (Cr x (.slice .none ifs) roots d)],.ref 1000 0,.ref 1001 0]),(7,.slice (.id 12100 2) (needs.map Ac)),(8,.slice (.id 8 4) (before.map Ag)),(14,vi i),(15,.ref 15 0),(16,vb true)] [(8,.tok 4 (before.map Ag).length),(12100,.tok 2 (needs.map Ac).length),(1000,.cells [sl AN st.2]),(1001,.cells [vb st.1]),(15,.cells (Am r))] Z8 Z5 (cU [(0,.cptr (Cr x (.slice .none ifs) roots d)),(1,sl Ag s),(2,.clo 52 [.cptr [.cptr (Cr x (.slice .none ifs) roots d)],.ref 1000 0,.ref 1001 0]),(7,.slice (.id 12100 2) (needs.map Ac)),(8,.slice (.id 8 4) (before.map Ag)),(14,vi i),(15,.ref 15 0)] [(8,.tok 4 (before.map Ag).length),(12100,.tok 2 (needs.map Ac).length),(1000,.cells [sl AN st.2]),(1001,.cells [vb st.1]),(15,.cells (Am r))] Z7 Z5 (yN ?_));have AcP:=c46 x (.slice .none ifs) roots d st before needs r (Fb h0).1 hd ht aa0 xV inv.few;refine Xi (.gen [(1000,1000),(1001,1001)] 0) (Yi rfl (AcP.imp ?_));intro v g q;have q1:=q.1;have q2:=q.2;subst q1;subst q2
 clear q
 refine cU [(0,.cptr (Cr x (.slice .none ifs) roots d)),(1,sl Ag s),(2,.clo 52 [.cptr [.cptr (Cr x (.slice .none ifs) roots d)],.ref 1000 0,.ref 1001 0]),(7,.slice (.id 12100 2) (needs.map Ac)),(8,.slice (.id 8 4) (before.map Ag)),(14,vi i),(15,.ref 15 0)] [(8,.tok 4 (before.map Ag).length),(12100,.tok 2 (needs.map Ac).length),(1000,.cells [sl AN (Ci x d st ⟨before,needs,r⟩).2]),(1001,.cells [vb (Ci x d st ⟨before,needs,r⟩).1]),(15,.cells (Am r))] Z7 Z5 (Xi (Ag y) (Yi (Yi aa0 hgy) (Yi rfl (yN ?_))));have CO:A7 4 [Ag y]/\(before.map Ag).length=(before.map Ag).length/\((before.map Ag).length+[Ag y].length)*40<=140737488355328/\(before.map Ag).length+[Ag y].length<=9223372036854775807:=
  ⟨⟨rfl,trivial⟩,rfl,by grind,by grind⟩
 refine Yi CO ?_;have Kl:=p5 r hrx;have dj:A7 2 (r.reqs.map Ac)/\(needs.map Ac).length=(needs.map Ac).length/\((needs.map Ac).length+(r.reqs.map Ac).length)*40<=140737488355328/\(needs.map Ac).length+(r.reqs.map Ac).length<=9223372036854775807:=
  ⟨Cn (enc:=Ac) (n:=2) (fun _=>rfl) r.reqs,rfl,by grind,by grind⟩
 refine Yi dj ?_;have e7:AV.slice (.id 12100 2) (needs.map Ac++r.reqs.map Ac)=.slice (.id 12100 2) ((needs++r.reqs).map Ac):=by simp_all
 have e8:AV.slice (.id 8 4) (before.map Ag++[Ag y])=.slice (.id 8 4) ((before++[y]).map Ag):=by simp_all
 have o7:HO.tok 2 ((needs.map Ac).length+(r.reqs.map Ac).length)=.tok 2 ((needs++r.reqs).map Ac).length:=by simp_all
 have o8:HO.tok 4 ((before.map Ag).length+[Ag y].length)=.tok 4 ((before++[y]).map Ag).length:=by simp_all
 refine Xi ⟨(before++[y],needs++r.reqs,m,(Ci x d) st ⟨before,needs,r⟩),Ac5⟩ ?_;exact⟨by simp_all,⟨Zr,Zr,Zr,⟨e7,rfl⟩,⟨e8,rfl⟩,Tv⟩,⟨⟨o8,rfl⟩,⟨o7,rfl⟩,Zr,Zr,Tv⟩,Fh,Bg aa3⟩
def OA(q:Rq):Bool:=decide (q.path.size<=100)&&decide (q.set.length<=8)
def EC:Bool:=l.all OA&&decide (l.length<=20)
theorem c35(hl:BL l):PC 27 [sl Ac l] (vb (EC l)):=by
 unfold BL at hl;refine Ps De Tryz.func27 rfl (Nz rfl) (Xi {i:Nat // i<=l.length/\∀j (hj:j<l.length),j<i->OA l[j]=true} (Xi (fun i=>⟨[(0,sl Ac l),(3,vi i.1)],[],Ae⟩) (Xi (fun i=>l.length-i.1) (Yi (Xi ⟨0,Ap _,fun j _ h=>by omega⟩ ?_) ?_))))
 .exact⟨Z2,Tv,Fh,Tv⟩
 intro⟨i,h1,h2⟩;refine Yi ?_ ?_
 .intro h;have h:i<l.length:=by simp_all
  have hg:l[i]?=some l[i]:=Ge h;have no:OA l[i]=false->false=EC l:=fun e=>by
   grind [EC]
  refine Xi (Ac l[i]) (Yi (Yi aa0 (by simp_all)) (Yi rfl ?_));refine Yi ?_ ?_
  .intro h3;exact .of_eq (Aa vb (no (by grind [OA])))
  intro h3;refine Xi (Ac l[i]) (Yi (Yi aa0 (by simp_all)) (Yi rfl ?_));refine Yi ?_ ?_
  .intro h4;rw[Lm]at h4;exact .of_eq (Aa vb (no (by grind [OA])))
  intro h4;have h5:l[i].set.length<=8:=by grind
  refine Yi (by grind [As]) (Xi ⟨i+1,by omega,fun j hj Hg=>?_⟩ ?_)
  .grind [OA]
  .exact⟨Dl l.length i aa0,Z2,Tv,Fh,Tv⟩
 .intro h;have h:¬i<l.length:=by simp_all
  have ha:l.all OA=true:=BO.2 fun q hq=>by
   grind [List.getElem_of_mem]
  refine Yi ?_ ?_
  .intro h3;rw[Lm]at h3;exact .of_eq (Aa vb (show true=EC l by grind [EC]))
  .intro h3;rw[Lm]at h3;exact .of_eq (Aa vb (show false=EC l by grind [EC]))
def Ko(r:Rl):Bool:=decide (r.path.size<=100)&&decide (r.arch.size<=100)&&decide (r.ifc.size<=100)&&decide (r.cert.size<=100)&&EC r.reqs
def F6:Bool:=x.all Ko&&decide (x.length<=n)
theorem c34(hl:BL x)(hr:∀r∈x,BL r.reqs):PC 26 [sl Am x,vi n] (vb (F6 x n)):=by
 unfold BL at hl;refine Ps De Tryz.func26 rfl (Nz rfl) (Xi {i:Nat // i<=x.length/\∀j (hj:j<x.length),j<i->Ko x[j]=true} (Xi (fun i=>⟨[(0,sl Am x),(1,vi n),(5,vi i.1)],[],Ae⟩) (Xi (fun i=>x.length-i.1) (Yi (Xi ⟨0,Ap _,fun j _ h=>by omega⟩ ?_) ?_))))
 .exact⟨Z3,Tv,Fh,Tv⟩
 intro⟨i,h1,h2⟩;refine Yi ?_ ?_
 .intro h;have h:i<x.length:=by simp_all
  have hg:x[i]?=some x[i]:=Ge h;have no:Ko x[i]=false->false=F6 x n:=fun e=>by
   grind [F6]
  have hc:=c35 x[i].reqs (hr _ (Ak h));refine Xi (Am x[i]) (Yi (Yi aa0 (by simp_all)) (Yi rfl ?_));refine Yi ?_ ?_
  .intro h3;exact .of_eq (Aa vb (no (by grind [Ko])))
  intro h3;refine Xi (Am x[i]) (Yi (Yi aa0 (by simp_all)) (Yi rfl ?_));refine Yi ?_ ?_
  .intro h4;exact .of_eq (Aa vb (no (by grind [Ko])))
  intro h4;refine Xi (Am x[i]) (Yi (Yi aa0 (by simp_all)) (Yi rfl ?_));refine Yi ?_ ?_
  .intro h5;exact .of_eq (Aa vb (no (by grind [Ko])))
  intro h5;refine Xi (Am x[i]) (Yi (Yi aa0 (by simp_all)) (Yi rfl ?_));refine Yi ?_ ?_
  .intro h6;exact .of_eq (Aa vb (no (by grind [Ko])))
  intro h6;refine Xi (Am x[i]) (Yi (Yi aa0 (by simp_all)) (Yi rfl ?_));refine AA (Bt (EC x[i].reqs)) (fun e=>?_) (fun e=>?_)
  rotate_left
  .rw[e]at hc;refine Xi .pure (Xi _ (Yi (hc) ?_));exact .of_eq (Aa vb (no (by grind [Ko])))
  rw[e]at hc;refine Xi .pure (Xi _ (Yi (hc) (Yi (by grind [As]) (Xi ⟨i+1,by omega,fun j hj Hg=>?_⟩ ?_))))
  .grind [Ko]
  .exact⟨Dl x.length i aa0,Z3,Tv,Fh,Tv⟩
 .intro h;have h:¬i<x.length:=by simp_all
  have ha:x.all Ko=true:=BO.2 fun q hq=>by
   grind [List.getElem_of_mem]
  refine Yi ?_ ?_
  .intro h3;rw[Lm]at h3;exact .of_eq (Aa vb (show true=F6 x n by grind [F6]))
  .intro h3;rw[Lm]at h3;exact .of_eq (Aa vb (show false=F6 x n by grind [F6]))
theorem c11(hl:BL x)(hr:∀r∈x,BL r.reqs)(hq:BL roots):PC 9 [Il x ifs,sl Ac roots] (vb (F6 x 16&&EC roots)):=by
 have h1:=c34 x 16 hl hr;have h2:=c35 roots hq;cases e:F6 x 16 with
 |true=>
  rw[e]at h1;refine Ps De Tryz.func9 rfl (Nz rfl) (Xi .pure (Xi _ (Yi (h1) (Xi .pure (Xi _ (Yi (h2) ?_))))));exact .refl _
 |false=>
  rw[e]at h1;refine Ps De Tryz.func9 rfl (Nz rfl) (Xi .pure (Xi _ (Yi (h1) ?_)));exact .refl _
abbrev yn:AV:=nzA
end Go.Eng
