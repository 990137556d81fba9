/- Lemmas for the claims of this seat, without a condition: part 22 (C65, C66, C67, C68, C69, C56, C57, C58, C59, C70, C71, C72, C73, LayStrs, O15, S17, O1, C0, O2, R1). -/
import Derived.Test.YtmcbkdbfaneofaaGreatDoorA21
import Derived.Test.YtmcbkdbfaneofaaGreatDoorA17
import Derived.Shelf.Sort.Plain
import Derived.Shelf.Slices.CompactS
import Derived.Ground.NamesProg
namespace Go.Eng
open Go.Proofs
theorem LE:∀(y:List Rl) (acc:List ByteArray) (r:Rl),AT (y++[r]) acc=if(AT y acc).any (fun p=>decide (p=r.path))then AT y acc else AT y acc++[r.path]
 | [],acc,r=>rfl
 |s::y,acc,r=>by rw[D6,AT,AT,LE y]
theorem E4:∀(y:List Rl) (acc:List ByteArray),acc.Nodup→(AT y acc).Nodup
 | [],_,h=>h
 |s::y,acc,h=>by
  rw[AT];refine E4 y _ ?_;split
  ·exact h
  ·rename_i hn;rw[ET];refine⟨h,by simp,fun a ha b hb e=>?_⟩;rw[As]at hb;exact hn (OP.2 (by rw[←hb,←e];exact ha))
abbrev NO(y:List Rl)(p:ByteArray):List (List AV):=(y.filter fun r=>decide (r.path=p)).map Ai
abbrev gM(y:List Rl)(q:ByteArray×Nat):Value×AV:=(.string q.1,.slice (.id (q.2+50) 9) (NO y q.1))
abbrev So(y:List Rl):List (Value×AV):=(AT y []).zipIdx.map (gM y)
def J0(y:List Rl)(l:Nat):HO:=match(AT y [])[l]? with
 |some q=>.tok 9 (NO y q).length
 |none=>.free
def VE(y:List Rl)(j:Nat):HO:=bif Nat.ble 50 j then J0 y (j-50)else .free
theorem H2(y:List Rl)(l:Nat):VE y (l+50)=J0 y l:=by
 unfold VE;rw[show Nat.ble 50 (l+50)=true by rw[Do];omega,Nat.add_sub_cancel];rfl
theorem o0(y:List Rl){j:Nat}(h:j<50):VE y j=.free:=by
 unfold VE;rw[show Nat.ble 50 j=false by rw[AF];intro hc;rw[Do]at hc;omega];rfl
theorem IW(y:List Rl)(r:Rl)(q:ByteArray):NO (y++[r]) q=if r.path=q then NO y q++[Ai r]else NO y q:=by
 unfold NO;rw[DZ]
 by_cases h:r.path=q
 ·rw[Ax h,SK (by simpa using h)];simp
 ·rw[Ao h,SJ (by simpa using h)];simp
theorem IK{l:List ByteArray}{q:ByteArray×Nat}(h:q∈l.zipIdx):l[q.2]?=some q.1:=by
 obtain⟨a,b⟩:=q;exact FR.1 h
open Classical in
theorem ME{Ca:List (Value×AV)}{k:Value}{a:AV}(h:∀a',(k,a')∉Ca):E7 Ca k a=Ca++[(k,a)]:=by
 unfold E7;rw[Ao (fun⟨a',h'⟩=>h a' h')]
open Classical in
theorem YU{Ca:List (Value×AV)}{k:Value}{a a' : AV}(h:(k,a')∈Ca):E7 Ca k a=Ca.map fun p=>if p.1=k then(k,a)else p:=by
 unfold E7;rw[Ax ⟨a',h⟩]
section
variable {y:List Rl}{r:Rl}{k:Nat}
theorem JC(h:(AT y [])[k]?=some r.path):AT (y++[r]) []=AT y []:=by
 rw[LE,Ax (OP.2 (AA h))]
theorem JB(h:r.path∉AT y []):AT (y++[r]) []=AT y []++[r.path]:=by
 rw[LE,Ao (fun hc=>h (OP.1 hc))]
theorem Jz{l:List ByteArray}(hd:l.Nodup){i j:Nat}{p:ByteArray}(h1:l[i]?=some p)(h2:l[j]?=some p):i=j:=by
 obtain⟨a1,a2⟩:=Aw.1 h1;obtain⟨b1,b2⟩:=Aw.1 h2;exact(List.getElem_inj hd).1 (a2.trans b2.symm)
open Classical in
theorem lg(h:(AT y [])[k]?=some r.path):E7 (So y) (.string r.path) (.slice (.id (k+50) 9) (NO y r.path++[Ai r]))=So (y++[r]):=by
 have hd:=E4 y [] Fu;have hm:gM y (r.path,k)∈So y:=Ar.2 ⟨_,FR.2 h,rfl⟩;rw[YU (a':=.slice (.id (k+50) 9) (NO y r.path)) hm];unfold So;rw[JC h,BW];refine Bn fun q hq=>?_;have hg:=IK hq;obtain⟨q,j⟩:=q;show(if Value.string q=Value.string r.path then _ else _)=gM (y++[r]) (q,j);have hg:(AT y [])[j]?=some q:=hg
 by_cases he:q=r.path
 ·subst he
  have:j=k:=Jz hd hg h
  subst this;rw[Ax rfl];show _=(Value.string r.path,AV.slice (.id (j+50) 9) (NO (y++[r]) r.path));rw[IW,Ax rfl]
 ·rw[Ao (fun e=>he (by simpa using e))];show(Value.string q,AV.slice (.id (j+50) 9) (NO y q))=(Value.string q,AV.slice (.id (j+50) 9) (NO (y++[r]) q));rw[IW,Ao (fun e=>he e.symm)]
theorem bR(h:r.path∉AT y []):NO y r.path=[]:=by
 have:y.filter (fun s=>decide (s.path=r.path))=[]:=by
  rw[HI];intro s hs he;exact h ((HF y [] r.path).2 (.inr ⟨s,hs,BD he⟩))
 unfold NO;rw[this];rfl
theorem Ye(h:r.path∉AT y [])(a:AV):(Value.string r.path,a)∉So y:=by
 intro hc;obtain⟨q,h1,h2⟩:=Ar.1 hc;simp only[gM,F9,Value.string.injEq]at h2;exact h (by rw[←h2.1];exact AA (IK h1))
theorem lf(h:r.path∉AT y []):E7 (So y) (.string r.path) (.slice (.id ((AT y []).length+50) 9) [Ai r])=So (y++[r]):=by
 rw[ME (fun a=>Ye h a)];unfold So;rw[JB h,List.zipIdx_append,AH]
 congr 1
 ·refine Bn fun q hq=>?_;have hg:=IK hq
  have:q.1≠r.path:=fun e=>h (by rw[←e];exact AA hg)
  show(Value.string q.1,AV.slice (.id (q.2+50) 9) (NO y q.1))=(Value.string q.1,AV.slice (.id (q.2+50) 9) (NO (y++[r]) q.1));rw[IW,Ao (fun e=>this e.symm)]
 ·show [_]=[(Value.string r.path,AV.slice (.id (0+(AT y []).length+50) 9) (NO (y++[r]) r.path))];rw[IW,Ax rfl,bR h,Bk];rfl
theorem gP{p:ByteArray}{j:Nat}(h:(AT y [])[j]?=some p):(Value.string p,AV.slice (.id (j+50) 9) (NO y p))∈So y∧∀b,(Value.string p,b)∈So y→b=AV.slice (.id (j+50) 9) (NO y p):=by
 refine⟨Ar.2 ⟨(p,j),FR.2 h,rfl⟩,fun b hb=>?_⟩;obtain⟨q,h1,h2⟩:=Ar.1 hb;simp only[gM,F9,Value.string.injEq]at h2;have hg:=IK h1;rw[h2.1]at hg
 have:=Jz (E4 y [] Fu) hg h
 rw[←h2.2,h2.1,this]
theorem j7{p:ByteArray}{j:Nat}(h:(AT y [])[j]?=some p):J0 y j=.tok 9 (NO y p).length:=by
 unfold J0;rw[h]
theorem mO(h:(AT y [])[k]?=some r.path)(l:Nat):(bif Nat.beq (l+50) (k+50)then HO.tok 9 ((NO y r.path).length+1)else J0 y l)=J0 (y++[r]) l:=by
 by_cases he:l=k
 ·subst he;rw[show Nat.beq (l+50) (l+50)=true from Dg _];unfold J0;rw[JC h,h];show HO.tok 9 _=HO.tok 9 (NO (y++[r]) r.path).length;rw[IW,Ax rfl,Ad];rfl
 ·rw[show Nat.beq (l+50) (k+50)=false by rw[AF];intro hc;have:=AP hc;omega];show J0 y l=_;unfold J0;rw[JC h];cases hq:(AT y [])[l]? with
  |none=>rfl
  |some q =>
   show HO.tok 9 (NO y q).length=HO.tok 9 (NO (y++[r]) q).length;rw[IW,Ao];intro e;subst e;exact he (Jz (E4 y [] Fu) hq h)
theorem mN(h:r.path∉AT y [])(l:Nat):(bif Nat.beq (l+50) ((AT y []).length+50)then HO.tok 9 1 else J0 y l)=J0 (y++[r]) l:=by
 by_cases he:l=(AT y []).length
 ·subst he;rw[show Nat.beq ((AT y []).length+50) ((AT y []).length+50)=true from Dg _];unfold J0;rw[JB h];simp only[A1 (Al _),EW,Bd];show HO.tok 9 1=HO.tok 9 (NO (y++[r]) r.path).length;rw[IW,Ax rfl,bR h];rfl
 ·rw[show Nat.beq (l+50) ((AT y []).length+50)=false by rw[AF];intro hc;have:=AP hc;omega];show J0 y l=_;unfold J0;rw[JB h]
  by_cases hl:l<(AT y []).length
  ·rw[A4 hl,Ge hl];show HO.tok 9 (NO y (AT y [])[l]).length=HO.tok 9 (NO (y++[r]) (AT y [])[l]).length;rw[IW,Ao];intro e;exact h (by rw[e];exact Ak hl)
  ·rw[A8 (by omega),A8 (by rw[Ad];simp;omega)]
end
theorem Qw{h:Nat→HO}:∀{Ca:List (Value×AV)},(∀p∈Ca,U0 h p.2=true)→RC h Ca=true
 | [],_=>rfl
 |p::r,hk=>by
  unfold RC;rw[hk p (Ac ..)];exact Qw (fun q hq=>hk q (Af _ hq))
theorem Lw(y:List Rl){h:Nat→HO}(hh:∀l,h (l+50)=J0 y l):RC h (So y)=true:=by
 refine Qw fun p hp=>?_;obtain⟨q,h1,rfl⟩:=Ar.1 hp;show Se h (q.2+50)=true;unfold Se;rw[hh,j7 (IK h1)]
theorem JK{y:List Rl}{h h' : Nat→HO}(hh:∀l,h (l+50)=J0 y l)(j:Nat):VE y j=.free∨(h j=VE y j∧Yt h' (VE y j)=true):=by
 by_cases hj:j<50
 ·exact .inl (o0 y hj)
 ·obtain⟨l,rfl⟩:∃l,j=l+50:=⟨j-50,by omega⟩
  right
  rw[H2];refine⟨hh l,?_⟩;unfold J0;cases (AT y [])[l]?<;>rfl
theorem mD{x:List Rl}(hx:A9 x=0){i:Nat}(hi:i<x.length):E7 ((x.take i).map VS) (TX (Gl x[i])) (.agg (Ai x[i]))=(x.take (i+1)).map VS:=by
 rw[ME]
 ·rw[BC,Ge hi,AH];rfl
 intro a ha;obtain⟨r,hr,he,_⟩:=lV ha;obtain⟨j,hj,e2⟩:=BR.1 hr;rw[AC]at hj;rw[ES]at e2;have hp:=(Dc hx).2
 have:=(A7.1 hp) j i (by omega) hi (by omega)
 rw[e2]at this;exact Oh this he
abbrev tp:Sj:=⟨[],[],[],[],[8,9],[9],[40],[],[],[],[8,9,10,11]⟩
abbrev zT:List AV:=[.v (.map none),.v (.map none)]
theorem kS(x:List Rl)(ifs:List (List AV))(oV:PC 20 [RF x ifs] (vi (A9 x)))(h0:A9 x≠0):mV x ifs:=by
 have ht:aS x=.tup [.agg [.cmap Xz [],.cmap Dm []],vi (A9 x)]:=by unfold aS;rw[Ao h0]
 unfold mV;rw[ht];refine Ps tp Tryz.func73 rfl (Nz rfl) ?_;refine Xi 0 ?_;refine Xi 0 ?_;refine Yi (Nz rfl) ?_;refine Xi 0 ?_;refine Yi (Nz rfl) ?_;refine Xi .pure (Xi _ (Yi (oV) ?_));refine Xi 0 ?_;refine Yi ?_ ?_
 ·intro _;refine Xi 0 ?_;refine Yi (Nz rfl) ?_;refine Yi (Nz rfl) ?_;refine Yi (Nz rfl) ?_;exact .refl _
 ·intro h;exact absurd h (fun hc=>hc h0)
theorem HE:∀(y:List Rl) (acc:List ByteArray),(AT y acc).length≤acc.length+y.length
 | [],acc=>by simp[AT]
 |r::y,acc=>by
  rw[AT];refine A3 (HE y _) ?_;split
  ·simp only[Au];omega
  ·simp only[Ad,Au,Ay];omega
section
attribute [local irreducible] IG
theorem oH(x:List Rl)(ifs:List (List AV))(oV:PC 20 [RF x ifs] (vi (A9 x)))(h0:A9 x=0)(CJ:x.length≤256):mV x ifs:=by
 have ht:aS x=.tup [.agg [.cmap Xz (x.map VS),.cmap Dm ((AT x []).map (nF x))],vi 0]:=by unfold aS;rw[Ax h0]
 unfold mV;rw[ht];rw[h0]at oV;refine Ps tp Tryz.func73 rfl (Nz rfl) ?_;refine Xi 0 ?_;refine Xi 0 ?_;refine Yi (Nz rfl) ?_;refine Xi 0 ?_;refine Yi (Nz rfl) ?_;refine Xi .pure (Xi _ (Yi (oV) ?_));refine Xi 0 ?_;refine Yi ?_ ?_
 ·intro hc;exact absurd (show(0:Int)≠0 from hc) (by decide)
 intro _;refine Xi 0 ?_;refine Xi {i:Nat // i≤x.length} (Xi (fun i=>⟨[(2,.ref 2 0),(4,.ref 4 0),(18,sl Ai x),(19,vi (x.map Ai).length),(20,vi i.1)],[(2,.cells zT),(4,.cells [.mref 8,.mref 9]),(8,.map Xz ((x.take i.1).map VS)),(9,.mapU Dm (So (x.take i.1)))],VE (x.take i.1)⟩) (Xi (fun i=>x.length-i.1) (Yi (Xi ⟨0,AG _⟩ ?_) ?_)))
 ·refine⟨Z5,Z4,fun j=>.inl ?_,Tv⟩;show VE [] j=.free;unfold VE;cases Nat.ble 50 j<;>rfl
 intro⟨i,i1⟩;have i1:i≤x.length:=i1;refine Xi 0 ?_;refine Yi ?_ ?_
 ·intro h;have h:(i:Int)<(x.map Ai).length:=h;have h:i<x.length:=by simpa using h
  have hg:x[i]?=some x[i]:=Ge h;have KW:x.take (i+1)=x.take i++[x[i]]:=by rw[BC,hg];rfl
  refine Xi 0 ?_;refine Xi (Ai x[i]) (Yi (Yi (Nn i) (by simp[hg])) (Yi rfl ?_));refine Yi (Nz rfl) (Yi (Nz rfl) ?_);refine Xi ⟨[(2,.ref 2 0),(4,.ref 4 0),(7,.ref 7 0),(18,sl Ai x),(19,vi (x.map Ai).length),(20,vi i)],[(2,.cells zT),(4,.cells [.mref 8,.mref 9]),(7,.cells (Ai x[i])),(8,.map Xz ((x.take i).map VS)),(9,.mapU Dm (So (x.take i)))],VE (x.take i)⟩ (Yi ?_ ?_)
  ·exact⟨Z6,⟨Zr,Zr,Zr,Zr,⟨rfl,Lw _ (H2 _)⟩,Tv⟩,JK (H2 _),Tv⟩
  refine Xi 0 ?_;refine Yi (Nz rfl) ?_;refine Xi _ (Yi (om x[i]) ?_);refine Yi (Nz rfl) ?_;refine Yi (by kernel_rfl) ?_;have e8:E7 ((x.take i).map VS) (TX (Gl x[i])) (.agg (Ai x[i]))=(x.take (i+1)).map VS:=mD h0 h;refine Xi ⟨[(2,.ref 2 0),(4,.ref 4 0),(7,.ref 7 0),(18,sl Ai x),(19,vi (x.map Ai).length),(20,vi i)],[(2,.cells zT),(4,.cells [.mref 8,.mref 9]),(7,.cells (Ai x[i])),(8,.map Xz ((x.take (i+1)).map VS)),(9,.mapU Dm (So (x.take i)))],VE (x.take i)⟩ (Yi ?_ ?_)
  ·exact⟨Z6,⟨Zr,Zr,Zr,⟨Ab (HO.map Xz) e8,rfl⟩,⟨rfl,Lw _ (H2 _)⟩,Tv⟩,JK (H2 _),Tv⟩
  have hL:((x.take i).filter (fun r=>decide (r.path=x[i].path))).length≤256:=by
   have:=BB (fun r:Rl=>decide (r.path=x[i].path)) (x.take i)
   rw[AC]at this;omega
  have hP:∀l,VE (x.take i) (l+50)=J0 (x.take i) l:=H2 _;refine Bq (Classical.em (x[i].path∈AT (x.take i) [])) (fun hp=>?_) (fun hp=>?_)
  ·refine BN (Ck.1 hp) (fun k hk=>?_);have hu:=gP hk;refine Xi 0 ?_;refine Or.inl (Xi (.slice (.id (k+50) 9) (NO (x.take i) x[i].path)) (Yi hu ?_));refine Yi (Nz rfl) ?_;have hr:VE (x.take i) (k+50)=.tok 9 (NO (x.take i) x[i].path).length:=by rw[hP,j7 hk]
   have hl:(NO (x.take i) x[i].path).length≤256:=by rw[Lm];exact hL
   refine Rr (e:=45) (m:=8) (es2:=[Ai x[i]]) rfl rfl rfl (fun _ h=>h) hr ⟨rfl,trivial⟩ (by show(_+1)*120≤_;omega) (by show _+1≤_;omega) ?_;have so:k<256:=by
    have:=(Aw.1 hk).1
    have:=HE (x.take i) []
    rw[AC]at this;simp only[Ay]at this;omega
   have pm:=hk;refine Yi (Jl ⟨A5 _,A5 _,A5 _,A5 _,A5 _,A5 _,A5 _,A5 _,A5 _,A5 _,Eh (show 39<10000000 by decide),Eh (by show _+50<10000000;omega),Eh (show 9<10000000 by decide),trivial⟩ (by kernel_rfl)) ?_;have e9:E7 (So (x.take i)) (.string x[i].path) (.slice (.id (k+50) 9) (NO (x.take i) x[i].path++[Ai x[i]]))=So (x.take (i+1)):=by rw[KW];exact lg pm
   have hG:∀l,(bif Nat.beq (l+50) (k+50)then HO.tok 9 ((NO (x.take i) x[i].path).length+1)else J0 (x.take i) l)=J0 (x.take (i+1)) l:=by rw[KW];exact mO pm
   refine Xi ⟨[(2,.ref 2 0),(4,.ref 4 0),(18,sl Ai x),(19,vi (x.map Ai).length),(20,vi i)],[(2,.cells zT),(4,.cells [.mref 8,.mref 9]),(8,.map Xz ((x.take (i+1)).map VS)),(9,.mapU Dm (So (x.take (i+1))))],VE (x.take (i+1))⟩ (Yi ?_ ?_)
   ·refine⟨Z5,⟨Zr,Zr,Zr,⟨Ab (HO.mapU Dm) e9,Lw _ (H2 _)⟩,Tv⟩,JK (fun l=>?_),Tv⟩;show(bif Nat.beq (l+50) (k+50)then HO.tok 9 ((NO (x.take i) x[i].path).length+1)else VE (x.take i) (l+50))=_;rw[hP];exact hG l
   refine Xi 0 ?_;refine Yi (Ii i (by omega)) ?_;refine Xi ⟨i+1,by omega⟩ ?_;exact⟨Dl x.length i (by omega),Z5,⟨Zr,Zr,Zr,⟨rfl,Lw _ (H2 _)⟩,Tv⟩,JK (H2 _),Tv⟩
  ·have pm:=hp;have LT:(AT (x.take i) []).length≤256:=by
    have:=HE (x.take i) []
    rw[AC]at this;simp only[Ay]at this;omega
   have hn:=Ye hp;refine Xi ((AT (x.take i) []).length+50) ?_;refine Or.inr (Yi hn ?_);refine Yi (Nz rfl) ?_;have hr:VE (x.take i) ((AT (x.take i) []).length+50)=.free:=by
    rw[hP];unfold J0;rw[A8 (Al _)]
   refine Rp (e:=45) (m:=8) (es2:=[Ai x[i]]) rfl rfl rfl (fun _ h=>h) hr rfl ⟨rfl,trivial⟩ (by show 1*120≤_;omega) (by show 1≤_;omega) ?_;refine Yi (Jl ⟨A5 _,A5 _,A5 _,A5 _,A5 _,A5 _,A5 _,A5 _,A5 _,A5 _,Eh (show 39<10000000 by decide),Eh (by show _+50<10000000;omega),Eh (show 9<10000000 by decide),trivial⟩ (by kernel_rfl)) ?_;have e9:E7 (So (x.take i)) (.string x[i].path) (.slice (.id ((AT (x.take i) []).length+50) 9) [Ai x[i]])=So (x.take (i+1)):=by rw[KW];exact lf pm
   have hG:∀l,(bif Nat.beq (l+50) ((AT (x.take i) []).length+50)then HO.tok 9 1 else J0 (x.take i) l)=J0 (x.take (i+1)) l:=by rw[KW];exact mN pm
   refine Xi ⟨[(2,.ref 2 0),(4,.ref 4 0),(18,sl Ai x),(19,vi (x.map Ai).length),(20,vi i)],[(2,.cells zT),(4,.cells [.mref 8,.mref 9]),(8,.map Xz ((x.take (i+1)).map VS)),(9,.mapU Dm (So (x.take (i+1))))],VE (x.take (i+1))⟩ (Yi ?_ ?_)
   ·refine⟨Z5,⟨Zr,Zr,Zr,⟨Ab (HO.mapU Dm) e9,Lw _ (H2 _)⟩,Tv⟩,JK (fun l=>?_),Tv⟩;show(bif Nat.beq (l+50) ((AT (x.take i) []).length+50)then HO.tok 9 1 else VE (x.take i) (l+50))=_;rw[hP];exact hG l
   refine Xi 0 ?_;refine Yi (Ii i (by omega)) ?_;refine Xi ⟨i+1,by omega⟩ ?_;exact⟨Dl x.length i (by omega),Z5,⟨Zr,Zr,Zr,⟨rfl,Lw _ (H2 _)⟩,Tv⟩,JK (H2 _),Tv⟩
 ·intro h;have h:¬(i:Int)<(x.map Ai).length:=h;have h:¬i<x.length:=by simpa using h
  have et:x.take i=x:=AJ (by omega);refine Xi ⟨[(2,.ref 2 0),(4,.ref 4 0)],[(2,.cells zT),(4,.cells [.mref 8,.mref 9]),(8,.map Xz ((x.take i).map VS)),(9,.mapU Dm (So (x.take i)))],VE (x.take i)⟩ (Yi ?_ ?_)
  ·exact⟨Z2,⟨Zr,Zr,Zr,⟨rfl,Lw _ (H2 _)⟩,Tv⟩,JK (H2 _),Tv⟩
  refine Xi 0 ?_;refine Yi (Nz rfl) ?_;refine Yi (Nz rfl) ?_;refine Yi (Nz rfl) ?_;have es:∀h:Nat→HO,Sg h (So (x.take i))=(AT x []).map (nF x):=fun h=>by
   rw[et];unfold Sg So;rw[BW];refine CM fun j=>?_;rw[AK,AK,List.getElem?_zipIdx];cases (AT x [])[j]?<;>rfl
  have e1:(x.take i).map VS=x.map VS:=by rw[et]
  exact .of_eq (show AV.tup [.agg [.cmap Xz ((x.take i).map VS),.cmap Dm (Sg _ (So (x.take i)))],vi 0]=_ by rw[e1,es])
end
theorem c84(x:List Rl)(ifs:List (List AV))(hx:∀r∈x,J4 r):mV x ifs:=by
 by_cases h0:A9 x=0
 ·exact oH x ifs (ru ZG x ifs hx) h0 (Qy h0).1
 ·exact kS x ifs (ru ZG x ifs hx) h0
abbrev x6(n:Nat):Sj:=⟨[],[(2,n)],[],[],[],[],[5],[],[],[],[2,3]⟩
theorem rt(l:List Sl)(hl:Co l):Bm Tryz.prog 89 [sl Ae l] (Aq [] Aa) fun r h'=>r=.slice (.id 2000 4) (l.map Ae)∧h'=Aq [(2000,.tok 4 (l.map Ae).length)] Aa:=by
 refine Ct (MZ (x6 4)) [(2,2000)] rfl CY hm rfl Tryz.func89 (by kernel_rfl) rfl (Nz rfl) (by kernel_rfl) rfl ?_;have F8:CT 4 (l.map Ae)∧([]:List (List AV)).length=0∧(([]:List (List AV)).length+(l.map Ae).length)*40≤140737488355328∧([]:List (List AV)).length+(l.map Ae).length≤9223372036854775807:=by
  refine⟨Ea (enc:=Ae) (n:=4) (fun _=>rfl) l,rfl,?_,?_⟩<;>simp only[Ay,Lm]<;>unfold Co at hl<;>omega
 have e2:HO.tok 4 (([]:List (List AV)).length+(l.map Ae).length)=.tok 4 (l.map Ae).length:=by rw[Ay,Bk]
 have e3:AV.slice (.id 2000 4) ([]++l.map Ae)=.slice (.id 2000 4) (l.map Ae):=rfl;refine Xi 0 ?_;refine Xi 0 ?_;refine Yi ?_ ?_
 ·intro _;refine Xi ⟨[(0,sl Ae l)],[],Aa⟩ (Yi ⟨Z1,Tv,Fh,AD (by kernel_rfl)⟩ ?_)
  refine Xi 2 ?_;refine Yi F8 ?_;exact Xi _ (Yi (.refl _) (Yi e3 (Ab (fun o=>Aq [(2000,o)] Aa) e2)))
 ·intro h;have h:l.map Ae=[]:=h;refine Yi ?_ ?_
  ·refine Xi ⟨[],[],Aa⟩ (Yi ⟨trivial,trivial,fun _=>.inl rfl,AD (by kernel_rfl)⟩ ?_)
   refine Xi 0 ?_;exact Xi _ (Yi (.refl _) (Yi (show AV.slice (.id 2000 4) []=_ by rw[h]) (show Aq [(2000,HO.tok 4 0)] Aa=_ by rw[h];rfl)))
  ·refine Xi ⟨[(0,sl Ae l)],[],Aa⟩ (Yi ⟨Z1,Tv,Fh,AD (by kernel_rfl)⟩ ?_)
   refine Xi 2 ?_;refine Yi F8 ?_;exact Xi _ (Yi (.refl _) (Yi e3 (Ab (fun o=>Aq [(2000,o)] Aa) e2)))
section
variable {S:Type}{x:List Rl}{roots:List Rq}{s:List Sl}{step:S→Vis→S}{st0:S}{before:List Sl}{needs:List Rq}{n:Nat}{st:S}
end
def MO(q:Rq):Bool:=decide (q.path.size≤100)&&decide (q.set.length≤8)
def Jr(l:List Rq):Bool:=l.all MO&&decide (l.length≤20)
theorem c35(l:List Rq)(hl:Co l):PC 29 [sl AN l] (vb (Jr l)):=by
 unfold Co at hl;refine Ps E8 Tryz.func29 rfl (Nz rfl) ?_;refine Xi {i:Nat // i≤l.length∧∀j (hj:j<l.length),j<i→MO l[j]=true} (Xi (fun i=>⟨[(0,sl AN l),(3,vi i.1)],[],Aa⟩) (Xi (fun i=>l.length-i.1) (Yi (Xi ⟨0,AG _,fun j _ h=>by omega⟩ ?_) ?_)))
 ·exact⟨Z2,Tv,Fh,Tv⟩
 intro⟨i,h1,h2⟩;refine Yi ?_ ?_
 ·intro h;have h:(i:Int)<(l.map AN).length:=h;have h:i<l.length:=by simpa using h
  have hg:l[i]?=some l[i]:=Ge h;have no:MO l[i]=false→false=Jr l:=fun e=>by
   unfold Jr
   have:l.all MO=false:=by
    rw[AF];intro ha
    have:=AR.1 ha _ (Ak h)
    rw[e]at this;cases this
   rw[this];rfl
  refine Xi (AN l[i]) (Yi (Yi (Nn i) (by simp[hg])) (Yi rfl ?_));refine Yi ?_ ?_
  ·intro h3;have h3:(100:Int)<((l[i].path.size:Nat):Int):=h3;exact .of_eq (Ab vb (no (by unfold MO;rw[Aj (by omega)];rfl)))
  intro h3;have h3:¬(100:Int)<((l[i].path.size:Nat):Int):=h3;refine Xi (AN l[i]) (Yi (Yi (Nn i) (by simp[hg])) (Yi rfl ?_));refine Yi ?_ ?_
  ·intro h4;have h4:(8:Int)<((l[i].set.map Ag).length:Int):=h4;rw[Lm]at h4;exact .of_eq (Ab vb (no (by unfold MO;rw[Aj (by omega:¬l[i].set.length≤8),Cz])))
  intro h4;have h4:¬(8:Int)<((l[i].set.map Ag).length:Int):=h4;have h5:l[i].set.length≤8:=by rw[Lm]at h4;omega
  refine Yi (Ii i (by omega)) ?_;refine Xi ⟨i+1,by omega,fun j hj GA=>?_⟩ ?_
  ·rcases Ch j i with z | z
   ·exact h2 j hj z
   ·have:j=i:=by omega
    subst this;unfold MO;rw[At (by omega),At h5];rfl
  ·exact⟨Dl l.length i (by omega),Z2,Tv,Fh,Tv⟩
 ·intro h;have h:¬(i:Int)<(l.map AN).length:=h;have h:¬i<l.length:=by simpa using h
  have ha:l.all MO=true:=AR.2 fun q hq=>by
   obtain⟨j,hj,rfl⟩:=Cc hq;exact h2 j hj (by omega)
  refine Yi ?_ ?_
  ·intro h3;have h3:((l.map AN).length:Int)≤20:=h3;rw[Lm]at h3;exact .of_eq (Ab vb (show true=Jr l by unfold Jr;rw[ha,At (by omega)];rfl))
  ·intro h3;have h3:¬((l.map AN).length:Int)≤20:=h3;rw[Lm]at h3;exact .of_eq (Ab vb (show false=Jr l by unfold Jr;rw[Aj (by omega),Cz]))
def JW(r:Rl):Bool:=decide (r.path.size≤100)&&decide (r.arch.size≤100)&&decide (r.ifc.size≤100)&&decide (r.cert.size≤100)&&Jr r.reqs
def JX(x:List Rl)(n:Nat):Bool:=x.all JW&&decide (x.length≤n)
theorem y8(x:List Rl)(n:Nat)(hl:Co x)(hr:∀r∈x,Co r.reqs):PC 60 [sl Ai x,vi n] (vb (JX x n)):=by
 unfold Co at hl;refine Ps E8 Tryz.func60 rfl (Nz rfl) ?_;refine Xi {i:Nat // i≤x.length∧∀j (hj:j<x.length),j<i→JW x[j]=true} (Xi (fun i=>⟨[(0,sl Ai x),(1,vi n),(5,vi i.1)],[],Aa⟩) (Xi (fun i=>x.length-i.1) (Yi (Xi ⟨0,AG _,fun j _ h=>by omega⟩ ?_) ?_)))
 ·exact⟨Z3,Tv,Fh,Tv⟩
 intro⟨i,h1,h2⟩;refine Yi ?_ ?_
 ·intro h;have h:(i:Int)<(x.map Ai).length:=h;have h:i<x.length:=by simpa using h
  have hg:x[i]?=some x[i]:=Ge h;have no:JW x[i]=false→false=JX x n:=fun e=>by
   unfold JX
   have:x.all JW=false:=by
    rw[AF];intro ha
    have:=AR.1 ha _ (Ak h)
    rw[e]at this;cases this
   rw[this];rfl
  have hc:=c35 x[i].reqs (hr _ (Ak h));refine Xi (Ai x[i]) (Yi (Yi (Nn i) (by simp[hg])) (Yi rfl ?_));refine Yi ?_ ?_
  ·intro h3;have h3:(100:Int)<((x[i].path.size:Nat):Int):=h3;exact .of_eq (Ab vb (no (by unfold JW;rw[Aj (by omega:¬x[i].path.size≤100)];simp)))
  intro h3;have h3:¬(100:Int)<((x[i].path.size:Nat):Int):=h3;refine Xi (Ai x[i]) (Yi (Yi (Nn i) (by simp[hg])) (Yi rfl ?_));refine Yi ?_ ?_
  ·intro h4;have h4:(100:Int)<((x[i].arch.size:Nat):Int):=h4;exact .of_eq (Ab vb (no (by unfold JW;rw[Aj (by omega:¬x[i].arch.size≤100)];simp)))
  intro h4;have h4:¬(100:Int)<((x[i].arch.size:Nat):Int):=h4;refine Xi (Ai x[i]) (Yi (Yi (Nn i) (by simp[hg])) (Yi rfl ?_));refine Yi ?_ ?_
  ·intro h5;have h5:(100:Int)<((x[i].ifc.size:Nat):Int):=h5;exact .of_eq (Ab vb (no (by unfold JW;rw[Aj (by omega:¬x[i].ifc.size≤100)];simp)))
  intro h5;have h5:¬(100:Int)<((x[i].ifc.size:Nat):Int):=h5;refine Xi (Ai x[i]) (Yi (Yi (Nn i) (by simp[hg])) (Yi rfl ?_));refine Yi ?_ ?_
  ·intro h6;have h6:(100:Int)<((x[i].cert.size:Nat):Int):=h6;exact .of_eq (Ab vb (no (by unfold JW;rw[Aj (by omega:¬x[i].cert.size≤100)];simp)))
  intro h6;have h6:¬(100:Int)<((x[i].cert.size:Nat):Int):=h6;refine Xi (Ai x[i]) (Yi (Yi (Nn i) (by simp[hg])) (Yi rfl ?_));refine Bq (Bt (Jr x[i].reqs)) (fun e=>?_) (fun e=>?_)
  rotate_left
  ·rw[e]at hc;refine Xi .pure (Xi _ (Yi (hc) ?_));exact .of_eq (Ab vb (no (by unfold JW;rw[e,Cz])))
  rw[e]at hc;refine Xi .pure (Xi _ (Yi (hc) ?_));refine Yi (Ii i (by omega)) ?_;refine Xi ⟨i+1,by omega,fun j hj GA=>?_⟩ ?_
  ·rcases Ch j i with z | z
   ·exact h2 j hj z
   ·have:j=i:=by omega
    subst this;unfold JW;rw[At (by omega:x[j].path.size≤100),At (by omega:x[j].arch.size≤100),At (by omega:x[j].ifc.size≤100),At (by omega:x[j].cert.size≤100),e];rfl
  ·exact⟨Dl x.length i (by omega),Z3,Tv,Fh,Tv⟩
 ·intro h;have h:¬(i:Int)<(x.map Ai).length:=h;have h:¬i<x.length:=by simpa using h
  have ha:x.all JW=true:=AR.2 fun q hq=>by
   obtain⟨j,hj,rfl⟩:=Cc hq;exact h2 j hj (by omega)
  refine Yi ?_ ?_
  ·intro h3;have h3:((x.map Ai).length:Int)≤n:=h3;rw[Lm]at h3;exact .of_eq (Ab vb (show true=JX x n by unfold JX;rw[ha,At (by omega)];rfl))
  ·intro h3;have h3:¬((x.map Ai).length:Int)≤n:=h3;rw[Lm]at h3;exact .of_eq (Ab vb (show false=JX x n by unfold JX;rw[Aj (by omega),Cz]))
section
variable {l:List Rl}{roots t:List Rq}{d:List ByteArray}{n:Nat}
end
structure y0(x:List Rl)(roots:List Rq):Prop where
 ix:Co x
 rs:Co roots
 rel:∀r∈x,Co r.reqs∧J4 r
 rq:∀q∈roots,NU q
end Go.Eng
namespace Go.Proofs
open Go.Shelf
def Tryz.laySortStr_ren:Go.Shelf.Ren:=⟨fun | 190=>102 | 125=>130 | 258=>132 | 128=>170 | 129=>171 | 302=>173 | 303=>174 | 304=>175 | 305=>176 | 306=>177 | 307=>178 | 308=>179 | 309=>180 | 310=>181 | 333=>211 | 329=>207 | 330=>208 | 334=>212 | 335=>213 | 336=>81 | 344=>239 | n=>n,fun | 31=>129 | 9=>9 | 3=>3 | 46=>185 | 0=>0 | 51=>220 | 53=>222 | 4=>4 | 183=>214 | 182=>213 | 131=>133 | 5=>5 | 218=>248 | 222=>252 | 228=>270 | 229=>271 | n=>n,fun | n=>n⟩
theorem Tryz.laySortStr:Go.Proofs.Lays.n190 Tryz.prog Tryz.laySortStr_ren:={
 mixed:=by kernel_rfl
 f125:=Tryz.func130.trans (congrArg some (by kernel_rfl))
 f128:=Tryz.func170.trans (congrArg some (by kernel_rfl))
 f129:=Tryz.func171.trans (congrArg some (by kernel_rfl))
 f190:=Tryz.func102.trans (congrArg some (by kernel_rfl))
 f258:=Tryz.func132.trans (congrArg some (by kernel_rfl))
 f302:=Tryz.func173.trans (congrArg some (by kernel_rfl))
 f303:=Tryz.func174.trans (congrArg some (by kernel_rfl))
 f304:=Tryz.func175.trans (congrArg some (by kernel_rfl))
 f305:=Tryz.func176.trans (congrArg some (by kernel_rfl))
 f306:=Tryz.func177.trans (congrArg some (by kernel_rfl))
 f307:=Tryz.func178.trans (congrArg some (by kernel_rfl))
 f308:=Tryz.func179.trans (congrArg some (by kernel_rfl))
 f309:=Tryz.func180.trans (congrArg some (by kernel_rfl))
 f310:=Tryz.func181.trans (congrArg some (by kernel_rfl))
 f329:=Tryz.func207.trans (congrArg some (by kernel_rfl))
 f330:=Tryz.func208.trans (congrArg some (by kernel_rfl))
 f333:=Tryz.func211.trans (congrArg some (by kernel_rfl))
 f334:=Tryz.func212.trans (congrArg some (by kernel_rfl))
 f335:=Tryz.func213.trans (congrArg some (by kernel_rfl))
 f336:=Tryz.func81.trans (congrArg some (by kernel_rfl))
 f344:=Tryz.func239.trans (congrArg some (by kernel_rfl))
 t0:=Tryz.underlying0
 a0:=Tryz.isAgg0
 z0:=Tryz.sizeOf0
 v0:=Tryz.zeroValue0
 t3:=Tryz.underlying3
 a3:=Tryz.isAgg3
 z3:=Tryz.sizeOf3
 v3:=Tryz.zeroValue3
 t4:=Tryz.underlying4
 a4:=Tryz.isAgg4
 z4:=Tryz.sizeOf4
 v4:=Tryz.zeroValue4
 t5:=Tryz.underlying5
 a5:=Tryz.isAgg5
 z5:=Tryz.sizeOf5
 v5:=Tryz.zeroValue5
 t9:=Tryz.underlying9
 a9:=Tryz.isAgg9
 z9:=Tryz.sizeOf9
 v9:=Tryz.zeroValue9
 t31:=Tryz.underlying129
 a31:=Tryz.isAgg129
 z31:=Tryz.sizeOf129
 v31:=Tryz.zeroValue129
 t46:=Tryz.underlying185
 a46:=Tryz.isAgg185
 z46:=Tryz.sizeOf185
 v46:=Tryz.zeroValue185
 t51:=Tryz.underlying220
 a51:=Tryz.isAgg220
 z51:=Tryz.sizeOf220
 v51:=Tryz.zeroValue220
 t53:=Tryz.underlying222
 a53:=Tryz.isAgg222
 z53:=Tryz.sizeOf222
 v53:=Tryz.zeroValue222
 t131:=Tryz.underlying133
 a131:=Tryz.isAgg133
 z131:=Tryz.sizeOf133
 v131:=Tryz.zeroValue133
 t182:=Tryz.underlying213
 a182:=Tryz.isAgg213
 z182:=Tryz.sizeOf213
 v182:=Tryz.zeroValue213
 t183:=Tryz.underlying214
 a183:=Tryz.isAgg214
 z183:=Tryz.sizeOf214
 v183:=Tryz.zeroValue214
 t218:=Tryz.underlying248
 a218:=Tryz.isAgg248
 z218:=Tryz.sizeOf248
 v218:=Tryz.zeroValue248
 t222:=Tryz.underlying252
 a222:=Tryz.isAgg252
 z222:=Tryz.sizeOf252
 v222:=Tryz.zeroValue252
 t228:=Tryz.underlying270
 a228:=Tryz.isAgg270
 z228:=Tryz.sizeOf270
 v228:=Tryz.zeroValue270
 t229:=Tryz.underlying271
 a229:=Tryz.isAgg271
 z229:=Tryz.sizeOf271
 v229:=Tryz.zeroValue271 }
def Tryz.layCompactStr_ren:Go.Shelf.Ren:=⟨fun | 194=>104 | n=>n,fun | 31=>129 | 9=>9 | 3=>3 | 4=>4 | 0=>0 | n=>n,fun | n=>n⟩
theorem Tryz.layCompactStr:Go.Proofs.Lays.n194 Tryz.prog Tryz.layCompactStr_ren:={
 mixed:=by kernel_rfl
 f194:=Tryz.func104.trans (congrArg some (by kernel_rfl))
 t0:=Tryz.underlying0
 a0:=Tryz.isAgg0
 z0:=Tryz.sizeOf0
 v0:=Tryz.zeroValue0
 t3:=Tryz.underlying3
 a3:=Tryz.isAgg3
 z3:=Tryz.sizeOf3
 v3:=Tryz.zeroValue3
 t4:=Tryz.underlying4
 a4:=Tryz.isAgg4
 z4:=Tryz.sizeOf4
 v4:=Tryz.zeroValue4
 t9:=Tryz.underlying9
 a9:=Tryz.isAgg9
 z9:=Tryz.sizeOf9
 v9:=Tryz.zeroValue9
 t31:=Tryz.underlying129
 a31:=Tryz.isAgg129
 z31:=Tryz.sizeOf129
 v31:=Tryz.zeroValue129 }
end Go.Proofs
namespace Go.Eng
open Go.Proofs Go.Shelf Go.RowKit Go.Lib Go.Sort
abbrev bc(s:ByteArray):List UInt8:=s.data.toList
abbrev kg(l:List UInt8):ByteArray:=⟨l.toArray⟩
theorem kM(s:ByteArray):kg (bc s)=s:=by cases s;simp
theorem M1(zs:List (List UInt8)):((zs.map kg).map Dw).flatten=(zs.map Go.Proofs.encStr).map AV.v:=by
 induction zs with
 |nil=>rfl
 |cons z zs ih=>rw[AS,AS,BJ,ih];rfl
theorem WE(ss:List ByteArray):(ss.map bc).map kg=ss:=by
 rw[BW,show kg ∘ bc=id from funext kM,J9]
theorem xK(ss t:List ByteArray)(hl:Co ss)(DL:ss≠[])(hp:t.Perm ss)(ht:(t.map bc).Pairwise fun a b=>a≤b) :
  Bm Tryz.prog 102 [.msl 1000 ss.length] (Aq [(1000,.arr 1 (ss.map Dw))] Aa) fun r h'=>r=.tup []∧h'=Aq [(1000,.arr 1 (t.map Dw))] Aa:=by
 have hl:ss.length≤1073741824:=hl;have hE:Gs Tryz.prog 102:=fp 102 Tryz.func102 (by kernel_rfl) rfl;obtain⟨zs,hz⟩:∃zs,zs=ss.map bc:=⟨_,rfl⟩;have Ek:ss=zs.map kg:=by rw[hz,WE]
 have HB:=Qf (P:=Tryz.prog) (f:=102) (es:=ss.map Dw) (sz:=1) (rest:=[]) (Q:=fun FW=>FW=t.map Dw) hE ?_ ?_
 ·rw[Lm]at HB;refine⟨hE,fun g w vals q1 q2 q3=>(HB.2 g w vals q1 q2 q3).mono fun _ _ ⟨v,r,h',g',e1,⟨e2,FW,p1,p3⟩,rest⟩=>⟨v,r,h',g',e1,⟨e2,by rw[p3,p1]⟩,rest⟩⟩
 ·intro e;exact absurd (DC.1 e) DL
 ·intro g w b cap F hr hF hH hb;have rM:F.toList=zs.map Go.Proofs.encStr:=LH (by rw[←M1,←Ek];exact hr);have gT:F=zs.toArray.map Go.Proofs.encStr:=I0.1 (by rw[rM];simp);have Nr:zs.length=ss.length:=by rw[hz,Lm]
  have rN:Holds Go.Proofs.encStr w b 0 zs.toArray:=fun j hj=>by
   have:=hH j (by rw[gT];simpa using hj)
   refine⟨this.1.trans ?_,this.2⟩;rw[gT,DK _ j (by simpa using hj),DK _ j hj];simp
  have hc:=Any.slices_Sort_string Tryz.laySortStr b 0 cap zs w rN hb (by omega);have htz:(zs.mergeSort fun x y=>decide (x≤y))=t.map bc:=by
   have Je:(zs.mergeSort fun x y=>decide (x≤y)).Perm zs:=List.mergeSort_perm _ _;have sP:=List.pairwise_mergeSort (le:=fun x y:List UInt8=>decide (x≤y)) (fun a b c h1 h2=>by simp only[AB]at *;exact List.le_trans h1 h2) (fun a b=>by simp only[CF,AB];exact List.le_total a b) zs;refine List.Perm.eq_of_pairwise (le:=fun a b=>a≤b) (fun a b _ _ h k=>List.le_antisymm h k) (sP.imp fun h=>BD h) ht (Je.trans ?_);rw[hz];exact(hp.map bc).symm
  rw[htz,Nr]at hc;rw[Lm];refine hc.mono ?_
  rintro e w' ⟨rfl,n,os,rfl⟩
  have DF:t.length=ss.length:=hp.length_eq;refine⟨rfl,(t.map bc).toArray.map Go.Proofs.encStr,t.map Dw,n,os,?_,rfl,by simp[DF],fun cs hcs=>?_,fun g w _=>?_,by rw[QO]⟩
  ·rw[gT];simp[DF,Nr]
  ·obtain⟨x,_,rfl⟩:=Ar.1 hcs;rfl
  ·have e1:t.map Dw=((t.map bc).map kg).map Dw:=by rw[WE]
   rw[e1,M1];have e:(((t.map bc).toArray.map Go.Proofs.encStr).toList)=(t.map bc).map Go.Proofs.encStr:=by simp
   rw[e];exact Nk _ _ _ _ fun x hx=>by
    obtain⟨z,_,rfl⟩:=Ar.1 hx;rfl
def Cg(ss:List ByteArray):List ByteArray:=(Lib.compact (ss.map bc)).map kg
theorem Rt(zs:List (List UInt8)):(Lib.compact zs).length≤zs.length:=by
 unfold Lib.compact Lib.compactUpTo;rw[Lm];exact A3 (BB _ _) (by rw[Rm];exact Al _)
theorem xL(ss:List ByteArray)(hl:Co ss)(DL:ss≠[]) :
  Bm Tryz.prog 104 [.msl 1000 ss.length] (Aq [(1000,.arr 1 (ss.map Dw))] Aa) fun r h'=>r=.msl 2000 (Cg ss).length∧h'=Aq [(1000,.dead),(2000,.arr 1 ((Cg ss).map Dw))] Aa:=by
 have hl:ss.length≤1073741824:=hl;have hE:Gs Tryz.prog 104:=fp 104 Tryz.func104 (by kernel_rfl) rfl;obtain⟨zs,hz⟩:∃zs,zs=ss.map bc:=⟨_,rfl⟩;have Ek:ss=zs.map kg:=by rw[hz,WE]
 have Nr:zs.length=ss.length:=by rw[hz,Lm]
 have hcl:=Rt zs;have HB:=Ve (P:=Tryz.prog) (f:=104) (es:=ss.map Dw) (sz:=1) (rest:=[]) (n':=(Lib.compact zs).length) (Q:=fun FW=>FW=((Lib.compact zs++List.replicate (zs.length-(Lib.compact zs).length) []).map kg).map Dw) hE (fun e=>DL (DC.1 e)) (by rw[Lm];omega) ?_
 ·rw[Lm]at HB;have ez:Cg ss=(Lib.compact zs).map kg:=by unfold Cg;rw[hz]
  refine⟨hE,fun g w vals q1 q2 q3=>(HB.2 g w vals q1 q2 q3).mono fun _ _ ⟨x,r,h',g',e1,⟨e2,FW,p1,p2⟩,rest⟩=>⟨x,r,h',g',e1,⟨by rw[e2,ez,Lm],by
   rw[p2,p1,ez,AH,AH,Ef (by rw[Lm,Lm];exact Al _),AJ (by rw[Lm,Lm];exact Al _)]⟩,rest⟩⟩
 ·intro g w b cap F hr hF hH hb hc;rw[Lm]at hF hc⊢;have rM:F.toList=zs.map Go.Proofs.encStr:=LH (by rw[←M1,←Ek];exact hr);have gT:F=zs.toArray.map Go.Proofs.encStr:=I0.1 (by rw[rM];simp);have rN:Holds Go.Proofs.encStr w b 0 zs.toArray:=fun j hj=>by
   have:=hH j (by rw[gT];simpa using hj)
   refine⟨this.1.trans ?_,this.2⟩;rw[gT,DK _ j (by simpa using hj),DK _ j hj];simp
  have hcon:=Any.slices_Compact_string Tryz.layCompactStr b 0 cap zs w rN (by omega) (by omega);rw[Nr]at hcon;refine hcon.mono ?_
  rintro e w' ⟨rfl,q,rfl⟩
  refine⟨rfl,(Lib.compact zs++List.replicate (zs.length-(Lib.compact zs).length) []).toArray.map Go.Proofs.encStr,_,q,#[],?_,rfl,?_,fun cs hcs=>?_,fun g w _=>?_,?_⟩
  ·rw[gT];simp;omega
  ·simp;omega
  ·obtain⟨x,_,rfl⟩:=Ar.1 hcs;rfl
  ·rw[M1];have e:((Lib.compact zs++List.replicate (zs.length-(Lib.compact zs).length) []).toArray.map Go.Proofs.encStr).toList=(Lib.compact zs++List.replicate (zs.length-(Lib.compact zs).length) []).map Go.Proofs.encStr:=by simp
   rw[e];exact Nk _ _ _ _ fun x hx=>by
    obtain⟨z,_,rfl⟩:=Ar.1 hx;rfl
  ·rw[QO,grow_empty,Nr]
end Go.Eng
namespace Go.Eng
open Go.Proofs
abbrev pO(n:Nat):Sj:=⟨[],[],[(2,n),(5,n)],[],[],[],[5],[],[],[],[2,3]⟩
theorem tT(l:List Sl)(hl:Co l):Bm Tryz.prog 89 [sl Ae l] (Aq [] Aa) fun r h'=>r=.msl 2000 l.length∧h'=Aq [(2000,.arr 4 (l.map Ae))] Aa:=by
 refine Ct (MZ (pO 4)) [(2,2000)] rfl CY hm rfl Tryz.func89 (by kernel_rfl) rfl (Nz rfl) (by kernel_rfl) rfl ?_;have F8:CT 4 (l.map Ae)∧([]:List (List AV)).length=0∧(([]:List (List AV)).length+(l.map Ae).length)*40≤140737488355328∧([]:List (List AV)).length+(l.map Ae).length≤9223372036854775807:=by
  refine⟨Ea (enc:=Ae) (n:=4) (fun _=>rfl) l,rfl,?_,?_⟩<;>simp only[Ay,Lm]<;>unfold Co at hl<;>omega
 have e1:AV.msl 2000 (([]:List (List AV)).length+(l.map Ae).length)=.msl 2000 l.length:=by simp
 refine Xi 0 ?_;refine Xi 0 ?_;refine Yi ?_ ?_
 ·intro _;refine Xi ⟨[(0,sl Ae l)],[],Aa⟩ (Yi ⟨Z1,Tv,Fh,AD (by kernel_rfl)⟩ ?_)
  refine Xi 2 ?_;refine Yi F8 ?_;exact Xi _ (Yi (.refl _) (Yi e1 rfl))
 ·intro h;have h:l.map Ae=[]:=h;refine Yi ?_ ?_
  ·refine Xi ⟨[],[],Aa⟩ (Yi ⟨trivial,trivial,fun _=>.inl rfl,AD (by kernel_rfl)⟩ ?_)
   refine Xi 2 ?_;exact Xi _ (Yi (.refl _) (Yi (show AV.msl 2000 0=_ by rw[DC.1 h];rfl) (show Aq [(2000,HO.arr 4 [])] Aa=_ by rw[h])))
  ·refine Xi ⟨[(0,sl Ae l)],[],Aa⟩ (Yi ⟨Z1,Tv,Fh,AD (by kernel_rfl)⟩ ?_)
   refine Xi 2 ?_;refine Yi F8 ?_;exact Xi _ (Yi (.refl _) (Yi e1 rfl))
theorem yU(l:List Rl)(hl:Co l):Bm Tryz.prog 76 [sl Ai l] (Aq [] Aa) fun r h'=>r=.msl 2000 l.length∧h'=Aq [(2000,.arr 9 (l.map Ai))] Aa:=by
 refine Ct (MZ (pO 9)) [(2,2000)] rfl CY hm rfl Tryz.func76 (by kernel_rfl) rfl (Nz rfl) (by kernel_rfl) rfl ?_;have F8:CT 9 (l.map Ai)∧([]:List (List AV)).length=0∧(([]:List (List AV)).length+(l.map Ai).length)*120≤140737488355328∧([]:List (List AV)).length+(l.map Ai).length≤9223372036854775807:=by
  refine⟨Ea (enc:=Ai) (n:=9) (fun _=>rfl) l,rfl,?_,?_⟩<;>simp only[Ay,Lm]<;>unfold Co at hl<;>omega
 have e1:AV.msl 2000 (([]:List (List AV)).length+(l.map Ai).length)=.msl 2000 l.length:=by simp
 refine Xi 0 ?_;refine Xi 0 ?_;refine Yi ?_ ?_
 ·intro _;refine Xi ⟨[(0,sl Ai l)],[],Aa⟩ (Yi ⟨Z1,Tv,Fh,AD (by kernel_rfl)⟩ ?_)
  refine Xi 2 ?_;refine Yi F8 ?_;exact Xi _ (Yi (.refl _) (Yi e1 rfl))
 ·intro h;have h:l.map Ai=[]:=h;refine Yi ?_ ?_
  ·refine Xi ⟨[],[],Aa⟩ (Yi ⟨trivial,trivial,fun _=>.inl rfl,AD (by kernel_rfl)⟩ ?_)
   refine Xi 2 ?_;exact Xi _ (Yi (.refl _) (Yi (show AV.msl 2000 0=_ by rw[DC.1 h];rfl) (show Aq [(2000,HO.arr 9 [])] Aa=_ by rw[h])))
  ·refine Xi ⟨[(0,sl Ai l)],[],Aa⟩ (Yi ⟨Z1,Tv,Fh,AD (by kernel_rfl)⟩ ?_)
   refine Xi 2 ?_;refine Yi F8 ?_;exact Xi _ (Yi (.refl _) (Yi e1 rfl))
theorem yV(l:List Rq)(hl:Co l):Bm Tryz.prog 77 [sl AN l] (Aq [] Aa) fun r h'=>r=.msl 2000 l.length∧h'=Aq [(2000,.arr 2 (l.map AN))] Aa:=by
 refine Ct (MZ (pO 2)) [(2,2000)] rfl CY hm rfl Tryz.func77 (by kernel_rfl) rfl (Nz rfl) (by kernel_rfl) rfl ?_;have F8:CT 2 (l.map AN)∧([]:List (List AV)).length=0∧(([]:List (List AV)).length+(l.map AN).length)*40≤140737488355328∧([]:List (List AV)).length+(l.map AN).length≤9223372036854775807:=by
  refine⟨Ea (enc:=AN) (n:=2) (fun _=>rfl) l,rfl,?_,?_⟩<;>simp only[Ay,Lm]<;>unfold Co at hl<;>omega
 have e1:AV.msl 2000 (([]:List (List AV)).length+(l.map AN).length)=.msl 2000 l.length:=by simp
 refine Xi 0 ?_;refine Xi 0 ?_;refine Yi ?_ ?_
 ·intro _;refine Xi ⟨[(0,sl AN l)],[],Aa⟩ (Yi ⟨Z1,Tv,Fh,AD (by kernel_rfl)⟩ ?_)
  refine Xi 2 ?_;refine Yi F8 ?_;exact Xi _ (Yi (.refl _) (Yi e1 rfl))
 ·intro h;have h:l.map AN=[]:=h;refine Yi ?_ ?_
  ·refine Xi ⟨[],[],Aa⟩ (Yi ⟨trivial,trivial,fun _=>.inl rfl,AD (by kernel_rfl)⟩ ?_)
   refine Xi 2 ?_;exact Xi _ (Yi (.refl _) (Yi (show AV.msl 2000 0=_ by rw[DC.1 h];rfl) (show Aq [(2000,HO.arr 2 [])] Aa=_ by rw[h])))
  ·refine Xi ⟨[(0,sl AN l)],[],Aa⟩ (Yi ⟨Z1,Tv,Fh,AD (by kernel_rfl)⟩ ?_)
   refine Xi 2 ?_;refine Yi F8 ?_;exact Xi _ (Yi (.refl _) (Yi e1 rfl))
theorem Bm.to2{P:Program}{f:Nat}{args:List AV}{h0:Nat→HO}{r0:AV}{H0:Nat→HO}{Q' : AV→(Nat→HO)→Prop}(h:Bm P f args h0 fun r h'=>r=r0∧h'=H0)(k:Q' r0 H0):Bm P f args h0 Q' :=
 h.mono fun r h' q=>⟨r,.refl _,by rw[q.1,q.2];exact k⟩
theorem cb{f:Nat}{args:List AV}{b x:Bool}(h:b=x)(hc:PC f args (vb b)):PC f args (vb x):=h▸hc
theorem H5{α:Type}{f:α→List AV}{l:List α}{i:Nat}(h:(i:Int)<((l.map f).length:Int)):i<l.length:=by rw[Lm]at h;omega
theorem H4{α:Type}{f:α→List AV}{l:List α}{i:Nat}(h:¬(i:Int)<((l.map f).length:Int)):¬i<l.length:=by rw[Lm]at h;omega
theorem Jp{α:Type}{f:α→List AV}{l:List α}{i:Nat}(h:i<l.length):(0:Int)≤(i:Int)∧(l.map f)[((i:Nat):Int).toNat]?=some (f l[i]):=⟨OH _,by rw[Ba,AK,Ge h];rfl⟩
theorem Md{n z:Nat}{α:Type}{f:α→List AV}{O:List α}{x:List AV}(hx:x.length=n)(h:O.length≤2147483647)(hz:z≤65536) :
  CT n [x]∧(O.map f).length=O.length∧((O.map f).length+([x]:List (List AV)).length)*z≤140737488355328∧(O.map f).length+([x]:List (List AV)).length≤9223372036854775807:=by
 refine⟨⟨hx,trivial⟩,Lm _,?_,?_⟩<;>rw[Lm]<;>simp only[Au,Ay]
 ·have:=Nat.mul_le_mul (show O.length+(0+1)≤2147483648 by omega) hz
  omega
 ·omega
theorem Qc{α:Type}{f:α→List AV}{O:List α}{x:α}{r n:Nat}:AV.slice (.id r n) (O.map f++[f x])=.slice (.id r n) ((O++[x]).map f):=by rw[AH];rfl
theorem PZ{α:Type}{f:α→List AV}{O:List α}{x:α}{y:List AV}{n:Nat}:HO.tok n ((O.map f).length+([y]:List (List AV)).length)=.tok n (O++[x]).length:=by rw[Ad,Lm];rfl
abbrev hE(l:List Rl)(i:Nat)(r:Rl):List (List AV):=(l.map Ai).set i (over (Ai r) 4 [.junk])
theorem Z0(l:List Rl)(i:Nat)(r:Rl):(hE l i r).length=l.length:=by simp
theorem rL{l:List Rl}{i:Nat}(h:i<l.length):(hE l i l[i])[i]?=some (over (Ai l[i]) 4 [.junk]):=by
 rw[UO (by rw[Lm];exact h)]
theorem lq{l:List Rl}{i:Nat}(h:i<l.length):(hE l i l[i]).set i (over (over (Ai l[i]) 4 [.junk]) 4 [.slice .none (l[i].reqs.map AN)])=l.map Ai:=by
 unfold hE;rw[List.set_set];refine CM fun k=>?_;rw[Rk];split
 ·rename_i e;subst e;rw[Ax (by rw[Lm];exact h),AK,Ge h];rfl
 ·rfl
theorem jN{qs:List Rq}{k:Nat}(h:k<qs.length):(qs.map AN).set k (over (AN qs[k]) 1 [sl Ag qs[k].set])=qs.map AN:=by
 refine CM fun j=>?_;rw[Rk];split
 ·rename_i e;subst e;rw[Ax (by rw[Lm];exact h),AK,Ge h];rfl
 ·rfl
set_option maxHeartbeats 4000000 in
theorem tR(l:List Rl)(hl:Co l)(hq:∀r∈l,Co r.reqs)(hs:∀r∈l,∀q∈r.reqs,Co q.set):Bm Tryz.prog 37 [sl Ai l] (Aq [] Aa) fun r h'=>r=.msl 2000 l.length∧h'=Aq [(2000,.arr 9 (l.map Ai))] Aa:=by
 refine Ct (MZ ⟨[],[],[],[],[],[],[],[],[],[(950011,10700)],[2,6,7,8,9,10,11]⟩) [(10700,2000)] rfl CY hm rfl Tryz.func37 (by kernel_rfl) rfl (Nz rfl) (by kernel_rfl) rfl ?_;refine Xi (.gen [] 1) (Yi rfl (Bm.imp (yU l hl) ?_));intro v1 g1 q1;have jD:=q1.1;have jE:=q1.2;subst jD;subst jE;refine Xi ⟨[(3,.msl 10700 l.length)],[(10700,.arr 9 (l.map Ai))],Aa⟩ (Yi ⟨Z1,Z1,Fh,AD (by kernel_rfl)⟩ ?_)
 refine Xi {q:Nat // q≤l.length} (Xi (fun q=>⟨[(3,.msl 10700 l.length),(9,vi l.length),(10,vi q.1)],[(10700,.arr 9 (l.map Ai))],Aa⟩) (Xi (fun q=>l.length-q.1) (Yi (Xi ⟨0,AG _⟩ ?_) ?_)))
 ·exact⟨Z3,Z1,Fh,AD (by kernel_rfl)⟩
 intro⟨i,i1⟩;have i1:i≤l.length:=i1;refine Yi (fun h2=>?_) (fun h2=>?_)
 ·have h2:(i:Int)<(l.length:Int):=h2;have n2:i<l.length:=by omega
  have g2:l[i]?=some l[i]:=Ge n2;have ni:i<l.length:=by omega
  have hqi:l[i].reqs.length≤1073741824:=hq _ (Ak ni);refine Yi (show(0:Int)≤i∧(i:Int)<(l.length:Nat) by omega) ?_;refine Yi (show l.length=(l.map Ai).length by rw[Lm]) ?_;refine Xi (Ai l[i]) (Yi (B4 (Ge ni)) ?_);refine Xi (.gen [] 1) (Yi rfl (Bm.imp (yV l[i].reqs (hq _ (Ak ni))) ?_));intro v5 g5 q5;have q5a:=q5.1;have q5b:=q5.2;subst q5a;subst q5b;refine Yi (show(0:Int)≤i∧(i:Int)<(l.length:Nat) by omega) ?_;refine Yi (show l.length=(l.map Ai).length by rw[Lm]) ?_;refine Xi (Ai l[i]) (Yi (B4 (Ge ni)) ?_);refine Yi (Nz rfl) ?_;refine Xi ⟨[(3,.msl 10700 l.length),(4,vi i),(9,vi l.length),(10,vi i)],[(10700,.hol 9 (hE l i l[i]) i 4 (.msl 12000 l[i].reqs.length)),(12000,.arr 2 (l[i].reqs.map AN))],Aa⟩ (Yi ⟨Z4,Z2,Fh,AD (by kernel_rfl)⟩ ?_)
  refine Yi (show(0:Int)≤i∧(i:Int)<(l.length:Nat) by omega) ?_;refine Yi (show l.length=(hE l i l[i]).length∧(i:Int).toNat=i∧4=4 from⟨(Z0 l i l[i]).symm,rfl,rfl⟩) ?_;refine Xi {q:Nat // q≤l[i].reqs.length} (Xi (fun q=>⟨[(3,.msl 10700 l.length),(4,vi i),(9,vi l.length),(10,vi i),(28,vi (l[i].reqs.length:Nat)),(29,vi q.1)],[(10700,.hol 9 (hE l i l[i]) i 4 (.msl 12000 l[i].reqs.length)),(12000,.arr 2 (l[i].reqs.map AN))],Aa⟩) (Xi (fun q=>l[i].reqs.length-q.1) (Yi (Xi ⟨0,AG _⟩ ?_) ?_)))
  ·exact⟨Z6,Z2,Fh,AD (by kernel_rfl)⟩
  intro⟨k,k1⟩;have k1:k≤l[i].reqs.length:=k1;refine Xi ⟨[(3,.msl 10700 l.length),(4,vi i),(9,vi l.length),(10,vi i),(28,vi (l[i].reqs.length:Nat)),(29,vi k)],[(10700,.hol 9 (hE l i l[i]) i 4 (.msl 12000 l[i].reqs.length)),(12000,.arr 2 (l[i].reqs.map AN))],Aa⟩ (Yi ⟨Z6,Z2,Fh,AD (by kernel_rfl)⟩ ?_)
  refine Yi (fun h3=>?_) (fun h3=>?_)
  ·have h3:(k:Int)<((l[i].reqs.length:Nat):Int):=h3;have nk:k<l[i].reqs.length:=by omega
   refine Xi ⟨[(3,.msl 10700 l.length),(4,vi i),(9,vi l.length),(10,vi i),(28,vi (l[i].reqs.length:Nat)),(29,vi k)],[(10700,.hol 9 (hE l i l[i]) i 4 (.msl 12000 l[i].reqs.length)),(12000,.arr 2 (l[i].reqs.map AN))],Aa⟩ (Yi ⟨Z6,Z2,Fh,AD (by kernel_rfl)⟩ ?_)
   refine Xi ⟨[(3,.msl 10700 l.length),(4,vi i),(5,vi k),(9,vi l.length),(10,vi i),(28,vi (l[i].reqs.length:Nat)),(29,vi k)],[(10700,.hol 9 (hE l i l[i]) i 4 (.msl 12000 l[i].reqs.length)),(12000,.arr 2 (l[i].reqs.map AN))],Aa⟩ (Yi ⟨Z7,Z2,Fh,AD (by kernel_rfl)⟩ ?_)
   refine Yi (show(0:Int)≤i∧(i:Int)<(l.length:Nat) by omega) ?_;refine Yi (show l.length=(hE l i l[i]).length∧(i:Int).toNat=i∧4=4 from⟨(Z0 l i l[i]).symm,rfl,rfl⟩) ?_;refine Yi (show(0:Int)≤i∧(i:Int)<(l.length:Nat) by omega) ?_;refine Yi (show l.length=(hE l i l[i]).length∧(i:Int).toNat=i∧4=4 from⟨(Z0 l i l[i]).symm,rfl,rfl⟩) ?_;refine Yi (show(0:Int)≤k∧(k:Int)<(l[i].reqs.length:Nat) by omega) ?_;refine Yi (show l[i].reqs.length=(l[i].reqs.map AN).length by rw[Lm]) ?_;refine Xi (AN l[i].reqs[k]) (Yi (B4 (Ge nk)) ?_);refine Xi _ (Yi (vA l[i].reqs[k].set (hs _ (Ak ni) _ (Ak nk))) ?_);refine Yi (show(0:Int)≤k∧(k:Int)<(l[i].reqs.length:Nat) by omega) ?_;refine Yi (show l[i].reqs.length=(l[i].reqs.map AN).length by rw[Lm]) ?_;refine Xi (AN l[i].reqs[k]) (Yi (B4 (Ge nk)) ?_);refine Yi (Nz rfl) ?_;refine Yi (by kernel_rfl) ?_;refine Xi ⟨[(3,.msl 10700 l.length),(4,vi i),(9,vi l.length),(10,vi i),(28,vi (l[i].reqs.length:Nat)),(29,vi k)],[(10700,.hol 9 (hE l i l[i]) i 4 (.msl 12000 l[i].reqs.length)),(12000,.arr 2 (l[i].reqs.map AN))],Aa⟩ (Yi ⟨Z6,⟨Zr,⟨(show(.arr 2 ((l[i].reqs.map AN).set k (over (AN l[i].reqs[k]) 1 [sl Ag l[i].reqs[k].set])):HO)=.arr 2 (l[i].reqs.map AN)from Ab (HO.arr 2) (jN nk)),rfl⟩,Tv⟩,Fh,AD (by kernel_rfl)⟩ ?_)
   refine Yi (Ii k (by omega)) ?_;refine Xi ⟨k+1,nk⟩ ?_;exact⟨by show l[i].reqs.length-(k+1)<l[i].reqs.length-k;omega,Z6,Z2,Fh,AD (by kernel_rfl)⟩
  have h3:¬((k:Int)<((l[i].reqs.length:Nat):Int)):=h3;refine Yi (show l[i].reqs.length=(l[i].reqs.map AN).length by rw[Lm]) ?_;refine Xi (over (Ai l[i]) 4 [.junk]) (Yi (rL ni) (Yi (Nz rfl) ?_));refine Xi ⟨[(3,.msl 10700 l.length),(9,vi l.length),(10,vi i)],[(10700,.arr 9 (l.map Ai))],Aa⟩ (Yi ⟨Z3,⟨⟨(show HO.arr 9 ((hE l i l[i]).set i (over (over (Ai l[i]) 4 [.junk]) 4 [.slice .none (l[i].reqs.map AN)]))=.arr 9 (l.map Ai)from Ab (HO.arr 9) (lq ni)),rfl⟩,Tv⟩,Fh,AD (by kernel_rfl)⟩ ?_)
  refine Yi (Ii i (by omega)) ?_;refine Xi ⟨i+1,ni⟩ ?_;exact⟨Dl l.length i (by omega),Z3,Z1,Fh,AD (by kernel_rfl)⟩
 have h2:¬((i:Int)<(l.length:Int)):=h2;have n2:¬i<l.length:=by omega
 exact Xi _ (Yi (.refl _) Zr)
theorem oG(c:UInt8):PC 182 [vc c] (vb (EK c)):=by
 refine Ps E8 Tryz.func182 rfl (Nz rfl) ?_;have e1:decide ((97:UInt8)≤c)=decide ((97:Int)≤(c.toNat:Int)):=Wh c 97 (by decide);have e2:decide (c≤(122:UInt8))=decide ((c.toNat:Int)≤(122:Int)):=Wg c 122 (by decide);have es:EK c=(decide ((97:Int)≤(c.toNat:Int))&&decide ((c.toNat:Int)≤(122:Int))):=by unfold EK;rw[e1,e2]
 refine Yi ?_ ?_
 ·intro h;have h:(97:Int)≤(c.toNat:Int):=h;refine Yi ?_ ?_
  ·intro h2;have h2:(c.toNat:Int)≤122:=h2;exact .of_eq (Ab vb (show true=EK c by rw[es,At h,At h2];rfl))
  ·intro h2;have h2:¬(c.toNat:Int)≤122:=h2;exact .of_eq (Ab vb (show false=EK c by rw[es,Aj h2,Cz]))
 ·intro h;have h:¬(97:Int)≤(c.toNat:Int):=h;exact .of_eq (Ab vb (show false=EK c by rw[es,Aj h];rfl))
theorem kR(c:UInt8):PC 183 [vc c] (vb (CI c)):=by
 refine Ps E8 Tryz.func183 rfl (Nz rfl) ?_;have e1:decide ((48:UInt8)≤c)=decide ((48:Int)≤(c.toNat:Int)):=Wh c 48 (by decide);have e2:decide (c≤(57:UInt8))=decide ((c.toNat:Int)≤(57:Int)):=Wg c 57 (by decide);have es:CI c=(decide ((48:Int)≤(c.toNat:Int))&&decide ((c.toNat:Int)≤(57:Int))):=by unfold CI;rw[e1,e2]
 refine Yi ?_ ?_
 ·intro h;have h:(48:Int)≤(c.toNat:Int):=h;refine Yi ?_ ?_
  ·intro h2;have h2:(c.toNat:Int)≤57:=h2;exact .of_eq (Ab vb (show true=CI c by rw[es,At h,At h2];rfl))
  ·intro h2;have h2:¬(c.toNat:Int)≤57:=h2;exact .of_eq (Ab vb (show false=CI c by rw[es,Aj h2,Cz]))
 ·intro h;have h:¬(48:Int)≤(c.toNat:Int):=h;exact .of_eq (Ab vb (show false=CI c by rw[es,Aj h];rfl))
theorem wj(c:UInt8):PC 259 [vc c] (vb (Me c)):=by
 refine Ps E8 Tryz.func259 rfl (Nz rfl) ?_;have e1:decide ((65:UInt8)≤c)=decide ((65:Int)≤(c.toNat:Int)):=Wh c 65 (by decide);have e2:decide (c≤(90:UInt8))=decide ((c.toNat:Int)≤(90:Int)):=Wg c 90 (by decide);have es:Me c=(decide ((65:Int)≤(c.toNat:Int))&&decide ((c.toNat:Int)≤(90:Int))):=by unfold Me;rw[e1,e2]
 refine Yi ?_ ?_
 ·intro h;have h:(65:Int)≤(c.toNat:Int):=h;refine Yi ?_ ?_
  ·intro h2;have h2:(c.toNat:Int)≤90:=h2;exact .of_eq (Ab vb (show true=Me c by rw[es,At h,At h2];rfl))
  ·intro h2;have h2:¬(c.toNat:Int)≤90:=h2;exact .of_eq (Ab vb (show false=Me c by rw[es,Aj h2,Cz]))
 ·intro h;have h:¬(65:Int)≤(c.toNat:Int):=h;exact .of_eq (Ab vb (show false=Me c by rw[es,Aj h];rfl))
theorem wi(c:UInt8):PC 240 [vc c] (vb (F7 c)):=by
 have h1:=oG c;have h2:=wj c;have h3:=kR c;have ew:F7 c=(EK c||Me c||CI c||decide (c=95)):=rfl;rcases Bt (EK c)with e | e
 ·rw[e]at h1;refine Ps E8 Tryz.func240 rfl (Nz rfl) ?_;refine Xi .pure (Xi _ (Yi (h1) ?_));exact .of_eq (Ab vb (show true=F7 c by rw[ew,e];rfl))
 rw[e]at h1;rcases Bt (Me c)with e2 | e2
 ·rw[e2]at h2;refine Ps E8 Tryz.func240 rfl (Nz rfl) ?_;refine Xi .pure (Xi _ (Yi (h1) ?_));refine Xi .pure (Xi _ (Yi (h2) ?_));exact .of_eq (Ab vb (show true=F7 c by rw[ew,e,e2];rfl))
 rw[e2]at h2;rcases Bt (CI c)with e3 | e3
 ·rw[e3]at h3;refine Ps E8 Tryz.func240 rfl (Nz rfl) ?_;refine Xi .pure (Xi _ (Yi (h1) ?_));refine Xi .pure (Xi _ (Yi (h2) ?_));refine Xi .pure (Xi _ (Yi (h3) ?_));exact .of_eq (Ab vb (show true=F7 c by rw[ew,e,e2,e3];rfl))
 rw[e3]at h3;refine Ps E8 Tryz.func240 rfl (Nz rfl) ?_;refine Xi .pure (Xi _ (Yi (h1) ?_));refine Xi .pure (Xi _ (Yi (h2) ?_));refine Xi .pure (Xi _ (Yi (h3) ?_));have eb:decide (c=95)=decide ((c.toNat:Int)=95):=by
  rw[B1,AB,AB];constructor
  ·intro h;subst h;rfl
  ·intro h;exact GB.1 (by show c.toNat=95;omega)
 refine Yi ?_ ?_
 ·intro h;have h:(c.toNat:Int)=95:=h;exact .of_eq (Ab vb (show true=F7 c by rw[ew,e,e2,e3,eb,At h];rfl))
 ·intro h;have h:¬(c.toNat:Int)=95:=h;exact .of_eq (Ab vb (show false=F7 c by rw[ew,e,e2,e3,eb,Aj h];rfl))
theorem we(s:ByteArray)(hs:s.data.toList.length<4611686018427387904):PC 214 [vs s] (vb (s.data.toList.all F7)):=by
 have Ek:s.size=s.data.toList.length:=by simp
 refine Ps E8 Tryz.func214 rfl (Nz rfl) ?_;refine Xi {i:Nat // i≤s.data.toList.length∧∀j (hj:j<s.data.toList.length),j<i→F7 s.data.toList[j]=true} (Xi (fun i=>⟨[(0,vs s),(3,vi i.1)],[],Aa⟩) (Xi (fun i=>s.data.toList.length-i.1) (Yi (Xi ⟨0,AG _,fun j _ h=>by omega⟩ ?_) ?_)))
 ·exact⟨Z2,Tv,Fh,Tv⟩
 intro⟨i,h1,h2⟩;refine Yi ?_ ?_
 ·intro h;have h:(i:Int)<(s.size:Nat):=h;have h:i<s.data.toList.length:=by omega
  refine Xi s.data.toList[i] (Yi ⟨by show(0:Int)≤i;omega,by show s.data[((i:Nat):Int).toNat]?=_;rw[Ba];exact MV s i h⟩ ?_);have hc:=wi s.data.toList[i];refine Bq (Bt (F7 s.data.toList[i])) (fun e=>?_) (fun e=>?_)
  ·rw[e]at hc;refine Xi .pure (Xi _ (Yi (hc) ?_));refine Yi (Ii i (by omega)) ?_;refine Xi ⟨i+1,by omega,fun j hj GA=>?_⟩ ?_
   ·rcases Ch j i with z | z
    ·exact h2 j hj z
    ·have:j=i:=by omega
     subst this;exact e
   ·exact⟨Dl s.data.toList.length i (by omega),Z2,Tv,Fh,Tv⟩
  ·rw[e]at hc;refine Xi .pure (Xi _ (Yi (hc) ?_));have er:s.data.toList.all F7=false:=by
    rw[AF];intro ha
    have:=AR.1 ha _ (Ak h)
    rw[e]at this;cases this
   exact .of_eq (Ab vb er.symm)
 ·intro h;have h:¬(i:Int)<(s.size:Nat):=h;have er:s.data.toList.all F7=true:=AR.2 fun c hc=>by
   obtain⟨j,hj,rfl⟩:=Cc hc;exact h2 j hj (by omega)
  exact .of_eq (Ab vb er.symm)
end Go.Eng
