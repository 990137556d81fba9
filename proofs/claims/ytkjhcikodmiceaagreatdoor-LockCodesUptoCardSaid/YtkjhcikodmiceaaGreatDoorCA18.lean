/- Lemmas 18. -/
import Derived.Test.YtkjhcikodmiceaaGreatDoorCA17
import Derived.Test.YtkjhcikodmiceaaGreatDoorCA03
import Derived.Shelf.Strings.SplitShaped
import Derived.Shelf.Strings.LastIndexAll
import Derived.Shelf.Strings.Search3
import Derived.Shelf.Small.Wraps
import Derived.Ground.NamesProg
import Derived.Lib.LastIndexLaws
namespace Go.Eng
open Go.Proofs Go.Proofs.Tryz
abbrev Aq8:=List UInt8
abbrev Aq9:=List (List UInt8)
variable (s:CS)(c:UInt8)
theorem AaR:PC 260 [vc c] (Q (Ei c)):=by
 refine Ps CF func260 rfl C4 ?_;have e1:decide ((97:UInt8)<=c)=decide ((97:Int)<=(c.toNat:Int)):=Zw c 97 aa3;have e2:decide (c<=(122:UInt8))=decide ((c.toNat:Int)<=(122:Int)):=Zv c 122 aa3;have es:Ei c=(decide ((97:Int)<=(c.toNat:Int))&&decide ((c.toNat:Int)<=(122:Int))):=by grind [Ei]
 refine J ?_ ?_
 .intro h;refine J ?_ ?_
  .intro h2;exact C Q (show true=Ei c by simp_all)
  .intro h2;exact C Q (show false=Ei c by simp_all)
 .intro h;exact C Q (show false=Ei c by simp_all)
theorem vV:PC 261 [vc c] (Q (Ch c)):=by
 refine Ps CF func261 rfl C4 ?_;have e1:decide ((48:UInt8)<=c)=decide ((48:Int)<=(c.toNat:Int)):=Zw c 48 aa3;have e2:decide (c<=(57:UInt8))=decide ((c.toNat:Int)<=(57:Int)):=Zv c 57 aa3;have es:Ch c=(decide ((48:Int)<=(c.toNat:Int))&&decide ((c.toNat:Int)<=(57:Int))):=by grind [Ch]
 refine J ?_ ?_
 .intro h;refine J ?_ ?_
  .intro h2;exact C Q (show true=Ch c by simp_all)
  .intro h2;exact C Q (show false=Ch c by simp_all)
 .intro h;exact C Q (show false=Ch c by simp_all)
theorem Ajd:PC 380 [vc c] (Q (MW c)):=by
 refine Ps CF func380 rfl C4 ?_;have e1:decide ((65:UInt8)<=c)=decide ((65:Int)<=(c.toNat:Int)):=Zw c 65 aa3;have e2:decide (c<=(90:UInt8))=decide ((c.toNat:Int)<=(90:Int)):=Zv c 90 aa3;have es:MW c=(decide ((65:Int)<=(c.toNat:Int))&&decide ((c.toNat:Int)<=(90:Int))):=by grind [MW]
 refine J ?_ ?_
 .intro h;refine J ?_ ?_
  .intro h2;exact C Q (show true=MW c by simp_all)
  .intro h2;exact C Q (show false=MW c by simp_all)
 .intro h;exact C Q (show false=MW c by simp_all)
theorem Ajc:PC 360 [vc c] (Q (FD c)):=by
 have h1:=AaR c;have h2:=Ajd c;have h3:=vV c;have ew:FD c=(Ei c||MW c||Ch c||decide (c=95)):=rfl;rcases Bt (Ei c)with e | e
 .rw[e]at h1;refine Ps CF func360 rfl C4 (C1 (H (h1) ?_));exact C Q (show true=FD c by simp_all)
 rw[e]at h1;rcases Bt (MW c)with e2 | e2
 .rw[e2]at h2;refine Ps CF func360 rfl C4 (C1 (H (h1) (C1 (H (h2) ?_))));exact C Q (show true=FD c by simp_all)
 rw[e2]at h2;rcases Bt (Ch c)with e3 | e3
 .rw[e3]at h3;refine Ps CF func360 rfl C4 (C1 (H (h1) (C1 (H (h2) (C1 (H (h3) ?_))))));exact C Q (show true=FD c by simp_all)
 rw[e3]at h3;refine Ps CF func360 rfl C4 (C1 (H (h1) (C1 (H (h2) (C1 (H (h3) ?_))))));have eb:decide (c=95)=decide ((c.toNat:Int)=95):=by
  rw[DD,AP,AP];constructor
  .simp_all
  .intro h;exact HN.1 aa2
 refine J ?_ ?_
 .intro h;exact C Q (show true=FD c by simp_all)
 .intro h;exact C Q (show false=FD c by simp_all)
theorem Aj9(hs:s.data.toList.length<2^62):PC 323 [vs s] (Q (s.data.toList.all FD)):=by
 have EC:s.size=s.data.toList.length:=aa1
 refine Ps CF func323 rfl C4 (M {i:Nat // i<=s.data.toList.length/\∀j (hj:j<s.data.toList.length),j<i->FD s.data.toList[j]=true} (M (fun i=>⟨[(0,vs s),(3,G i.1)],[],Ab⟩) (M (fun i=>s.data.toList.length-i.1) (J (M ⟨0,Ai _,fun j _ h=>by omega⟩ ?_) ?_))))
 .exact⟨Z2,X,Fh,X⟩
 intro⟨i,h1,h2⟩;refine J ?_ ?_
 .intro h;have h:(i:Int)<(s.size:Nat):=h;have h:i<s.data.toList.length:=I
  refine M s.data.toList[i] (J ⟨by omega,by grind⟩ ?_);have hc:=Ajc s.data.toList[i];refine Be (Bt (FD s.data.toList[i])) (fun e=>?_) (fun e=>?_)
  .rw[e]at hc;refine C1 (H (hc) (J (by grind [As]) (M ⟨i+1,by omega,fun j hj IY=>?_⟩ ?_)))
   .grind
   .exact⟨by grind,Z2,X,Fh,X⟩
  .rw[e]at hc;refine C1 (H (hc) ?_);have er:s.data.toList.all FD=false:=by
    grind
   exact C Q er.symm
 .intro h;have h:¬(i:Int)<(s.size:Nat):=h;have er:s.data.toList.all FD=true:=AZ.2 fun c hc=>by
   grind [List.getElem_of_mem]
  exact C Q er.symm
abbrev kwB:List CS:=kwW.map bs
theorem Ajb:PC 325 [] (sl Ci kwB):=by
 refine Ps CF func325 rfl C4 ?_;exact .refl _
theorem Aja(l:List CS)(s:CS)(hl:CC l):PC 324 [sl Ci l,vs s] (Q (l.any fun q=>decide (q=s))):=by
 unfold CC at hl;refine Ps CF func324 rfl C4 (M {i:Nat // i<=l.length/\∀j (hj:j<l.length),j<i->l[j]≠s} (M (fun i=>⟨[(0,sl Ci l),(1,vs s),(5,G i.1)],[],Ab⟩) (M (fun i=>l.length-i.1) (J (M ⟨0,Ai _,fun j _ h=>by omega⟩ ?_) ?_))))
 .exact⟨Z3,X,Fh,X⟩
 intro⟨i,h1,h2⟩;refine J ?_ ?_
 .intro h;have h:i<l.length:=aa0
  have hg:l[i]?=some l[i]:=Ge h;refine M (Ci l[i]) (J (J I aa0) (J rfl ?_));refine J ?_ ?_
  .intro he;exact C Q (show true=_ from(Cs.2 ⟨l[i],Am h,by simp_all⟩).symm)
  .intro he;refine J (by grind [As]) (M ⟨i+1,by omega,fun j hj IY=>?_⟩ ?_)
   .grind
   .exact⟨by grind,Z3,X,Fh,X⟩
 .intro h;have h:¬i<l.length:=aa0
  have er:(l.any fun q=>decide (q=s))=false:=by
   grind [List.getElem_of_mem]
  exact C Q er.symm
theorem Ae5{w:Aq8}{s:CS}:bs w=s↔w=s.data.toList:=by
 constructor
 .intro h;rw[<-h];rfl
 .intro h;rw[h];rfl
theorem Ac1:(kwB.any fun q=>decide (q=s))=kwW.any (fun w=>decide (w=s.data.toList)):=by
 grind [Ae5]
theorem Aj5(hs:s.data.toList.length<2^62):PC 262 [vs s] (Q (Gd s.data.toList)):=by
 have EC:s.size=s.data.toList.length:=aa1
 obtain⟨N,hN⟩:∃N,N=Gd s.data.toList:=⟨_,rfl⟩;rw[<-hN];unfold Gd at hN;have wD:=Aj9 s hs;have rh:=Aja kwB s aa3;rw[Ac1]at rh;refine Ps CF func262 rfl C4 (J (fun h=>?_) (fun h=>?_))
 rotate_left
 .have e:s.data.toList=[]:=AI I;exact C Q (show false=N by simp_all)
 have he:s.data.toList.isEmpty=false:=by
  grind
 refine J (fun h2=>?_) (fun h2=>?_)
 rotate_left
 .exact C Q (show false=N by grind)
 refine AE (show ∃c l,s.data.toList=c::l by cases e:s.data.toList with | nil=>simp_all | cons c l=>simp_all) (fun c hc=>?_);refine AE hc (fun l hc=>?_);refine M c (J ⟨by decide,by show s.data[(0:Int).toNat]?=_;rw[<-BY,hc];rfl⟩ ?_);have wC:=AaR c;have hN:N=(Ei c&&s.data.toList.all FD&&!Xx s.data.toList):=by
  grind
 refine Be (Bt (Ei c)).symm (fun e=>?_) (fun e=>?_)
 .rw[e]at wC;refine C1 (H (wC) ?_);exact C Q (show false=N by simp_all)
 rw[e]at wC;refine C1 (H (wC) (Be (Bt (s.data.toList.all FD)).symm (fun e2=>?_) (fun e2=>?_)))
 .rw[e2]at wD;refine C1 (H (wD) ?_);exact C Q (show false=N by grind)
 rw[e2]at wD;refine C1 (H (wD) (C1 (H (Ajb) ?_)));rw[iC e2]at hN;refine Be (Bt (kwW.any (fun w=>decide (w=s.data.toList)))) (fun e3=>?_) (fun e3=>?_)
 .rw[e3]at rh;refine C1 (H (rh) ?_);exact C Q (show false=N by grind)
 .rw[e3]at rh;refine C1 (H (rh) ?_);exact C Q (show true=N by grind)
end Go.Eng
namespace Go.Proofs
open Go.Proofs.Tryz
open Go.Shelf
open Go.Eng(A0a)
def Tryz.laySplit_ren:Go.Shelf.Ren:=⟨fun | 146=>194 | 221=>263 | 268=>326 | 138=>327 | 143=>328 | 195=>361 | 197=>362 | 218=>363 | 219=>364 | 260=>381 | 217=>382 | 225=>383 | 224=>384 | 267=>385 | 266=>399 | 314=>400 | n=>n,fun | 9=>9 | 31=>144 | 3=>3 | 4=>4 | 0=>0 | 105=>422 | 21=>21 | 5=>5 | 46=>240 | 119=>444 | 139=>447 | 138=>446 | 146=>352 | 51=>299 | n=>n,fun | 1=>0 | 3=>1 | 4=>2 | n=>n⟩
theorem Tryz.laySplit:Go.Proofs.Lays.n146 prog Tryz.laySplit_ren:={
 mixed:=by kernel_rfl
 f138:=A0a func327
 f143:=A0a func328
 f146:=A0a func194
 f195:=A0a func361
 f197:=A0a func362
 f217:=A0a func382
 f218:=A0a func363
 f219:=A0a func364
 f221:=A0a func263
 f224:=A0a func384
 f225:=A0a func383
 f260:=A0a func381
 f266:=A0a func399
 f267:=A0a func385
 f268:=A0a func326
 f314:=A0a func400
 t0:=underlying0
 a0:=isAgg0
 z0:=sizeOf0
 v0:=zeroValue0
 t3:=underlying3
 a3:=isAgg3
 z3:=sizeOf3
 v3:=zeroValue3
 t4:=underlying4
 a4:=isAgg4
 z4:=sizeOf4
 v4:=zeroValue4
 t5:=underlying5
 a5:=isAgg5
 z5:=sizeOf5
 v5:=zeroValue5
 t9:=underlying9
 a9:=isAgg9
 z9:=sizeOf9
 v9:=zeroValue9
 t21:=underlying21
 a21:=isAgg21
 z21:=sizeOf21
 v21:=zeroValue21
 t31:=underlying144
 a31:=isAgg144
 z31:=sizeOf144
 v31:=zeroValue144
 t46:=underlying240
 a46:=isAgg240
 z46:=sizeOf240
 v46:=zeroValue240
 t51:=underlying299
 a51:=isAgg299
 z51:=sizeOf299
 v51:=zeroValue299
 t105:=underlying422
 a105:=isAgg422
 z105:=sizeOf422
 v105:=zeroValue422
 t119:=underlying444
 a119:=isAgg444
 z119:=sizeOf444
 t138:=underlying446
 a138:=isAgg446
 z138:=sizeOf446
 v138:=zeroValue446
 t139:=underlying447
 a139:=isAgg447
 z139:=sizeOf447
 v139:=zeroValue447
 t146:=underlying352
 a146:=isAgg352
 z146:=sizeOf352
 v146:=zeroValue352
 g1:=by kernel_rfl
 g3:=by kernel_rfl
 g4:=by kernel_rfl }
def Tryz.layLast_ren:Go.Shelf.Ren:=⟨fun | 148=>133 | 222=>201 | 223=>202 | 269=>267 | n=>n,fun | 9=>9 | 3=>3 | 4=>4 | 5=>5 | 146=>352 | 51=>299 | 46=>240 | n=>n,fun | n=>n⟩
theorem Tryz.layLast:Go.Proofs.Lays.n148 prog Tryz.layLast_ren:={
 mixed:=by kernel_rfl
 f148:=A0a func133
 f222:=A0a func201
 f223:=A0a func202
 f269:=A0a func267
 t3:=underlying3
 a3:=isAgg3
 z3:=sizeOf3
 v3:=zeroValue3
 t4:=underlying4
 a4:=isAgg4
 z4:=sizeOf4
 v4:=zeroValue4
 t5:=underlying5
 a5:=isAgg5
 z5:=sizeOf5
 v5:=zeroValue5
 t9:=underlying9
 a9:=isAgg9
 z9:=sizeOf9
 v9:=zeroValue9
 t46:=underlying240
 a46:=isAgg240
 z46:=sizeOf240
 v46:=zeroValue240
 t51:=underlying299
 a51:=isAgg299
 z51:=sizeOf299
 v51:=zeroValue299
 t146:=underlying352
 a146:=isAgg352
 z146:=sizeOf352
 v146:=zeroValue352 }
def Tryz.layCut_ren:Go.Shelf.Ren:=⟨fun | 103=>264 | 210=>329 | 206=>335 | n=>n,fun | 9=>9 | 4=>4 | 24=>261 | 3=>3 | n=>n,fun | n=>n⟩
theorem Tryz.layCut:Go.Proofs.Lays.n103 prog Tryz.layCut_ren:={
 mixed:=by kernel_rfl
 f103:=A0a func264
 f206:=A0a func335
 f210:=A0a func329
 t3:=underlying3
 a3:=isAgg3
 z3:=sizeOf3
 v3:=zeroValue3
 t4:=underlying4
 a4:=isAgg4
 z4:=sizeOf4
 v4:=zeroValue4
 t9:=underlying9
 a9:=isAgg9
 z9:=sizeOf9
 v9:=zeroValue9
 t24:=underlying261
 a24:=isAgg261
 z24:=sizeOf261
 v24:=zeroValue261 }
def Tryz.layCont_ren:Go.Shelf.Ren:=⟨fun | 144=>331 | 143=>328 | 219=>364 | 217=>382 | 225=>383 | 224=>384 | 267=>385 | 266=>399 | 314=>400 | n=>n,fun | 9=>9 | 4=>4 | 3=>3 | 5=>5 | 46=>240 | 146=>352 | 51=>299 | n=>n,fun | 1=>0 | n=>n⟩
theorem Tryz.layCont:Go.Proofs.Lays.n144 prog Tryz.layCont_ren:={
 mixed:=by kernel_rfl
 f143:=A0a func328
 f144:=A0a func331
 f217:=A0a func382
 f219:=A0a func364
 f224:=A0a func384
 f225:=A0a func383
 f266:=A0a func399
 f267:=A0a func385
 f314:=A0a func400
 t3:=underlying3
 a3:=isAgg3
 z3:=sizeOf3
 v3:=zeroValue3
 t4:=underlying4
 a4:=isAgg4
 z4:=sizeOf4
 v4:=zeroValue4
 t5:=underlying5
 a5:=isAgg5
 z5:=sizeOf5
 v5:=zeroValue5
 t9:=underlying9
 a9:=isAgg9
 z9:=sizeOf9
 v9:=zeroValue9
 t46:=underlying240
 a46:=isAgg240
 z46:=sizeOf240
 v46:=zeroValue240
 t51:=underlying299
 a51:=isAgg299
 z51:=sizeOf299
 v51:=zeroValue299
 t146:=underlying352
 a146:=isAgg352
 z146:=sizeOf352
 v146:=zeroValue352
 g1:=by kernel_rfl }
end Go.Proofs
namespace Go.Eng
open Go.Proofs Go.Proofs.Tryz
variable {x:CS}{l:Aq8}{c:UInt8}(s p:CS)
abbrev gJ:CS:=⟨#[47]⟩
abbrev BF:List CS:=Go.Lib.splitB gJ 0 (Go.Lib.countB s gJ) s
theorem QT:(BF s).map (·.data.toList)=Cy 47 s.data.toList:=pn s 47
abbrev Gw:List AV:=[vs s]
theorem Aej(hs:Er s):PC 194 [vs s,vs gJ] (sl Gw (BF s)):=by
 unfold Er at hs;have h:=oR (P:=prog) (f:=194) (args:=[vs s,vs gJ]) [.string s,.string gJ] ((BF s).map Value.string) 9 (j9 194 func194 aa5 rfl) rfl (fun x hx=>by
  obtain⟨y,_,rfl⟩:=Ap.1 hx;rfl) (fun w hm=>by
  obtain⟨m,hm⟩:=hm;have hl:(BF s).length=Go.Lib.countB s gJ+1:=Go.Lib.splitB_all gJ aa3 0 _ s rfl;refine(Any.strings_Split Tryz.laySplit aa5 s gJ m w I hm aa3).mono ?_
  rintro e w' ⟨rfl,rfl⟩
  exact⟨by simp_all,rfl⟩)
 rw[Bo]at h;exact h
theorem AiQ(hs:Er s):PC 133 [vs s,vs p] (G (Go.Lib.lastIndex s.data.toList p.data.toList)):=by
 unfold Er at hs;exact L7 [.string s,.string p] (.int .i64 (Go.Lib.lastIndex s.data.toList p.data.toList)) (j9 133 func133 aa5 rfl) rfl (fun g w=>.v _ _) fun w _=>Any.strings_LastIndex Tryz.layLast s p I w
theorem Aj0:PC 264 [vs s,vs p] (.tup [vs ⟨(Go.Lib.trimPrefix s.data.toList p.data.toList).toArray⟩,Q (Go.Lib.hasPrefix s.data.toList p.data.toList)]):=by
 exact L7 [.string s,.string p] _ (j9 264 func264 aa5 rfl) rfl (fun g w=>tH [.string ⟨(Go.Lib.trimPrefix s.data.toList p.data.toList).toArray⟩,.bool (Go.Lib.hasPrefix s.data.toList p.data.toList)]) fun w _=>Any.strings_CutPrefix Tryz.layCut s p w
theorem Aj7(hs:Er s):PC 331 [vs s,vs p] (Q (Go.Lib.contains s.data.toList p.data.toList)):=by
 unfold Er at hs;exact L7 [.string s,.string p] (.bool (Go.Lib.contains s.data.toList p.data.toList)) (j9 331 func331 aa5 rfl) rfl (fun g w=>.v _ _) fun w hm=>by
  obtain⟨m,hm⟩:=hm;exact Any.strings_Contains Tryz.layCont s p m w I hm
theorem lI:∀x y:Aq8,QV x y=x.isPrefixOf y
 | [],_=>by simp[QV]
 |_::_,[]=>rfl
 |a::x,b::y=>by
  rw[QV,List.isPrefixOf_cons_cons,lI x y]
  rfl
theorem rU(x:Aq8):∀y:Aq8,vt x y=Go.Lib.contains y x
 | []=>by
  unfold Go.Lib.contains Go.Lib.index;cases x<;>rfl
 |b::y=>by
  rw[vt,lI,rU x y]
  grind [Go.Lib.contains,Go.Lib.index]
theorem Pg:∀(l:Aq8) (h:0<l.length),l.headD 0=l[0]
 | [],h=>by grind
 |_::_,_=>rfl
abbrev zV:CS:=⟨⟨iD⟩⟩
theorem Aj2(hs:Er s):PC 266 [vs s] (Q (Xx s.data.toList)):=by
 unfold Er at hs;have hc:=Aj7 zV ((⟨#[32]⟩++s)++⟨#[32]⟩) (By aa5);have e:Go.Lib.contains zV.data.toList ((⟨#[32]⟩++s:CS)++⟨#[32]⟩).data.toList=Xx s.data.toList:=by
  unfold Xx;rw[rU]
  congr 1
 rw[e]at hc;refine Ps CF func266 rfl C4 (J (by show(((1+s.size:Nat)):Int)<=_;omega) ?_);refine J (by show(((⟨#[32]⟩++s:CS).size+1:Nat):Int)<=_;rw[Av];show(((1+s.size)+1:Nat):Int)<=_;omega) ?_;refine C1 (H (hc) ?_);exact .refl _
theorem AiU(hs:Er s):PC 196 [vs s] (Q (Gd s.data.toList)):=by
 have hk:=Aj2 s hs;have hw:=AaM s 265 FD Aj1 (by unfold Er at hs;simp;omega);have EC:s.size=s.data.toList.length:=aa1
 have en:Gd s.data.toList=(!s.data.toList.isEmpty&&decide (s.data.toList.length<=32)&&Ei (s.data.toList.headD 0)&&s.data.toList.all FD&&!Xx s.data.toList):=rfl
 by_cases h0:s=⟨#[]⟩
 .subst h0;refine Ps CF func196 rfl C4 (J ?_ ?_)
  .intro h;exact absurd rfl (show(⟨#[]⟩:CS)≠⟨#[]⟩from h)
  .intro _;exact .refl _
 have h0' : s.data.toList≠[]:=fun e=>h0 (by
  have:s.data=#[]:=aa0
  cases s;simp_all)
 have CN:0<s.data.toList.length:=List.length_pos_iff.2 h0';have wT:s.data.toList.isEmpty=false:=by
  grind
 have hhd:s.data.toList.headD 0=s.data.toList[0]:=Pg _ CN;have hsm:=AaN s.data.toList[0];refine Ps CF func196 rfl C4 (J ?_ ?_)
 rotate_left
 .intro h;exact absurd h0 h
 intro _;refine J ?_ ?_
 rotate_left
 .intro h;exact C Q (show false=Gd s.data.toList by grind)
 intro h;refine M s.data.toList[0] (J ⟨B6 _,vJ s 0 CN⟩ (Be (Bt (Ei s.data.toList[0])) (fun e1=>?_) (fun e1=>?_)))
 rotate_left
 .rw[e1]at hsm;refine C1 (H (hsm) ?_);exact C Q (show false=Gd s.data.toList by grind)
 rw[e1]at hsm;refine C1 (H (hsm) (Be (Bt (s.data.toList.all FD)) (fun e2=>?_) (fun e2=>?_)))
 rotate_left
 .rw[e2]at hw;refine C1 (H (hw) ?_);exact C Q (show false=Gd s.data.toList by grind)
 rw[e2]at hw;refine C1 (H (hw) ?_);have ef:Gd s.data.toList=!Xx s.data.toList:=aa2
 refine Be (Bt (Xx s.data.toList)) (fun e3=>?_) (fun e3=>?_)
 .rw[e3]at hk;refine C1 (H (hk) ?_);exact C Q (show false=Gd s.data.toList by grind)
 .rw[e3]at hk;refine C1 (H (hk) ?_);exact C Q (show true=Gd s.data.toList by grind)
abbrev bJ:Option Int->AV
 |some n=>.tup [G n,Q true]
 |none=>.tup [G 0,Q false]
theorem UQ{z:Int}(h0:0<=z)(h1:z<256):IntKind.u8.wrap z=z:=by
 show z % 256=z;omega
theorem Js(h:Ch c=true):48<=c.toNat/\c.toNat<=57:=by
 grind [Ch,UInt8.le_iff_toNat_le]
theorem Lh(r:Aq8)(i:Nat)(h:i<r.length):DF (r.take (i+1))=10*DF (r.take i)+((r[i].toNat:Int)-48):=by
 grind [DF,List.take_add_one]
theorem AiT(hs:Er s):PC 195 [vs s] (bJ (F9 s.data.toList)):=by
 unfold Er at hs;have hc:=Aj0 s ⟨#[118]⟩
 by_cases hp:∃r,s.data.toList=118::r
 .obtain⟨r,hr⟩:=hp;have e1:Go.Lib.hasPrefix s.data.toList (⟨#[118]⟩:CS).data.toList=true:=by rw[hr];rfl
  have e2:Go.Lib.trimPrefix s.data.toList (⟨#[118]⟩:CS).data.toList=r:=by grind [Go.Lib.trimPrefix]
  rw[e1,e2]at hc;have hv:F9 s.data.toList=if(r.isEmpty||decide (3<r.length)||(decide (1<r.length)&&decide (r.headD 0=48))||!r.all Ch)=true then none else some (DF r):=by rw[hr];rfl
  have hrl:r.length<s.size:=by
   have:s.size=s.data.toList.length:=aa1
   simp_all
  generalize hB:(⟨r.toArray⟩:CS)=rB at hc;have hBl:rB.data.toList=r:=aa2
  have hBs:rB.size=r.length:=by rw[<-hB];rfl
  have hw:=AaM rB 200 Ch AaO aa2;rw[hBl]at hw;have no:∀{b:Bool},b=true->(if b=true then none else some (DF r))=(none:Option Int):=fun h=>AO h;refine Ps (FX []) func195 rfl C4 (C1 (H (hc) (J ?_ ?_)))
  .intro h
   have:r=[]:=aa0
   exact C bJ (show(none:Option Int)=F9 s.data.toList by simp_all)
  intro h;have Ec:r≠[]:=fun e=>h aa0;have CN:0<r.length:=List.length_pos_iff.2 Ec;have wT:r.isEmpty=false:=by
   simp_all
  refine J ?_ ?_
  .intro h2;exact C bJ (show(none:Option Int)=F9 s.data.toList by grind)
  intro h2;have hl3:r.length<=3:=I
  have d3:decide (3<r.length)=false:=Al I;refine J ?_ ?_
  .intro h3;have AjN:rB.data[(0:Int).toNat]?=some r[0]:=by
    grind
   refine M r[0] (J ⟨B6 _,AjN⟩ ?_);have hh:=Pg r CN;refine J ?_ ?_
   .intro h4
    have:r[0]=48:=HN.1 aa2
    exact C bJ (show(none:Option Int)=F9 s.data.toList by grind)
   intro h4;have eo:(decide (1<r.length)&&decide (r.headD 0=48))=false:=by rw[hh,Al (show ¬r[0]=48 from fun e=>h4 aa0),Bool.and_false]
   have hv2:F9 s.data.toList=if(!r.all Ch)=true then none else some (DF r):=aa2
   refine Be (Bt (r.all Ch)) (fun e3=>?_) (fun e3=>?_)
   rotate_left
   .rw[e3]at hw;refine C1 (H (hw) ?_);exact C bJ (show(none:Option Int)=F9 s.data.toList by simp_all)
   rw[e3]at hw;refine C1 (H (hw) ?_);have hv3:F9 s.data.toList=some (DF r):=aa0
   have z0:DF (r.take 0)=0:=rfl;refine M {i:Nat // i<=r.length/\0<=DF (r.take i)/\(i=0->DF (r.take i)<=0)/\(i<=1->DF (r.take i)<=9)/\(i<=2->DF (r.take i)<=99)/\DF (r.take i)<=999} (M (fun i=>⟨[(0,vs rB),(5,G (DF (r.take i.1))),(39,G rB.size),(40,G i.1)],[],Ab⟩) (M (fun i=>r.length-i.1) (J (M ⟨0,Ai _,by omega,fun _=>by omega,fun _=>by omega,fun _=>by omega,by omega⟩ ?_) ?_)))
   .exact⟨Z4,X,Fh,X⟩
   intro⟨i,i1,i2,i3,i4,i5,i6⟩;refine J ?_ ?_
   .intro h;have h:(i:Int)<(rB.size:Nat):=h;have h:i<r.length:=I
    have hdg:Ch r[i]=true:=AZ.1 e3 _ (Am h);have zB:=Js hdg;have Uw:=Lh r i h;have vr:IntKind.u8.wrap ((r[i].toNat:Int)-48)=(r[i].toNat:Int)-48:=UQ I I;have Ij:rB.data[((i:Nat):Int).toNat]?=some r[i]:=aa2
    refine J (by show As (10*DF (r.take i));unfold As;omega) (M r[i] (J ⟨by omega,Ij⟩ ?_));refine J (by show As (IntKind.u8.wrap ((r[i].toNat:Int)-48));rw[vr];unfold As;omega) ?_;refine J (by show As (10*DF (r.take i)+IntKind.u8.wrap ((r[i].toNat:Int)-48));rw[vr];unfold As;omega) ?_;refine J (Ii i I) ?_;have e5:G (10*DF (r.take i)+IntKind.u8.wrap ((r[i].toNat:Int)-48))=G (DF (r.take (i+1))):=aa0
    refine M ⟨i+1,by omega,by omega,fun _=>by omega,fun _=>by omega,fun _=>by omega,by omega⟩ ?_;exact⟨Dl r.length i I,⟨Z,⟨e5,rfl⟩,Z,Z,X⟩,X,Fh,X⟩
   .intro h;have h:¬(i:Int)<(rB.size:Nat):=h;have e6:AV.tup [G (DF (r.take i)),Q true]=bJ (F9 s.data.toList):=aa2
    exact .of_eq e6
  .intro h3;have h3:¬(1:Int)<((rB.size:Nat):Int):=h3;have eo:(decide (1<r.length)&&decide (r.headD 0=48))=false:=aa2
   have hv2:F9 s.data.toList=if(!r.all Ch)=true then none else some (DF r):=aa2
   refine Be (Bt (r.all Ch)) (fun e3=>?_) (fun e3=>?_)
   rotate_left
   .rw[e3]at hw;refine C1 (H (hw) ?_);exact C bJ (show(none:Option Int)=F9 s.data.toList by simp_all)
   rw[e3]at hw;refine C1 (H (hw) ?_);have hv3:F9 s.data.toList=some (DF r):=aa0
   have z0:DF (r.take 0)=0:=rfl;refine M {i:Nat // i<=r.length/\0<=DF (r.take i)/\(i=0->DF (r.take i)<=0)/\(i<=1->DF (r.take i)<=9)/\(i<=2->DF (r.take i)<=99)/\DF (r.take i)<=999} (M (fun i=>⟨[(0,vs rB),(5,G (DF (r.take i.1))),(39,G rB.size),(40,G i.1)],[],Ab⟩) (M (fun i=>r.length-i.1) (J (M ⟨0,Ai _,by omega,fun _=>by omega,fun _=>by omega,fun _=>by omega,by omega⟩ ?_) ?_)))
   .exact⟨Z4,X,Fh,X⟩
   intro⟨i,i1,i2,i3,i4,i5,i6⟩;refine J ?_ ?_
   .intro h;have h:(i:Int)<(rB.size:Nat):=h;have h:i<r.length:=I
    have hdg:Ch r[i]=true:=AZ.1 e3 _ (Am h);have zB:=Js hdg;have Uw:=Lh r i h;have vr:IntKind.u8.wrap ((r[i].toNat:Int)-48)=(r[i].toNat:Int)-48:=UQ I I;have Ij:rB.data[((i:Nat):Int).toNat]?=some r[i]:=aa2
    refine J (by show As (10*DF (r.take i));unfold As;omega) (M r[i] (J ⟨by omega,Ij⟩ ?_));refine J (by show As (IntKind.u8.wrap ((r[i].toNat:Int)-48));rw[vr];unfold As;omega) ?_;refine J (by show As (10*DF (r.take i)+IntKind.u8.wrap ((r[i].toNat:Int)-48));rw[vr];unfold As;omega) ?_;refine J (Ii i I) ?_;have e5:G (10*DF (r.take i)+IntKind.u8.wrap ((r[i].toNat:Int)-48))=G (DF (r.take (i+1))):=aa0
    refine M ⟨i+1,by omega,by omega,fun _=>by omega,fun _=>by omega,fun _=>by omega,by omega⟩ ?_;exact⟨Dl r.length i I,⟨Z,⟨e5,rfl⟩,Z,Z,X⟩,X,Fh,X⟩
   .intro h;have h:¬(i:Int)<(rB.size:Nat):=h;have e6:AV.tup [G (DF (r.take i)),Q true]=bJ (F9 s.data.toList):=aa2
    exact .of_eq e6
 .have e1:Go.Lib.hasPrefix s.data.toList (⟨#[118]⟩:CS).data.toList=false:=by
   cases hl:s.data.toList with
   |nil=>rfl
   |cons a l=>
    have:a≠118:=fun e=>hp ⟨l,by simp_all⟩
    show(List.isPrefixOf [118] (a::l))=false
    grind
  have hv:F9 s.data.toList=none:=by
   cases hl:s.data.toList with
   |nil=>rfl
   |cons a l=>
    have:a≠118:=fun e=>hp ⟨l,by simp_all⟩
    show(if a=118 then _ else none)=none;simp_all
  rw[e1]at hc;refine Ps CF func195 rfl C4 (C1 (H (hc) ?_));exact C bJ hv.symm
abbrev Se:Option Int->AV
 |some n=>.tup [G n,G 0]
 |none=>.tup [G 0,G 4]
theorem Me(c:UInt8):∀(s x:Aq8),x∈Cy c s->x.length<=s.length
 | [],x,h=>by
  grind [Cy]
 |b::r,x,h=>by
  have ih:=Me c r
  grind [Cy]
theorem tj{p:CS}(hp:Er p)(hx:x∈BF p):Er x:=by
 have h:x.data.toList∈Cy 47 p.data.toList:=by grind [QT]
 have:=Me 47 _ _ h
 unfold Er at *
 have e1:x.size=x.data.toList.length:=aa1
 have e2:p.size=p.data.toList.length:=aa1
 omega
theorem oP:(BF p).length=(Cy 47 p.data.toList).length:=by grind [QT]
theorem oQ:0<(BF p).length:=by
 rw[show(BF p).length=Go.Lib.countB p gJ+1 from Go.Lib.splitB_all gJ aa3 0 _ p rfl];omega
theorem oO:(BF p).length<=p.size+1:=by
 rw[show(BF p).length=Go.Lib.countB p gJ+1 from Go.Lib.splitB_all gJ aa3 0 _ p rfl]
 have:=Go.Lib.countB_le gJ aa3 p.size p (Af _);omega
theorem iQ(h:(BF p).length-1<(BF p).length):(Cy 47 p.data.toList).getLastD []=((BF p)[(BF p).length-1]).data.toList:=by
 grind [QT]
theorem oN:(Cy 47 p.data.toList).all Hy=(BF p).all fun x=>Hy x.data.toList:=by
 grind [QT]
theorem Aec(hp:Er p):PC 131 [vs p] (Se (AR p)):=by
 have nJ:=oO p;have Afr:=oQ p;have hp1:(BF p).length-1<(BF p).length:=I
 have EC:p.size=p.data.toList.length:=aa1
 have hfp:∀{x},x∈BF p->Er x:=fun h=>tj hp h;unfold Er at hp;have kG:((BF p).map Gw)[((((BF p).map Gw).length:Int)-1).toNat]?=some (Gw (BF p)[(BF p).length-1]):=by
  rw[Lm,show(((BF p).length:Int)-1).toNat=(BF p).length-1 by omega];grind
 have hv:=AiT (BF p)[(BF p).length-1] (hfp (Am hp1));have em:AR p=match F9 ((BF p)[(BF p).length-1]).data.toList with
  |none=>none
  |some n=>if(decide (64<p.data.toList.length)||decide ((BF p).length<2))=true then none else if((BF p).all fun x=>Hy x.data.toList)=true then some n else none:=by
  unfold AR Sf;rw[iQ p hp1,oN,<-oP];cases F9 ((BF p)[(BF p).length-1]).data.toList<;>grind [F9]
 cases hve:F9 ((BF p)[(BF p).length-1]).data.toList with
 |none=>
  rw[hve]at hv em;refine Ps (FX []) func131 rfl C4 (C1 (H (Aej p hp) (J (by show As ((((BF p).map Gw).length:Int)-1);unfold As;rw[Lm];omega) ?_)));refine M (Gw (BF p)[(BF p).length-1]) (J (J aa2 kG) (J rfl (C1 (H (hv) ?_))));exact C Se em.symm
 |some n=>
  rw[hve]at hv em;refine Ps (FX []) func131 rfl C4 (C1 (H (Aej p hp) (J (by show As ((((BF p).map Gw).length:Int)-1);unfold As;rw[Lm];omega) ?_)));refine M (Gw (BF p)[(BF p).length-1]) (J (J aa2 kG) (J rfl (C1 (H (hv) (J ?_ ?_)))))
  .intro h;exact C Se (show(none:Option Int)=AR p by grind)
  intro h;have d1:decide (64<p.data.toList.length)=false:=Al I;refine J ?_ ?_
  .intro h2;rw[Lm]at h2;exact C Se (show(none:Option Int)=AR p by grind)
  intro h2;have d2:decide ((BF p).length<2)=false:=Al (by rw[Lm]at h2;omega);have em2:AR p=if((BF p).all fun x=>Hy x.data.toList)=true then some n else none:=aa2
  refine M {i:Nat // i<=(BF p).length/\∀j (hj:j<(BF p).length),j<i->Hy ((BF p)[j]).data.toList=true} (M (fun i=>⟨[(5,G n),(33,sl Gw (BF p)),(34,G ((BF p).map Gw).length),(35,G i.1)],[],Ab⟩) (M (fun i=>(BF p).length-i.1) (J (M ⟨0,Ai _,fun j _ h=>by omega⟩ ?_) ?_)))
  .exact⟨Z4,X,Fh,X⟩
  intro⟨i,i1,i2⟩;refine J ?_ ?_
  .intro h;have h:i<(BF p).length:=by simpa using h
   have hg:(BF p)[i]?=some (BF p)[i]:=Ge h;refine M (Gw (BF p)[i]) (J (J I (by simp[hg])) (J rfl ?_));have hfi:=hfp (Am h);have hn:=AiU (BF p)[i] hfi;have ha:=AaM (BF p)[i] 198 WJ AiV (by unfold Er at hfi;have e1:(BF p)[i].size=(BF p)[i].data.toList.length:=aa1;omega);have no:Hy ((BF p)[i]).data.toList=false->(none:Option Int)=AR p:=fun e=>by
    rw[em2,AB];intro HE
    have:=AZ.1 HE _ (Am h)
    grind
   refine Be (Bt (Gd ((BF p)[i]).data.toList)) (fun e1=>?_) (fun e1=>?_)
   rotate_left
   .rw[e1]at hn;refine C1 (H (hn) ?_);exact C Se (no (by unfold Hy;grind))
   rw[e1]at hn;refine C1 (H (hn) (Be (Bt (((BF p)[i]).data.toList.all WJ)) (fun e2=>?_) (fun e2=>?_)))
   rotate_left
   .rw[e2]at ha;refine C1 (H (ha) ?_);exact C Se (no (by unfold Hy;grind))
   rw[e2]at ha;refine C1 (H (ha) (J (Ii i I) (M ⟨i+1,by omega,fun j hj IY=>?_⟩ ?_)))
   .rcases BR j i with z | z
    .exact i2 j hj z
    .have:j=i:=I
     subst this;unfold Hy;grind
   .exact⟨by show(BF p).length-(i+1)<(BF p).length-i;omega,Z4,X,Fh,X⟩
  .intro h;have h:¬i<(BF p).length:=by simpa using h
   have e:some n=AR p:=by
    rw[em2,AO];exact AZ.2 fun x hx=>by
     obtain⟨j,hj,rfl⟩:=Om hx;exact i2 j hj I
   exact C Se e
theorem ua{s:CS}:Hy s.data.toList=(s.data.toList.all WJ&&Gd s.data.toList):=by
 grind [Hy]
theorem AiY(hs:s.data.toList.length<2^62):PC 191 [vs s] (Q (Hy s.data.toList)):=by
 have EC:s.size=s.data.toList.length:=aa1
 have Ajt:=Aj5 s hs;rw[ua];refine Ps CF func191 rfl C4 (M {i:Nat // i<=s.data.toList.length/\∀j (hj:j<s.data.toList.length),j<i->WJ s.data.toList[j]=true} (M (fun i=>⟨[(0,vs s),(3,G i.1)],[],Ab⟩) (M (fun i=>s.data.toList.length-i.1) (J (M ⟨0,Ai _,fun j _ h=>by omega⟩ ?_) ?_))))
 .exact⟨Z2,X,Fh,X⟩
 intro⟨i,h1,h2⟩;refine J ?_ ?_
 .intro h;have h:(i:Int)<(s.size:Nat):=h;have h:i<s.data.toList.length:=I
  have Ij:(0:Int)<=i/\s.data[((i:Nat):Int).toNat]?=some s.data.toList[i]:=⟨by omega,by grind⟩;have nx:WJ s.data.toList[i]=true->∀j (hj:j<s.data.toList.length),j<i+1->WJ s.data.toList[j]=true:=fun e j hj IY=>by
   grind
  refine M s.data.toList[i] (J Ij ?_);have h3:=AaR s.data.toList[i];have h4:=vV s.data.toList[i];refine Be (Bt (Ei s.data.toList[i])) (fun e=>?_) (fun e=>?_)
  .rw[e]at h3;refine C1 (H (h3) (J (by grind [As]) (M ⟨i+1,by omega,nx aa2⟩ ?_)));exact⟨by grind,Z2,X,Fh,X⟩
  rw[e]at h3;refine C1 (H (h3) (M s.data.toList[i] (J Ij (Be (Bt (Ch s.data.toList[i])) (fun e2=>?_) (fun e2=>?_)))))
  .rw[e2]at h4;refine C1 (H (h4) (J (by grind [As]) (M ⟨i+1,by omega,nx aa2⟩ ?_)));exact⟨by grind,Z2,X,Fh,X⟩
  rw[e2]at h4;refine C1 (H (h4) ?_);have er:s.data.toList.all WJ=false:=by
   grind
  exact C Q aa2
 .intro h;have h:¬(i:Int)<(s.size:Nat):=h;have er:s.data.toList.all WJ=true:=AZ.2 fun c hc=>by
   grind [List.getElem_of_mem]
  refine C1 (H (Ajt) ?_);exact C Q aa2
abbrev XI:Option Int->AV
 |some n=>G n
 |none=>G (-1)
theorem AiZ(hs:s.data.toList.length<2^62):PC 192 [vs s] (XI (F9 s.data.toList)):=by
 have EC:s.size=s.data.toList.length:=aa1
 refine Ps (FX [3]) func192 rfl C4 (J (fun h=>?_) (fun h=>?_))
 .exact C XI (show(none:Option Int)=F9 s.data.toList by
   cases hs:s.data.toList with
   |nil=>rfl
   |cons c r=>
    cases r<;>grind [F9])
 refine AE (show ∃c r,s.data.toList=c::r by
  cases e:s.data.toList<;>simp_all) (fun c hc=>?_)
 refine AE hc (fun r hr0=>?_);have hrl:s.size=r.length+1:=aa0
 have hv0:F9 s.data.toList=if c=118 then(if(r.isEmpty||decide (3<r.length)||(decide (1<r.length)&&decide (r.headD 0=48))||!r.all Ch)=true then none else some (DF r))else none:=by rw[hr0];rfl
 refine J (fun h2=>?_) (fun h2=>?_)
 .exact C XI (show(none:Option Int)=F9 s.data.toList by grind)
 refine M c (J ⟨by decide,by show s.data[(0:Int).toNat]?=_;rw[<-BY,hr0];rfl⟩ ?_);refine J (fun h3=>?_) (fun h3=>?_)
 .have h3:¬c=118:=fun e=>h3 aa0;exact C XI (show(none:Option Int)=F9 s.data.toList by simp_all)
 have h3:c=118:=HN.1 aa2;have hr:s.data.toList=118::r:=aa0
 have hv:F9 s.data.toList=if(r.isEmpty||decide (3<r.length)||(decide (1<r.length)&&decide (r.headD 0=48))||!r.all Ch)=true then none else some (DF r):=aa0
 have CN:0<r.length:=I
 have wT:r.isEmpty=false:=by
  grind
 have hl3:r.length<=3:=I
 have d3:decide (3<r.length)=false:=Al I;have z0:DF (r.take 0)=0:=rfl;have hh:=Pg r CN;refine M r[0] (J ⟨by decide,by show s.data[(1:Int).toNat]?=_;rw[<-BY,hr0];simp_all⟩ ?_);refine J (fun h4=>?_) (fun h4=>?_)
 .have h4:r[0]=48:=HN.1 aa2;refine J (fun h5=>?_) (fun h5=>?_)
  .exact C XI (show(none:Option Int)=F9 s.data.toList by grind)
  have eo:(decide (1<r.length)&&decide (r.headD 0=48))=false:=aa2
  refine cU [(0,vs s)] [] Z1 X (M {i:Nat // i<=r.length/\(∀j (hj:j<r.length),j<i->Ch r[j]=true)/\0<=DF (r.take i)/\(i=0->DF (r.take i)<=0)/\(i<=1->DF (r.take i)<=9)/\(i<=2->DF (r.take i)<=99)/\DF (r.take i)<=999} (M (fun i=>⟨[(0,vs s),(3,G (DF (r.take i.1))),(4,G (1+(i.1:Int)))],[],Ab⟩) (M (fun i=>r.length-i.1) (J (M ⟨0,Ai _,fun j _ h=>by omega,by omega,fun _=>by omega,fun _=>by omega,fun _=>by omega,by omega⟩ ?_) ?_))))
  .exact⟨Z3,X,Fh,X⟩
  intro⟨i,i1,i0,i2,i3,i4,i5,i6⟩;refine J ?_ ?_
  .intro h;have h:1+(i:Int)<(s.size:Nat):=h;have h:i<r.length:=I
   have Ij:(0:Int)<=1+(i:Int)/\s.data[(1+(i:Int)).toNat]?=some r[i]:=⟨by omega,by rw[show(1+(i:Int)).toNat=i+1 by omega,<-BY,hr,List.getElem?_cons_succ];simp_all⟩;refine M r[i] (J Ij ?_);have hc:=vV r[i];refine Be (Bt (Ch r[i])).symm (fun e=>?_) (fun e=>?_)
   .rw[e]at hc;refine C1 (H (hc) ?_);have HE:r.all Ch=false:=by
     grind
    exact C XI (show(none:Option Int)=F9 s.data.toList by simp_all)
   rw[e]at hc;refine C1 (H (hc) ?_);have zB:=Js e;have Uw:=Lh r i h;have vr:IntKind.u8.wrap ((r[i].toNat:Int)-48)=(r[i].toNat:Int)-48:=UQ I I;refine J (by show As (10*DF (r.take i));unfold As;omega) (M r[i] (J Ij (J (by show As (IntKind.u8.wrap ((r[i].toNat:Int)-48));rw[vr];unfold As;omega) ?_)));refine J (by show As (10*DF (r.take i)+IntKind.u8.wrap ((r[i].toNat:Int)-48));rw[vr];unfold As;omega) ?_;refine J (by show As (1+(i:Int)+1);unfold As;omega) ?_;have e5:G (10*DF (r.take i)+IntKind.u8.wrap ((r[i].toNat:Int)-48))=G (DF (r.take (i+1))):=aa0
   have e6:G (1+(i:Int)+1)=G (1+((i+1:Nat):Int)):=Aa G I;refine M ⟨i+1,by omega,fun j hj IY=>?_,by omega,fun _=>by omega,fun _=>by omega,fun _=>by omega,by omega⟩ ?_
   .grind
   .exact⟨Dl r.length i I,⟨Z,⟨e5,rfl⟩,⟨e6,rfl⟩,X⟩,X,Fh,X⟩
  .intro h;have h:¬1+(i:Int)<(s.size:Nat):=h;have e3:r.all Ch=true:=AZ.2 fun c hc=>by
    grind [List.getElem_of_mem]
   have e6:G (DF (r.take i))=XI (F9 s.data.toList):=aa2
   exact .of_eq e6
 have eo:(decide (1<r.length)&&decide (r.headD 0=48))=false:=by rw[hh,Al (show ¬r[0]=48 from fun e=>h4 aa0),Bool.and_false]
 refine cU [(0,vs s)] [] Z1 X (M {i:Nat // i<=r.length/\(∀j (hj:j<r.length),j<i->Ch r[j]=true)/\0<=DF (r.take i)/\(i=0->DF (r.take i)<=0)/\(i<=1->DF (r.take i)<=9)/\(i<=2->DF (r.take i)<=99)/\DF (r.take i)<=999} (M (fun i=>⟨[(0,vs s),(3,G (DF (r.take i.1))),(4,G (1+(i.1:Int)))],[],Ab⟩) (M (fun i=>r.length-i.1) (J (M ⟨0,Ai _,fun j _ h=>by omega,by omega,fun _=>by omega,fun _=>by omega,fun _=>by omega,by omega⟩ ?_) ?_))))
 .exact⟨Z3,X,Fh,X⟩
 intro⟨i,i1,i0,i2,i3,i4,i5,i6⟩;refine J ?_ ?_
 .intro h;have h:1+(i:Int)<(s.size:Nat):=h;have h:i<r.length:=I
  have Ij:(0:Int)<=1+(i:Int)/\s.data[(1+(i:Int)).toNat]?=some r[i]:=⟨by omega,by rw[show(1+(i:Int)).toNat=i+1 by omega,<-BY,hr,List.getElem?_cons_succ];simp_all⟩;refine M r[i] (J Ij ?_);have hc:=vV r[i];refine Be (Bt (Ch r[i])).symm (fun e=>?_) (fun e=>?_)
  .rw[e]at hc;refine C1 (H (hc) ?_);have HE:r.all Ch=false:=by
    grind
   exact C XI (show(none:Option Int)=F9 s.data.toList by simp_all)
  rw[e]at hc;refine C1 (H (hc) ?_);have zB:=Js e;have Uw:=Lh r i h;have vr:IntKind.u8.wrap ((r[i].toNat:Int)-48)=(r[i].toNat:Int)-48:=UQ I I;refine J (by grind [As]) (M r[i] (J Ij (J (by grind [As]) (J (by show As (10*DF (r.take i)+IntKind.u8.wrap ((r[i].toNat:Int)-48));rw[vr];unfold As;omega) ?_))));refine J (by grind [As]) ?_;have e5:G (10*DF (r.take i)+IntKind.u8.wrap ((r[i].toNat:Int)-48))=G (DF (r.take (i+1))):=aa0
  have e6:G (1+(i:Int)+1)=G (1+((i+1:Nat):Int)):=Aa G I;refine M ⟨i+1,by omega,fun j hj IY=>?_,by omega,fun _=>by omega,fun _=>by omega,fun _=>by omega,by omega⟩ ?_
  .grind
  .exact⟨Dl r.length i I,⟨Z,⟨e5,rfl⟩,⟨e6,rfl⟩,X⟩,X,Fh,X⟩
 .intro h;have h:¬1+(i:Int)<(s.size:Nat):=h;have e3:r.all Ch=true:=AZ.2 fun c hc=>by
   grind [List.getElem_of_mem]
  have e6:G (DF (r.take i))=XI (F9 s.data.toList):=aa2
  exact .of_eq e6
abbrev gj(l:Aq8):List CS:=(Cy 47 l).map bs
def Zb:List (Aq8)->UInt8->List (Aq8)
 | [],_=>[]
 | [x],b=>[x++[b]]
 |x::l,b=>x::Zb l b
theorem Lu(c:UInt8)(s:Aq8):Cy c s≠[]:=by
 cases s<;>grind [Cy]
theorem WU(c:UInt8):∀s:Aq8,Cy c (s++[c])=Cy c s++[[]]
 | []=>by simp[Cy]
 |b::r=>by
  rw[FN,Cy,WU c r,Cy]
  by_cases e:b=c
  all_goals grind [Lu]
theorem Wu(x:Aq8){l:List (Aq8)}(b:UInt8)(h:l≠[]):Zb (x::l) b=x::Zb l b:=by
 cases l with
 |nil=>simp_all
 |cons y l=>rfl
theorem T8(c b:UInt8)(hb:b≠c):∀s:Aq8,Cy c (s++[b])=Zb (Cy c s) b
 | []=>by grind [Cy,Zb]
 |a::r=>by
  rw[FN,Cy,T8 c b hb r,Cy]
  by_cases e:a=c
  .grind [Wu,Lu]
  .rw[AB e,AB e];cases h:Cy c r with
   |nil=>grind [Lu]
   |cons x l=>
    cases l with
    |nil=>rfl
    |cons y l=>rfl
theorem Zc(b:UInt8):∀(l:List (Aq8)) (x:Aq8),l[l.length-1]?=some x->l.set (l.length-1) (x++[b])=Zb l b
 | [],_,h=>by cases h
 | [y],x,h=>by
  have h:some y=some x:=h;rw[EH h];rfl
 |y::z::l,x,h=>by
  have h:(z::l)[(z::l).length-1]?=some x:=h;rw[Wu y b (List.cons_ne_nil _ _),<-Zc b (z::l) x h];rfl
theorem WT(c:UInt8)(s:Aq8):(Cy c s).length<=s.length+1:=by
 induction s<;>grind [Cy]
abbrev Ag3:Of:=⟨[],[],[(5,1)],[],[],[],[],[],[],[(36,3)],[4]⟩
theorem ti(hc:c≠47)(h:(gj l)[(gj l).length-1]?=some x):(gj l).set ((gj l).length-1) (x++bs [c])=gj (l++[c]):=by
 have h2:=h;rw[BC,Lm]at h;obtain⟨y,hy,e⟩:=BH.1 h;subst e;show _=(Cy 47 (l++[c])).map bs;rw[T8 47 c hc l,<-Zc c (Cy 47 l) y hy,Xk,Lm]
 congr 1
theorem AiX(hs:Er s):PC 190 [vs s] (sl Gw (gj s.data.toList)):=by
 unfold Er at hs;have EC:s.size=s.data.toList.length:=aa1
 refine Ps Ag3 func190 rfl C4 (M {p:Nat×List CS // p.1<=s.data.toList.length/\p.2=gj (s.data.toList.take p.1)} (M (fun p=>⟨[(0,vs s),(3,.msl 5 p.1.2.length),(4,G p.1.1)],[(5,.arr 1 (p.1.2.map Gw))],Ab⟩) (M (fun p=>s.data.toList.length-p.1.1) (J (M ⟨(0,[bs []]),Ai _,rfl⟩ ?_) ?_))))
 .exact⟨Z3,Z1,Fh,X⟩
 intro⟨⟨i,A⟩,h1,hA⟩;have hA:A=gj (s.data.toList.take i):=hA;have hpl:A.length<=i+1:=by
  grind [WT]
 have vq:0<A.length:=by
  grind [Lu]
 refine J (fun h=>?_) (fun h=>?_)
 .have h:(i:Int)<(s.size:Nat):=h;have h:i<s.data.toList.length:=I
  have Ij:(0:Int)<=i/\s.data[((i:Nat):Int).toNat]?=some s.data.toList[i]:=⟨by omega,by grind⟩;have htk:s.data.toList.take (i+1)=s.data.toList.take i++[s.data.toList[i]]:=by grind [List.take_add_one]
  refine M s.data.toList[i] (J Ij (J (fun h2=>?_) (fun h2=>?_)))
  .have h2:s.data.toList[i]=47:=HN.1 aa2;have El:Cq 1 [[vs (bs [])]]/\(A.map Gw).length=A.length/\((A.map Gw).length+[[vs (bs [])]].length)*16<=2^47/\(A.map Gw).length+[[vs (bs [])]].length<=2^63-1:=
    ⟨⟨rfl,trivial⟩,by grind,by grind,by grind⟩
   refine J El (M ⟨[(0,vs s),(3,.msl 5 (A++[bs []]).length),(4,G i)],[(5,.arr 1 ((A++[bs []]).map Gw))],Ab⟩ (J ?_ ?_))
   .have e1:AV.msl 5 ((A.map Gw).length+[[vs (bs [])]].length)=.msl 5 (A++[bs []]).length:=aa1
    have e2:HO.arr 1 (A.map Gw++[[vs (bs [])]])=.arr 1 ((A++[bs []]).map Gw):=aa2
    exact⟨⟨Z,⟨e1,rfl⟩,Z,X⟩,⟨⟨e2,rfl⟩,X⟩,Fh,X⟩
   refine J (by grind [As]) ?_;have eA:A++[bs []]=gj (s.data.toList.take (i+1)):=by
    rw[hA,htk,h2];show _=(Cy 47 _).map bs;rw[WU,Au];rfl
   refine M ⟨(i+1,A++[bs []]),by omega,eA⟩ ?_;exact⟨by grind,Z3,Z1,Fh,X⟩
  have h2:¬(s.data.toList[i].toNat:Int)=47:=h2;have h2:s.data.toList[i]≠47:=fun e=>h2 (by rw[e];rfl);have rA:As ((A.length:Int)-1):=by grind [As]
  have CL:A.length-1<A.length:=I
  have hn:((A.length:Int)-1).toNat=A.length-1:=I
  have hg:A[A.length-1]?=some A[A.length-1]:=Ge CL;have Abx:Er A[A.length-1]:=by
   have wZ:∀x∈A,x∈gj (s.data.toList.take i):=fun x hx=>hA▸hx;obtain⟨y,hy,e⟩:=Ap.1 (wZ _ (Am CL));have h5:=Me 47 _ y hy;rw[Bf]at h5;unfold Er;rw[<-e,show(bs y).size=y.length from rfl];omega
  have Afy:((A[A.length-1].size+(⟨[s.data.toList[i]].toArray⟩:CS).size:Nat):Int)<=2^63-1:=by
   unfold Er at Abx
   have:(⟨[s.data.toList[i]].toArray⟩:CS).size=1:=rfl
   omega
  refine J rA (J rA (J (show(0:Int)<=(A.length:Int)-1/\(A.length:Int)-1<(A.length:Int) by omega) (J aa2 ?_)));have hgm:(A.map Gw)[((A.length:Int)-1).toNat]?=some (Gw A[A.length-1]):=by rw[hn];grind
  refine M (Gw A[A.length-1]) (J hgm (M s.data.toList[i] (J Ij (M [s.data.toList[i]] (J rfl (J Afy (J (show(0:Int)<=(A.length:Int)-1/\(A.length:Int)-1<(A.length:Int) by omega) (J aa2 (M (Gw A[A.length-1]) (J hgm (U (J aa5 (AE (show ∃B,B=A.set (A.length-1) (A[A.length-1]++bs [s.data.toList[i]])from⟨_,rfl⟩) (fun B hB=>?_))))))))))))));have hBl:B.length=A.length:=by rw[hB,JY]
  have e2:HO.arr 1 ((A.map Gw).set ((A.length:Int)-1).toNat [vs (A[A.length-1]++⟨[s.data.toList[i]].toArray⟩)])=.arr 1 (B.map Gw):=by rw[hn,hB,Xk];rfl
  refine cU [(0,vs s),(3,.msl 5 B.length),(4,G i)] [(5,.arr 1 (B.map Gw))] ⟨Z,⟨Aa (AV.msl 5) hBl.symm,rfl⟩,Z,X⟩ ⟨⟨e2,rfl⟩,X⟩ (J (Ii i I) ?_);have eB:B=gj (s.data.toList.take (i+1)):=by
   rw[htk,hB];subst hA;exact ti h2 hg
  refine M ⟨(i+1,B),by omega,eB⟩ ?_;exact⟨by grind,Z3,Z1,Fh,X⟩
 .have h:¬(i:Int)<(s.size:Nat):=h;refine J aa2 ?_;exact C (sl Gw) (show A=gj s.data.toList by grind)
theorem fU{s:Aq8}{n:Int}(h:F9 s=some n):0<=n:=by
 cases s with
 |nil=>grind [F9]
 |cons c r=>
  have h:(if c=118 then(if(r.isEmpty||decide (3<r.length)||(decide (1<r.length)&&decide (r.headD 0=48))||!r.all Ch)=true then none else some (DF r))else none)=some n:=h
  by_cases hc:c=118
  .rw[AO hc]at h
   by_cases hb:(r.isEmpty||decide (3<r.length)||(decide (1<r.length)&&decide (r.headD 0=48))||!r.all Ch)=true
   .grind
   .rw[AB hb]at h;have ha:r.all Ch=true:=by
     simp_all
    rw[<-EH h]
    suffices hh:∀i,i<=r.length->0<=DF (r.take i) by
     grind [List.take_length]
    intro i
    induction i with
    |zero=>intro _;exact B6 _
    |succ i ih=>
     grind [Js,Lh]
  simp_all
theorem th(h:(gj l)[(gj l).length-1]?=some x):(Cy 47 l).getLastD []=x.data.toList:=by
 rw[Lm,BC,<-List.getLast?_eq_getElem?]at h;obtain⟨y,hy,e⟩:=BH.1 h;rw[List.getLastD_eq_getLast?,hy,<-e];rfl
theorem Aei(hp:Er p):PC 118 [vs p] (Se (AR p)):=by
 have EC:p.size=p.data.toList.length:=aa1
 have hc:=AiX p hp;unfold Er at hp;obtain⟨A,hA⟩:∃A,A=gj p.data.toList:=⟨_,rfl⟩;rw[<-hA]at hc;have hAl:A.length=(Cy 47 p.data.toList).length:=aa2
 have hpl:=WT 47 p.data.toList;have vq:0<A.length:=by grind [Lu]
 have rD:∀x∈A,x.data.toList.length<2^62:=fun x hx=>by
  obtain⟨y,hy,e⟩:=Ap.1 (hA▸hx:x∈gj p.data.toList);have h5:=Me 47 _ y hy;rw[<-e];show y.length<_;omega
 have HE:(Cy 47 p.data.toList).all Hy=A.all fun x=>Hy x.data.toList:=by rw[hA,List.all_map];rfl
 have CL:A.length-1<A.length:=I
 have hg:A[A.length-1]?=some A[A.length-1]:=Ge CL;have kL:(Cy 47 p.data.toList).getLastD []=A[A.length-1].data.toList:=by
  grind [th]
 have em:AR p=match F9 A[A.length-1].data.toList with
  |none=>none
  |some n=>if(decide (64<p.data.toList.length)||decide (A.length<2))=true then none else if(A.all fun x=>Hy x.data.toList)=true then some n else none:=by
  grind [AR,Sf]
 clear HE kL
 have hv:=AiZ A[A.length-1] (rD _ (Am CL));obtain⟨o,ho⟩:∃o,o=F9 A[A.length-1].data.toList:=⟨_,rfl⟩;rw[<-ho]at hv em;have hz:∀n,o=some n->0<=n:=fun n e=>by
  rw[e]at ho;exact fU ho.symm
 refine Ps (FX [4,9,10]) func118 rfl C4 (J (fun h=>?_) (fun h=>?_))
 .exact C Se (show(none:Option Int)=AR p by grind)
 have d1:decide (64<p.data.toList.length)=false:=Al I;refine C1 (H (hc) (cU [(4,sl Gw A)] [] Z1 X (M {i:Nat // i<=A.length/\∀j (hj:j<A.length),j<i->Hy (A[j]).data.toList=true} (M (fun i=>⟨[(4,sl Gw A),(5,G i.1)],[],Ab⟩) (M (fun i=>A.length-i.1) (J (M ⟨0,Ai _,fun j _ h=>by omega⟩ ?_) ?_))))))
 .exact⟨Z2,X,Fh,X⟩
 intro⟨i,i1,i2⟩;refine J (fun h2=>?_) (fun h2=>?_)
 .have h2:i<A.length:=aa2
  have hg:A[i]?=some A[i]:=Ge h2;refine M (Gw A[i]) (J (J I aa2) (J rfl ?_));have hn:=AiY A[i] (rD _ (Am h2));refine Be (Bt (Hy A[i].data.toList)).symm (fun e1=>?_) (fun e1=>?_)
  .rw[e1]at hn;refine C1 (H (hn) ?_);have e2:(A.all fun x=>Hy x.data.toList)=false:=by
    grind
   exact C Se (show(none:Option Int)=AR p by
    grind)
  rw[e1]at hn;refine C1 (H (hn) (J (by grind [As]) (M ⟨i+1,by omega,fun j hj IY=>?_⟩ ?_)))
  .grind
  .exact⟨by grind,Z2,X,Fh,X⟩
 have h2:¬i<A.length:=aa2
 have e2:(A.all fun x=>Hy x.data.toList)=true:=AZ.2 fun x hx=>by
  grind [List.getElem_of_mem]
 have em:AR p=match(generalizing:=false) o with
  |none=>none
  |some n=>if decide (A.length<2)=true then none else some n:=by
  grind
 refine cU [(4,sl Gw A)] [] Z1 X ?_
 have nE:(((A.map Gw).length:Int)-1).toNat=A.length-1:=aa2
 refine J (by grind [As]) (M (Gw A[A.length-1]) (J (J aa2 (by rw[nE];grind)) (J rfl ?_)));refine C1 (H (hv) ?_);refine AE (show ∃z:Int,XI o=G z/\(z<0↔o=none)/\∀n,o=some n->z=n by
  grind) (fun z nM=>?_)
 refine cU [(4,sl Gw A),(6,G z)] [] ⟨Z,⟨nM.1,rfl⟩,X⟩ X (J (fun h3=>?_) (fun h3=>?_))
 .rw[Lm]at h3;exact C Se (show(none:Option Int)=AR p by grind)
 rw[Lm]at h3;refine J (fun h4=>?_) (fun h4=>?_)
 .exact C Se (show(none:Option Int)=AR p by grind)
 refine AE (show ∃n,o=some n by
  grind) (fun n hn=>?_)
 exact .of_eq (show AV.tup [G z,G 0]=Se (AR p) by grind)
theorem AiS(hp:Er p):PC 117 [vs p] (Q (AR p).isSome):=by
 have hc:=Aei p hp;cases h:AR p with
 |none=>
  rw[h]at hc;refine Ps CF func117 rfl C4 (C1 (H (hc) (J ?_ ?_)))
  .intro h;exact absurd (show(4:Int)=0 from h) aa3
  .intro _;exact .refl _
 |some n=>
  rw[h]at hc;refine Ps CF func117 rfl C4 (C1 (H (hc) (J ?_ ?_)))
  .intro _;exact .refl _
  .intro h;exact absurd rfl h
theorem AiP(hp:Er p):PC 132 [vs p] (Q (AR p).isSome):=by
 have hc:=Aec p hp;cases h:AR p with
 |none=>
  rw[h]at hc;refine Ps CF func132 rfl C4 (C1 (H (hc) (J ?_ ?_)))
  .intro h;exact absurd (show(4:Int)=0 from h) aa3
  .intro _;exact .refl _
 |some n=>
  rw[h]at hc;refine Ps CF func132 rfl C4 (C1 (H (hc) (J ?_ ?_)))
  .intro _;exact .refl _
  .intro h;exact absurd rfl h
theorem PG(c:UInt8):∀s:Aq8,2<=(Cy c s).length->c∈s
 | [],h=>by grind [Cy]
 |b::r,h=>by
  rw[Cy]at h
  by_cases e:b=c
  .simp_all
  .rw[AB e]at h;refine Aj _ (PG c r ?_)
   grind
theorem r7{p:CS}{m:Int}(h:AR p=some m):0<=Go.Lib.lastIndex p.data.toList [47]/\Go.Lib.lastIndex p.data.toList [47]<=p.size:=by
 have h2:2<=(Cy 47 p.data.toList).length:=by
  grind [AR,Sf]
 have hm:=PG 47 _ h2;obtain⟨i,hi,e⟩:=Om hm;have EC:p.size=p.data.toList.length:=aa1
 unfold Go.Lib.lastIndex;rw[AO aa2];have ApJ:Go.Lib.occAt p.data.toList [47] i=true:=by
  grind [Go.Lib.occAt,List.drop_eq_getElem_cons]
 grind [Go.Lib.lastOcc_spec]
abbrev V7:CS:=p.extract 0 (Go.Lib.lastIndex p.data.toList [47]).toNat
theorem Xp:Xh V7:=by
 intro p hp;have hc:=Aec p hp;have hi:=AiP p hp;unfold Yw;cases h:AR p with
 |none=>
  rw[h]at hc hi;refine Ps CF func66 rfl C4 (C1 (H (hc) (C1 (H (hi) ?_))));exact .refl _
 |some n=>
  rw[h]at hc hi;obtain⟨l1,l2⟩:=r7 h;have hl:PC 133 [vs p,vs gJ] (G (Go.Lib.lastIndex p.data.toList [47])):=AiQ p gJ hp;refine Ps CF func66 rfl C4 (C1 (H (hc) (C1 (H (hi) (J ?_ ?_)))))
  .intro h;exact absurd rfl h
  intro _;refine C1 (H (hl) (J ⟨B6 _,l1,l2⟩ ?_));exact .refl _
end Go.Eng
