/- Lemmas 19. -/
import Derived.Test.YteaiieomnhbmgaaGreatDoorBA17
import Derived.Test.YteaiieomnhbmgaaGreatDoorBA18
import Derived.Shelf.Sort.Plain
import Derived.Shelf.Slices.CompactS
import Derived.Ground.NamesProg
namespace Go.Proofs
open Go.Proofs.Tryz
open Go.Shelf
def Tryz.laySortStr_ren:Go.Shelf.Ren:=⟨fun | 190=>99 | 125=>161 | 258=>160 | 128=>228 | 129=>229 | 302=>220 | 303=>221 | 304=>222 | 305=>223 | 306=>224 | 307=>225 | 308=>159 | 309=>226 | 310=>227 | 333=>276 | 329=>277 | 330=>278 | 334=>279 | 335=>280 | 336=>198 | 344=>319 | n=>n,fun | 31=>52 | 9=>9 | 3=>3 | 46=>99 | 0=>0 | 51=>229 | 53=>98 | 4=>4 | 183=>316 | 182=>315 | 131=>214 | 5=>5 | 218=>357 | 222=>361 | 228=>389 | 229=>390 | n=>n,fun | n=>n⟩
theorem Tryz.laySortStr:Go.Proofs.Lays.n190 Tryz.prog Tryz.laySortStr_ren:={
 mixed:=by kernel_rfl
 f125:=Go.Eng.A0a func161
 f128:=Go.Eng.A0a func228
 f129:=Go.Eng.A0a func229
 f190:=Go.Eng.A0a func99
 f258:=Go.Eng.A0a func160
 f302:=Go.Eng.A0a func220
 f303:=Go.Eng.A0a func221
 f304:=Go.Eng.A0a func222
 f305:=Go.Eng.A0a func223
 f306:=Go.Eng.A0a func224
 f307:=Go.Eng.A0a func225
 f308:=Go.Eng.A0a func159
 f309:=Go.Eng.A0a func226
 f310:=Go.Eng.A0a func227
 f329:=Go.Eng.A0a func277
 f330:=Go.Eng.A0a func278
 f333:=Go.Eng.A0a func276
 f334:=Go.Eng.A0a func279
 f335:=Go.Eng.A0a func280
 f336:=Go.Eng.A0a func198
 f344:=Go.Eng.A0a func319
 t0:=underlying0
 a0:=isAgg0
 z0:=sizeOf0
 v0:=zeroValue0
 t3:=underlying3
 a3:=isAgg3
 z3:=sizeOf3
 v3:=zeroValue3
 t4:=underlying4
 a4:=isAgg4
 z4:=sizeOf4
 v4:=zeroValue4
 t5:=underlying5
 a5:=isAgg5
 z5:=sizeOf5
 v5:=zeroValue5
 t9:=underlying9
 a9:=isAgg9
 z9:=sizeOf9
 v9:=zeroValue9
 t31:=underlying52
 a31:=isAgg52
 z31:=sizeOf52
 v31:=zeroValue52
 t46:=underlying99
 a46:=isAgg99
 z46:=sizeOf99
 v46:=zeroValue99
 t51:=underlying229
 a51:=isAgg229
 z51:=sizeOf229
 v51:=zeroValue229
 t53:=underlying98
 a53:=isAgg98
 z53:=sizeOf98
 v53:=zeroValue98
 t131:=underlying214
 a131:=isAgg214
 z131:=sizeOf214
 v131:=zeroValue214
 t182:=underlying315
 a182:=isAgg315
 z182:=sizeOf315
 v182:=zeroValue315
 t183:=underlying316
 a183:=isAgg316
 z183:=sizeOf316
 v183:=zeroValue316
 t218:=underlying357
 a218:=isAgg357
 z218:=sizeOf357
 v218:=zeroValue357
 t222:=underlying361
 a222:=isAgg361
 z222:=sizeOf361
 v222:=zeroValue361
 t228:=underlying389
 a228:=isAgg389
 z228:=sizeOf389
 v228:=zeroValue389
 t229:=underlying390
 a229:=isAgg390
 z229:=sizeOf390
 v229:=zeroValue390 }
def Tryz.layCompactStr_ren:Go.Shelf.Ren:=⟨fun | 194=>183 | n=>n,fun | 31=>52 | 9=>9 | 3=>3 | 4=>4 | 0=>0 | n=>n,fun | n=>n⟩
theorem Tryz.layCompactStr:Go.Proofs.Lays.n194 Tryz.prog Tryz.layCompactStr_ren:={
 mixed:=by kernel_rfl
 f194:=Go.Eng.A0a func183
 t0:=underlying0
 a0:=isAgg0
 z0:=sizeOf0
 v0:=zeroValue0
 t3:=underlying3
 a3:=isAgg3
 z3:=sizeOf3
 v3:=zeroValue3
 t4:=underlying4
 a4:=isAgg4
 z4:=sizeOf4
 v4:=zeroValue4
 t9:=underlying9
 a9:=isAgg9
 z9:=sizeOf9
 v9:=zeroValue9
 t31:=underlying52
 a31:=isAgg52
 z31:=sizeOf52
 v31:=zeroValue52 }
end Go.Proofs
namespace Go.Eng
open Go.Proofs Go.Shelf Go.RowKit Go.Lib Go.Sort
variable (ss:List CS)(zs:List (List UInt8))(s:CS)
abbrev K4:List UInt8:=s.data.toList
abbrev SF(l:List UInt8):CS:=⟨l.toArray⟩
theorem rj:SF (K4 s)=s:=by simp_all
theorem No:((zs.map SF).map Ar).flatten=(zs.map Go.Proofs.encStr).map AV.v:=by
 induction zs<;>simp_all
theorem Yn:(ss.map K4).map SF=ss:=by
 rw[Br,show SF ∘ K4=id from funext rj,Hl]
theorem Ab3(t:List CS)(hl:BJ ss)(Ek:ss≠[])(hp:t.Perm ss)(ht:(t.map K4).Pairwise fun a b=>a<=b) :
  AP Tryz.prog 99 [.msl 1000 ss.length] (Ai [(1000,.arr 1 (ss.map Ar))] Ac) fun r h'=>r=.tup []/\h'=Ai [(1000,.arr 1 (t.map Ar))] Ac:=by
 have hE:Fz Tryz.prog 99:=aq 99 Tryz.func99 Wk rfl;obtain⟨zs,hz⟩:∃zs,zs=ss.map K4:=⟨_,rfl⟩;have Fg:ss=zs.map SF:=by rw[hz,Yn]
 have Jb:=QB (P:=Tryz.prog) (f:=99) (es:=ss.map Ar) (sz:=1) (rest:=[]) (Q:=fun FG=>FG=t.map Ar) hE ?_ ?_
 .rw[Lm]at Jb;refine⟨hE,fun g w vals q1 q2 q3=>(Jb.2 g w vals q1 q2 q3).mono fun _ _ ⟨v,r,h',g',e1,⟨e2,FG,p1,p3⟩,rest⟩=>⟨v,r,h',g',e1,⟨e2,by grind⟩,rest⟩⟩
 .intro e;exact absurd (D6.1 e) Ek
 .intro g w b cap F hr hF hH hb;have hFl:F.toList=zs.map Go.Proofs.encStr:=LX (by rw[<-No,<-Fg];exact hr);have hFz:F=zs.toArray.map Go.Proofs.encStr:=Ts.1 (by grind);have aV:zs.length=ss.length:=by grind
  have z8:Holds Go.Proofs.encStr w b 0 zs.toArray:=fun j hj=>by
   have:=hH j (by grind)
   grind
  have hc:=Any.slices_Sort_string Tryz.laySortStr b 0 cap zs w z8 hb ch;have htz:(zs.mergeSort fun x y=>decide (x<=y))=t.map K4:=by
   have Jd:(zs.mergeSort fun x y=>decide (x<=y)).Perm zs:=NO _ _;have AaM:=Ty (le:=fun x y:List UInt8=>decide (x<=y)) (fun a b c h1 h2=>by grind) (fun a b=>by grind) zs;refine List.Perm.eq_of_pairwise (le:=fun a b=>a<=b) (fun a b _ _ h k=>List.le_antisymm h k) (AaM.imp fun h=>AW h) ht (Jd.trans ?_)
   grind
  rw[htz,aV]at hc;rw[Lm];refine hc.mono ?_
  rintro e w' ⟨rfl,n,os,rfl⟩
  have E3:t.length=ss.length:=hp.length_eq;refine⟨rfl,(t.map K4).toArray.map Go.Proofs.encStr,t.map Ar,n,os,?_,rfl,by grind,fun cs hcs=>?_,fun g w _=>?_,by rw[Rm]⟩
  .grind
  .obtain⟨x,_,rfl⟩:=Ax.1 hcs;rfl
  .have e1:t.map Ar=((t.map K4).map SF).map Ar:=by rw[Yn]
   rw[e1,No];have e:(((t.map K4).toArray.map Go.Proofs.encStr).toList)=(t.map K4).map Go.Proofs.encStr:=by simp
   rw[e];exact NG _ _ _ _ fun x hx=>by
    obtain⟨z,_,rfl⟩:=Ax.1 hx;rfl
def Ce:List CS:=(Lib.compact (ss.map K4)).map SF
theorem MG:(Lib.compact zs).length<=zs.length:=by
 grind [Lib.compact,Lib.compactUpTo]
theorem AfS(hl:BJ ss)(Ek:ss≠[]) :
  AP Tryz.prog 183 [.msl 1000 ss.length] (Ai [(1000,.arr 1 (ss.map Ar))] Ac) fun r h'=>r=.msl 2000 (Ce ss).length/\h'=Ai [(1000,.dead),(2000,.arr 1 ((Ce ss).map Ar))] Ac:=by
 have hE:Fz Tryz.prog 183:=aq 183 Tryz.func183 Wk rfl;obtain⟨zs,hz⟩:∃zs,zs=ss.map K4:=⟨_,rfl⟩;have Fg:ss=zs.map SF:=by rw[hz,Yn]
 have aV:zs.length=ss.length:=by grind
 have hcl:=MG zs;have Jb:=Wz (P:=Tryz.prog) (f:=183) (es:=ss.map Ar) (sz:=1) (rest:=[]) (n':=(Lib.compact zs).length) (Q:=fun FG=>FG=((Lib.compact zs++List.replicate (zs.length-(Lib.compact zs).length) []).map SF).map Ar) hE (fun e=>Ek (D6.1 e)) (by grind) ?_
 .rw[Lm]at Jb;have ez:Ce ss=(Lib.compact zs).map SF:=by unfold Ce;rw[hz]
  refine⟨hE,fun g w vals q1 q2 q3=>(Jb.2 g w vals q1 q2 q3).mono fun _ _ ⟨x,r,h',g',e1,⟨e2,FG,p1,p2⟩,rest⟩=>⟨x,r,h',g',e1,⟨by grind,by
   rw[p2,p1,ez,AF,AF,Mw (by grind),Au (by grind)]⟩,rest⟩⟩
 .intro g w b cap F hr hF hH hb hc;rw[Lm]at hF hc⊢;have hFl:F.toList=zs.map Go.Proofs.encStr:=LX (by rw[<-No,<-Fg];exact hr);have hFz:F=zs.toArray.map Go.Proofs.encStr:=Ts.1 (by grind);have z8:Holds Go.Proofs.encStr w b 0 zs.toArray:=fun j hj=>by
   have:=hH j (by grind)
   grind
  have hcon:=Any.slices_Compact_string Tryz.layCompactStr b 0 cap zs w z8 ch ch;rw[aV]at hcon;refine hcon.mono ?_
  rintro e w' ⟨rfl,q,rfl⟩
  refine⟨rfl,(Lib.compact zs++List.replicate (zs.length-(Lib.compact zs).length) []).toArray.map Go.Proofs.encStr,_,q,#[],?_,rfl,?_,fun cs hcs=>?_,fun g w _=>?_,?_⟩
  .rw[hFz];simp;omega
  .simp;omega
  .obtain⟨x,_,rfl⟩:=Ax.1 hcs;rfl
  .rw[No];have e:((Lib.compact zs++List.replicate (zs.length-(Lib.compact zs).length) []).toArray.map Go.Proofs.encStr).toList=(Lib.compact zs++List.replicate (zs.length-(Lib.compact zs).length) []).map Go.Proofs.encStr:=by simp
   rw[e];exact NG _ _ _ _ fun x hx=>by
    obtain⟨z,_,rfl⟩:=Ax.1 hx;rfl
  .rw[Rm,grow_empty,aV]
end Go.Eng
namespace Go.Eng
open Go.Proofs Go.Proofs.Tryz
variable {l:List UInt8}{x:CS}{n m:Int}(c:UInt8)(p s:CS)
abbrev AfZ(n:Nat):Qz:=⟨[],[],[(2,n),(5,n)],[],[],[],[5],[],[],[],[2,3]⟩
theorem AgU(l:List Sl)(hl:BJ l):AP Tryz.prog 138 [sl Ab l] (Ai [] Ac) fun r h'=>r=.msl 2000 l.length/\h'=Ai [(2000,.arr 4 (l.map Ab))] Ac:=by
 refine BO (LB (AfZ 4)) [(2,2000)] rfl Ck hm rfl func138 Wk rfl (Nz rfl) Wk rfl ?_;have FZ:Bi 4 (l.map Ab)/\([]:C0).length=0/\(([]:C0).length+(l.map Ab).length)*40<=140737488355328/\([]:C0).length+(l.map Ab).length<=9223372036854775807:=by
  refine⟨CJ (enc:=Ab) (n:=4) (fun _=>rfl) l,rfl,?_,?_⟩<;>simp only[AE,Lm]<;>unfold BJ at hl<;>omega
 have e1:AV.msl 2000 (([]:C0).length+(l.map Ab).length)=.msl 2000 l.length:=by simp
 refine Xi 0 (Xi 0 (Yi ?_ ?_))
 .intro _;refine cU [(0,sl Ab l)] [] Z1 Tv (Xi 2 (Yi FZ ?_));exact C2 (.refl _) (Yi e1 rfl)
 .intro h;refine Yi ?_ ?_
  .refine Xi ⟨[],[],Ac⟩ (Yi ⟨trivial,trivial,fun _=>.inl rfl,A4 Wk⟩ ?_);refine Xi 2 ?_;exact C2 (.refl _) (Yi (show AV.msl 2000 0=_ by rw[D6.1 h];rfl) (show Ai [(2000,HO.arr 4 [])] Ac=_ by rw[h]))
  .refine cU [(0,sl Ab l)] [] Z1 Tv (Xi 2 (Yi FZ ?_));exact C2 (.refl _) (Yi e1 rfl)
theorem wi:PC 333 [vc c] (vb (EB c)):=by
 refine Ps C3 func333 rfl (Nz rfl) ?_;have e1:decide ((97:UInt8)<=c)=decide ((97:Int)<=(c.toNat:Int)):=XS c 97 Cl;have e2:decide (c<=(122:UInt8))=decide ((c.toNat:Int)<=(122:Int)):=XR c 122 Cl;have es:EB c=(decide ((97:Int)<=(c.toNat:Int))&&decide ((c.toNat:Int)<=(122:Int))):=by grind [EB]
 refine Yi ?_ ?_
 .intro h;refine Yi ?_ ?_
  .intro h2;exact .of_eq (Aa vb (show true=EB c by simp_all))
  .intro h2;exact .of_eq (Aa vb (show false=EB c by simp_all))
 .intro h;exact .of_eq (Aa vb (show false=EB c by simp_all))
theorem rr:PC 334 [vc c] (vb (CB c)):=by
 refine Ps C3 func334 rfl (Nz rfl) ?_;have e1:decide ((48:UInt8)<=c)=decide ((48:Int)<=(c.toNat:Int)):=XS c 48 Cl;have e2:decide (c<=(57:UInt8))=decide ((c.toNat:Int)<=(57:Int)):=XR c 57 Cl;have es:CB c=(decide ((48:Int)<=(c.toNat:Int))&&decide ((c.toNat:Int)<=(57:Int))):=by grind [CB]
 refine Yi ?_ ?_
 .intro h;refine Yi ?_ ?_
  .intro h2;exact .of_eq (Aa vb (show true=CB c by simp_all))
  .intro h2;exact .of_eq (Aa vb (show false=CB c by simp_all))
 .intro h;exact .of_eq (Aa vb (show false=CB c by simp_all))
theorem Aed:PC 391 [vc c] (vb (MB c)):=by
 refine Ps C3 func391 rfl (Nz rfl) ?_;have e1:decide ((65:UInt8)<=c)=decide ((65:Int)<=(c.toNat:Int)):=XS c 65 Cl;have e2:decide (c<=(90:UInt8))=decide ((c.toNat:Int)<=(90:Int)):=XR c 90 Cl;have es:MB c=(decide ((65:Int)<=(c.toNat:Int))&&decide ((c.toNat:Int)<=(90:Int))):=by grind [MB]
 refine Yi ?_ ?_
 .intro h;refine Yi ?_ ?_
  .intro h2;exact .of_eq (Aa vb (show true=MB c by simp_all))
  .intro h2;exact .of_eq (Aa vb (show false=MB c by simp_all))
 .intro h;exact .of_eq (Aa vb (show false=MB c by simp_all))
theorem Aec:PC 375 [vc c] (vb (FF c)):=by
 have h1:=wi c;have h2:=Aed c;have h3:=rr c;have ew:FF c=(EB c||MB c||CB c||decide (c=95)):=rfl;rcases Bt (EB c)with e | e
 .rw[e]at h1;refine Ps C3 func375 rfl (Nz rfl) (C1 (C2 (h1) ?_));exact .of_eq (Aa vb (show true=FF c by simp_all))
 rw[e]at h1;rcases Bt (MB c)with e2 | e2
 .rw[e2]at h2;refine Ps C3 func375 rfl (Nz rfl) (C1 (C2 (h1) (C1 (C2 (h2) ?_))));exact .of_eq (Aa vb (show true=FF c by simp_all))
 rw[e2]at h2;rcases Bt (CB c)with e3 | e3
 .rw[e3]at h3;refine Ps C3 func375 rfl (Nz rfl) (C1 (C2 (h1) (C1 (C2 (h2) (C1 (C2 (h3) ?_))))));exact .of_eq (Aa vb (show true=FF c by simp_all))
 rw[e3]at h3;refine Ps C3 func375 rfl (Nz rfl) (C1 (C2 (h1) (C1 (C2 (h2) (C1 (C2 (h3) ?_))))));have eb:decide (c=95)=decide ((c.toNat:Int)=95):=by
  rw[El,Bd,Bd];constructor
  .simp_all
  .intro h;exact HJ.1 (by grind)
 refine Yi ?_ ?_
 .intro h;exact .of_eq (Aa vb (show true=FF c by simp_all))
 .intro h;exact .of_eq (Aa vb (show false=FF c by simp_all))
theorem Ae9(hs:s.data.toList.length<4611686018427387904):PC 362 [vs s] (vb (s.data.toList.all FF)):=by
 have Fg:s.size=s.data.toList.length:=by simp
 refine Ps C3 func362 rfl (Nz rfl) (Xi {i:Nat // i<=s.data.toList.length/\∀j (hj:j<s.data.toList.length),j<i->FF s.data.toList[j]=true} (Xi (fun i=>⟨[(0,vs s),(3,vi i.1)],[],Ac⟩) (Xi (fun i=>s.data.toList.length-i.1) (Yi (Xi ⟨0,Al _,fun j _ h=>by omega⟩ ?_) ?_))))
 .exact⟨Z2,Tv,Fh,Tv⟩
 intro⟨i,h1,h2⟩;refine Yi ?_ ?_
 .intro h;have h:(i:Int)<(s.size:Nat):=h;have h:i<s.data.toList.length:=by omega
  refine Xi s.data.toList[i] (Yi ⟨by omega,by grind⟩ ?_);have hc:=Aec s.data.toList[i];refine AN (Bt (FF s.data.toList[i])) (fun e=>?_) (fun e=>?_)
  .rw[e]at hc;refine C1 (C2 (hc) (Yi (by grind [Av]) (Xi ⟨i+1,by omega,fun j hj FI=>?_⟩ ?_)))
   .grind
   .exact⟨by grind,Z2,Tv,Fh,Tv⟩
  .rw[e]at hc;refine C1 (C2 (hc) ?_);have er:s.data.toList.all FF=false:=by
    grind
   exact .of_eq (Aa vb er.symm)
 .intro h;have h:¬(i:Int)<(s.size:Nat):=h;have er:s.data.toList.all FF=true:=A3.2 fun c hc=>by
   grind [List.getElem_of_mem]
  exact .of_eq (Aa vb er.symm)
abbrev kwB:List CS:=xh.map bs
theorem Aeb:PC 364 [] (sl Ar kwB):=by
 refine Ps C3 func364 rfl (Nz rfl) ?_;exact .refl _
theorem Aea(l:List CS)(s:CS)(hl:BJ l):PC 363 [sl Ar l,vs s] (vb (l.any fun q=>decide (q=s))):=by
 unfold BJ at hl;refine Ps C3 func363 rfl (Nz rfl) (Xi {i:Nat // i<=l.length/\∀j (hj:j<l.length),j<i->l[j]≠s} (Xi (fun i=>⟨[(0,sl Ar l),(1,vs s),(5,vi i.1)],[],Ac⟩) (Xi (fun i=>l.length-i.1) (Yi (Xi ⟨0,Al _,fun j _ h=>by omega⟩ ?_) ?_))))
 .exact⟨Z3,Tv,Fh,Tv⟩
 intro⟨i,h1,h2⟩;refine Yi ?_ ?_
 .intro h;have h:i<l.length:=by simp_all
  have hg:l[i]?=some l[i]:=Ge h;refine Xi (Ar l[i]) (Yi (Yi ch (by simp_all)) (Yi rfl ?_));refine Yi ?_ ?_
  .intro he;exact .of_eq (Aa vb (show true=_ from(BC.2 ⟨l[i],Ae h,by simp_all⟩).symm))
  .intro he;refine Yi (by grind [Av]) (Xi ⟨i+1,by omega,fun j hj FI=>?_⟩ ?_)
   .grind
   .exact⟨by grind,Z3,Tv,Fh,Tv⟩
 .intro h;have h:¬i<l.length:=by simp_all
  have er:(l.any fun q=>decide (q=s))=false:=by
   grind [List.getElem_of_mem]
  exact .of_eq (Aa vb er.symm)
theorem zr{w:List UInt8}{s:CS}:bs w=s↔w=s.data.toList:=by
 constructor
 .intro h;rw[<-h];rfl
 .intro h;rw[h];rfl
theorem xj:(kwB.any fun q=>decide (q=s))=xh.any (fun w=>decide (w=s.data.toList)):=by
 grind [zr]
theorem Ae5(hs:s.data.toList.length<4611686018427387904):PC 335 [vs s] (vb (Gl s.data.toList)):=by
 have Fg:s.size=s.data.toList.length:=by simp
 obtain⟨N,hN⟩:∃N,N=Gl s.data.toList:=⟨_,rfl⟩;rw[<-hN];unfold Gl at hN;have rO:=Ae9 s hs;have nh:=Aea kwB s Cl;rw[xj]at nh;refine Ps C3 func335 rfl (Nz rfl) (Yi (fun h=>?_) (fun h=>?_))
 rotate_left
 .have e:s.data.toList=[]:=AT ch;exact .of_eq (Aa vb (show false=N by simp_all))
 have he:s.data.toList.isEmpty=false:=by
  grind
 refine Yi (fun h2=>?_) (fun h2=>?_)
 rotate_left
 .exact .of_eq (Aa vb (show false=N by grind))
 refine AX (show ∃c l,s.data.toList=c::l by cases e:s.data.toList with | nil=>simp_all | cons c l=>simp_all) (fun c hc=>?_);refine AX hc (fun l hc=>?_);refine Xi c (Yi ⟨by decide,by show s.data[(0:Int).toNat]?=_;rw[<-CN,hc];rfl⟩ ?_);have rN:=wi c;have hN:N=(EB c&&s.data.toList.all FF&&!Wg s.data.toList):=by
  grind
 refine AN (Bt (EB c)).symm (fun e=>?_) (fun e=>?_)
 .rw[e]at rN;refine C1 (C2 (rN) ?_);exact .of_eq (Aa vb (show false=N by simp_all))
 rw[e]at rN;refine C1 (C2 (rN) (AN (Bt (s.data.toList.all FF)).symm (fun e2=>?_) (fun e2=>?_)))
 .rw[e2]at rO;refine C1 (C2 (rO) ?_);exact .of_eq (Aa vb (show false=N by grind))
 rw[e2]at rO;refine C1 (C2 (rO) (C1 (C2 (Aeb) ?_)));rw[dX e2]at hN;refine AN (Bt (xh.any (fun w=>decide (w=s.data.toList)))) (fun e3=>?_) (fun e3=>?_)
 .rw[e3]at nh;refine C1 (C2 (nh) ?_);exact .of_eq (Aa vb (show false=N by grind))
 .rw[e3]at nh;refine C1 (C2 (nh) ?_);exact .of_eq (Aa vb (show true=N by grind))
theorem pD{s:CS}:Hy s.data.toList=(s.data.toList.all Vt&&Gl s.data.toList):=by
 grind [Hy]
theorem AdY(hs:s.data.toList.length<4611686018427387904):PC 292 [vs s] (vb (Hy s.data.toList)):=by
 have Fg:s.size=s.data.toList.length:=by simp
 have Aew:=Ae5 s hs;rw[pD];refine Ps C3 func292 rfl (Nz rfl) (Xi {i:Nat // i<=s.data.toList.length/\∀j (hj:j<s.data.toList.length),j<i->Vt s.data.toList[j]=true} (Xi (fun i=>⟨[(0,vs s),(3,vi i.1)],[],Ac⟩) (Xi (fun i=>s.data.toList.length-i.1) (Yi (Xi ⟨0,Al _,fun j _ h=>by omega⟩ ?_) ?_))))
 .exact⟨Z2,Tv,Fh,Tv⟩
 intro⟨i,h1,h2⟩;refine Yi ?_ ?_
 .intro h;have h:(i:Int)<(s.size:Nat):=h;have h:i<s.data.toList.length:=by omega
  have SJ:(0:Int)<=i/\s.data[((i:Nat):Int).toNat]?=some s.data.toList[i]:=⟨by omega,by grind⟩;have nx:Vt s.data.toList[i]=true->∀j (hj:j<s.data.toList.length),j<i+1->Vt s.data.toList[j]=true:=fun e j hj FI=>by
   grind
  refine Xi s.data.toList[i] (Yi SJ ?_);have h3:=wi s.data.toList[i];have h4:=rr s.data.toList[i];refine AN (Bt (EB s.data.toList[i])) (fun e=>?_) (fun e=>?_)
  .rw[e]at h3;refine C1 (C2 (h3) (Yi (by grind [Av]) (Xi ⟨i+1,by omega,nx (by grind)⟩ ?_)));exact⟨by grind,Z2,Tv,Fh,Tv⟩
  rw[e]at h3;refine C1 (C2 (h3) (Xi s.data.toList[i] (Yi SJ (AN (Bt (CB s.data.toList[i])) (fun e2=>?_) (fun e2=>?_)))))
  .rw[e2]at h4;refine C1 (C2 (h4) (Yi (by grind [Av]) (Xi ⟨i+1,by omega,nx (by grind)⟩ ?_)));exact⟨by grind,Z2,Tv,Fh,Tv⟩
  rw[e2]at h4;refine C1 (C2 (h4) ?_);have er:s.data.toList.all Vt=false:=by
   grind
  exact .of_eq (Aa vb (by grind))
 .intro h;have h:¬(i:Int)<(s.size:Nat):=h;have er:s.data.toList.all Vt=true:=A3.2 fun c hc=>by
   grind [List.getElem_of_mem]
  refine C1 (C2 (Aew) ?_);exact .of_eq (Aa vb (by grind))
abbrev Wo:Option Int->AV
 |some n=>vi n
 |none=>vi (-1)
theorem AdZ(hs:s.data.toList.length<4611686018427387904):PC 293 [vs s] (Wo (Gi s.data.toList)):=by
 have Fg:s.size=s.data.toList.length:=by simp
 refine Ps (Hx [3]) func293 rfl (Nz rfl) (Yi (fun h=>?_) (fun h=>?_))
 .exact .of_eq (Aa Wo (show(none:Option Int)=Gi s.data.toList by
   cases hs:s.data.toList with
   |nil=>rfl
   |cons c r=>
    cases r<;>grind [Gi]))
 refine AX (show ∃c r,s.data.toList=c::r by
  cases e:s.data.toList<;>simp_all) (fun c hc=>?_)
 refine AX hc (fun r yV=>?_);have hrl:s.size=r.length+1:=by simp_all
 have hv0:Gi s.data.toList=if c=118 then(if(r.isEmpty||decide (3<r.length)||(decide (1<r.length)&&decide (r.headD 0=48))||!r.all CB)=true then none else some (DY r))else none:=by rw[yV];rfl
 refine Yi (fun h2=>?_) (fun h2=>?_)
 .exact .of_eq (Aa Wo (show(none:Option Int)=Gi s.data.toList by grind))
 refine Xi c (Yi ⟨by decide,by show s.data[(0:Int).toNat]?=_;rw[<-CN,yV];rfl⟩ ?_);refine Yi (fun h3=>?_) (fun h3=>?_)
 .have h3:¬c=118:=fun e=>h3 (by simp_all);exact .of_eq (Aa Wo (show(none:Option Int)=Gi s.data.toList by simp_all))
 have h3:c=118:=HJ.1 (by grind);have hr:s.data.toList=118::r:=by simp_all
 have hv:Gi s.data.toList=if(r.isEmpty||decide (3<r.length)||(decide (1<r.length)&&decide (r.headD 0=48))||!r.all CB)=true then none else some (DY r):=by simp_all
 have Dd:0<r.length:=by omega
 have rX:r.isEmpty=false:=by
  grind
 have hl3:r.length<=3:=by omega
 have d3:decide (3<r.length)=false:=Aj ch;have z0:DY (r.take 0)=0:=rfl;have hh:=Oq r Dd;refine Xi r[0] (Yi ⟨by decide,by show s.data[(1:Int).toNat]?=_;rw[<-CN,yV];simp_all⟩ ?_);refine Yi (fun h4=>?_) (fun h4=>?_)
 .have h4:r[0]=48:=HJ.1 (by grind);refine Yi (fun h5=>?_) (fun h5=>?_)
  .exact .of_eq (Aa Wo (show(none:Option Int)=Gi s.data.toList by grind))
  have eo:(decide (1<r.length)&&decide (r.headD 0=48))=false:=by grind
  refine cU [(0,vs s)] [] Z1 Tv (Xi {i:Nat // i<=r.length/\(∀j (hj:j<r.length),j<i->CB r[j]=true)/\0<=DY (r.take i)/\(i=0->DY (r.take i)<=0)/\(i<=1->DY (r.take i)<=9)/\(i<=2->DY (r.take i)<=99)/\DY (r.take i)<=999} (Xi (fun i=>⟨[(0,vs s),(3,vi (DY (r.take i.1))),(4,vi (1+(i.1:Int)))],[],Ac⟩) (Xi (fun i=>r.length-i.1) (Yi (Xi ⟨0,Al _,fun j _ h=>by omega,by omega,fun _=>by omega,fun _=>by omega,fun _=>by omega,by omega⟩ ?_) ?_))))
  .exact⟨Z3,Tv,Fh,Tv⟩
  intro⟨i,i1,i0,i2,i3,i4,i5,i6⟩;refine Yi ?_ ?_
  .intro h;have h:1+(i:Int)<(s.size:Nat):=h;have h:i<r.length:=by omega
   have SJ:(0:Int)<=1+(i:Int)/\s.data[(1+(i:Int)).toNat]?=some r[i]:=⟨by omega,by rw[show(1+(i:Int)).toNat=i+1 by omega,<-CN,hr,List.getElem?_cons_succ];simp_all⟩;refine Xi r[i] (Yi SJ ?_);have hc:=rr r[i];refine AN (Bt (CB r[i])).symm (fun e=>?_) (fun e=>?_)
   .rw[e]at hc;refine C1 (C2 (hc) ?_);have Gd:r.all CB=false:=by
     grind
    exact .of_eq (Aa Wo (show(none:Option Int)=Gi s.data.toList by simp_all))
   rw[e]at hc;refine C1 (C2 (hc) ?_);have uG:=Jw e;have uP:=Lj r i h;have qI:IntKind.u8.wrap ((r[i].toNat:Int)-48)=(r[i].toNat:Int)-48:=Tp ch ch;refine Yi (by show Av (10*DY (r.take i));unfold Av;omega) (Xi r[i] (Yi SJ (Yi (by show Av (IntKind.u8.wrap ((r[i].toNat:Int)-48));rw[qI];unfold Av;omega) ?_)));refine Yi (by show Av (10*DY (r.take i)+IntKind.u8.wrap ((r[i].toNat:Int)-48));rw[qI];unfold Av;omega) ?_;refine Yi (by show Av (1+(i:Int)+1);unfold Av;omega) ?_;have e5:vi (10*DY (r.take i)+IntKind.u8.wrap ((r[i].toNat:Int)-48))=vi (DY (r.take (i+1))):=by simp_all
   have e6:vi (1+(i:Int)+1)=vi (1+((i+1:Nat):Int)):=Aa vi ch;refine Xi ⟨i+1,by omega,fun j hj FI=>?_,by omega,fun _=>by omega,fun _=>by omega,fun _=>by omega,by omega⟩ ?_
   .grind
   .exact⟨Dl r.length i ch,⟨Zr,⟨e5,rfl⟩,⟨e6,rfl⟩,Tv⟩,Tv,Fh,Tv⟩
  .intro h;have h:¬1+(i:Int)<(s.size:Nat):=h;have e3:r.all CB=true:=A3.2 fun c hc=>by
    grind [List.getElem_of_mem]
   have e6:vi (DY (r.take i))=Wo (Gi s.data.toList):=by grind
   exact .of_eq e6
 have eo:(decide (1<r.length)&&decide (r.headD 0=48))=false:=by rw[hh,Aj (show ¬r[0]=48 from fun e=>h4 (by simp_all)),Eg]
 refine cU [(0,vs s)] [] Z1 Tv (Xi {i:Nat // i<=r.length/\(∀j (hj:j<r.length),j<i->CB r[j]=true)/\0<=DY (r.take i)/\(i=0->DY (r.take i)<=0)/\(i<=1->DY (r.take i)<=9)/\(i<=2->DY (r.take i)<=99)/\DY (r.take i)<=999} (Xi (fun i=>⟨[(0,vs s),(3,vi (DY (r.take i.1))),(4,vi (1+(i.1:Int)))],[],Ac⟩) (Xi (fun i=>r.length-i.1) (Yi (Xi ⟨0,Al _,fun j _ h=>by omega,by omega,fun _=>by omega,fun _=>by omega,fun _=>by omega,by omega⟩ ?_) ?_))))
 .exact⟨Z3,Tv,Fh,Tv⟩
 intro⟨i,i1,i0,i2,i3,i4,i5,i6⟩;refine Yi ?_ ?_
 .intro h;have h:1+(i:Int)<(s.size:Nat):=h;have h:i<r.length:=by omega
  have SJ:(0:Int)<=1+(i:Int)/\s.data[(1+(i:Int)).toNat]?=some r[i]:=⟨by omega,by rw[show(1+(i:Int)).toNat=i+1 by omega,<-CN,hr,List.getElem?_cons_succ];simp_all⟩;refine Xi r[i] (Yi SJ ?_);have hc:=rr r[i];refine AN (Bt (CB r[i])).symm (fun e=>?_) (fun e=>?_)
  .rw[e]at hc;refine C1 (C2 (hc) ?_);have Gd:r.all CB=false:=by
    grind
   exact .of_eq (Aa Wo (show(none:Option Int)=Gi s.data.toList by simp_all))
  rw[e]at hc;refine C1 (C2 (hc) ?_);have uG:=Jw e;have uP:=Lj r i h;have qI:IntKind.u8.wrap ((r[i].toNat:Int)-48)=(r[i].toNat:Int)-48:=Tp ch ch;refine Yi (by grind [Av]) (Xi r[i] (Yi SJ (Yi (by grind [Av]) (Yi (by show Av (10*DY (r.take i)+IntKind.u8.wrap ((r[i].toNat:Int)-48));rw[qI];unfold Av;omega) ?_))));refine Yi (by grind [Av]) ?_;have e5:vi (10*DY (r.take i)+IntKind.u8.wrap ((r[i].toNat:Int)-48))=vi (DY (r.take (i+1))):=by simp_all
  have e6:vi (1+(i:Int)+1)=vi (1+((i+1:Nat):Int)):=Aa vi ch;refine Xi ⟨i+1,by omega,fun j hj FI=>?_,by omega,fun _=>by omega,fun _=>by omega,fun _=>by omega,by omega⟩ ?_
  .grind
  .exact⟨Dl r.length i ch,⟨Zr,⟨e5,rfl⟩,⟨e6,rfl⟩,Tv⟩,Tv,Fh,Tv⟩
 .intro h;have h:¬1+(i:Int)<(s.size:Nat):=h;have e3:r.all CB=true:=A3.2 fun c hc=>by
   grind [List.getElem_of_mem]
  have e6:vi (DY (r.take i))=Wo (Gi s.data.toList):=by grind
  exact .of_eq e6
abbrev cO(l:List UInt8):List CS:=(CM 47 l).map bs
def XC:List (List UInt8)->UInt8->List (List UInt8)
 | [],_=>[]
 | [x],b=>[x++[b]]
 |x::l,b=>x::XC l b
theorem Lq(s:List UInt8):CM c s≠[]:=by
 cases s<;>grind [CM]
theorem VH(c:UInt8):∀s:List UInt8,CM c (s++[c])=CM c s++[[]]
 | []=>by simp[CM]
 |b::r=>by
  rw[FO,CM,VH c r,CM]
  by_cases e:b=c
  all_goals grind [Lq]
theorem Vj(x:List UInt8){l:List (List UInt8)}(b:UInt8)(h:l≠[]):XC (x::l) b=x::XC l b:=by
 cases l with
 |nil=>simp_all
 |cons y l=>rfl
theorem Sz(c b:UInt8)(hb:b≠c):∀s:List UInt8,CM c (s++[b])=XC (CM c s) b
 | []=>by grind [CM,XC]
 |a::r=>by
  rw[FO,CM,Sz c b hb r,CM]
  by_cases e:a=c
  .grind [Vj,Lq]
  .rw[Az e,Az e];cases h:CM c r with
   |nil=>grind [Lq]
   |cons x l=>
    cases l with
    |nil=>rfl
    |cons y l=>rfl
theorem XD(b:UInt8):∀(l:List (List UInt8)) (x:List UInt8),l[l.length-1]?=some x->l.set (l.length-1) (x++[b])=XC l b
 | [],_,h=>by cases h
 | [y],x,h=>by
  have h:some y=some x:=h;rw[DW h];rfl
 |y::z::l,x,h=>by
  have h:(z::l)[(z::l).length-1]?=some x:=h;rw[Vj y b (List.cons_ne_nil _ _),<-XD b (z::l) x h];rfl
theorem VG(s:List UInt8):(CM c s).length<=s.length+1:=by
 induction s<;>grind [CM]
abbrev Ab7:Qz:=⟨[],[],[(5,1)],[],[],[],[],[],[],[(36,3)],[4]⟩
theorem o5{c:UInt8}(hc:c≠47)(h:(cO l)[(cO l).length-1]?=some x):(cO l).set ((cO l).length-1) (x++bs [c])=cO (l++[c]):=by
 have h2:=h;rw[BH,Lm]at h;obtain⟨y,hy,e⟩:=Cr.1 h;subst e;show _=(CM 47 (l++[c])).map bs;rw[Sz 47 c hc l,<-XD c (CM 47 l) y hy,IV,Lm]
 congr 1
theorem AdX(hs:ED s):PC 291 [vs s] (sl Gs (cO s.data.toList)):=by
 unfold ED at hs;have Fg:s.size=s.data.toList.length:=by simp
 refine Ps Ab7 func291 rfl (Nz rfl) (Xi {p:Nat×List CS // p.1<=s.data.toList.length/\p.2=cO (s.data.toList.take p.1)} (Xi (fun p=>⟨[(0,vs s),(3,.msl 5 p.1.2.length),(4,vi p.1.1)],[(5,.arr 1 (p.1.2.map Gs))],Ac⟩) (Xi (fun p=>s.data.toList.length-p.1.1) (Yi (Xi ⟨(0,[bs []]),Al _,rfl⟩ ?_) ?_))))
 .exact⟨Z3,Z1,Fh,Tv⟩
 intro⟨⟨i,A⟩,h1,hA⟩;have hA:A=cO (s.data.toList.take i):=hA;have nI:A.length<=i+1:=by
  grind [VG]
 have YR:0<A.length:=by
  grind [Lq]
 refine Yi (fun h=>?_) (fun h=>?_)
 .have h:(i:Int)<(s.size:Nat):=h;have h:i<s.data.toList.length:=by omega
  have SJ:(0:Int)<=i/\s.data[((i:Nat):Int).toNat]?=some s.data.toList[i]:=⟨by omega,by grind⟩;have sc:s.data.toList.take (i+1)=s.data.toList.take i++[s.data.toList[i]]:=by grind [List.take_add_one]
  refine Xi s.data.toList[i] (Yi SJ (Yi (fun h2=>?_) (fun h2=>?_)))
  .have h2:s.data.toList[i]=47:=HJ.1 (by grind);have FZ:Bi 1 [[vs (bs [])]]/\(A.map Gs).length=A.length/\((A.map Gs).length+[[vs (bs [])]].length)*16<=140737488355328/\(A.map Gs).length+[[vs (bs [])]].length<=9223372036854775807:=
    ⟨⟨rfl,trivial⟩,by grind,by grind,by grind⟩
   refine Yi FZ (Xi ⟨[(0,vs s),(3,.msl 5 (A++[bs []]).length),(4,vi i)],[(5,.arr 1 ((A++[bs []]).map Gs))],Ac⟩ (Yi ?_ ?_))
   .have e1:AV.msl 5 ((A.map Gs).length+[[vs (bs [])]].length)=.msl 5 (A++[bs []]).length:=by simp
    have e2:HO.arr 1 (A.map Gs++[[vs (bs [])]])=.arr 1 ((A++[bs []]).map Gs):=by grind
    exact⟨⟨Zr,⟨e1,rfl⟩,Zr,Tv⟩,⟨⟨e2,rfl⟩,Tv⟩,Fh,Tv⟩
   refine Yi (by grind [Av]) ?_;have eA:A++[bs []]=cO (s.data.toList.take (i+1)):=by
    rw[hA,sc,h2];show _=(CM 47 _).map bs;rw[VH,AF];rfl
   refine Xi ⟨(i+1,A++[bs []]),by omega,eA⟩ ?_;exact⟨by grind,Z3,Z1,Fh,Tv⟩
  have h2:¬(s.data.toList[i].toNat:Int)=47:=h2;have h2:s.data.toList[i]≠47:=fun e=>h2 (by rw[e];rfl);have wL:Av ((A.length:Int)-1):=by grind [Av]
  have E3:A.length-1<A.length:=by omega
  have hn:((A.length:Int)-1).toNat=A.length-1:=by omega
  have hg:A[A.length-1]?=some A[A.length-1]:=Ge E3;have Aak:ED A[A.length-1]:=by
   have r5:∀x∈A,x∈cO (s.data.toList.take i):=fun x hx=>hA▸hx;obtain⟨y,hy,e⟩:=Ax.1 (r5 _ (Ae E3));have h5:=L0 47 _ y hy;rw[AD]at h5;unfold ED;rw[<-e,show(bs y).size=y.length from rfl];omega
  have jQ:((A[A.length-1].size+(⟨[s.data.toList[i]].toArray⟩:CS).size:Nat):Int)<=9223372036854775807:=by
   unfold ED at Aak
   have:(⟨[s.data.toList[i]].toArray⟩:CS).size=1:=rfl
   omega
  refine Yi wL (Yi wL (Yi (show(0:Int)<=(A.length:Int)-1/\(A.length:Int)-1<(A.length:Int) by omega) (Yi (by grind) ?_)));have yQ:(A.map Gs)[((A.length:Int)-1).toNat]?=some (Gs A[A.length-1]):=by rw[hn];grind
  refine Xi (Gs A[A.length-1]) (Yi yQ (Xi s.data.toList[i] (Yi SJ (Xi [s.data.toList[i]] (Yi rfl (Yi jQ (Yi (show(0:Int)<=(A.length:Int)-1/\(A.length:Int)-1<(A.length:Int) by omega) (Yi (by grind) (Xi (Gs A[A.length-1]) (Yi yQ (yN (Yi Wk (AX (show ∃B,B=A.set (A.length-1) (A[A.length-1]++bs [s.data.toList[i]])from⟨_,rfl⟩) (fun B hB=>?_))))))))))))));have hBl:B.length=A.length:=by rw[hB,Kd]
  have e2:HO.arr 1 ((A.map Gs).set ((A.length:Int)-1).toNat [vs (A[A.length-1]++⟨[s.data.toList[i]].toArray⟩)])=.arr 1 (B.map Gs):=by rw[hn,hB,IV];rfl
  refine cU [(0,vs s),(3,.msl 5 B.length),(4,vi i)] [(5,.arr 1 (B.map Gs))] ⟨Zr,⟨Aa (AV.msl 5) hBl.symm,rfl⟩,Zr,Tv⟩ ⟨⟨e2,rfl⟩,Tv⟩ (Yi (Ii i ch) ?_);have eB:B=cO (s.data.toList.take (i+1)):=by
   rw[sc,hB];subst hA;exact o5 h2 hg
  refine Xi ⟨(i+1,B),by omega,eB⟩ ?_;exact⟨by grind,Z3,Z1,Fh,Tv⟩
 .have h:¬(i:Int)<(s.size:Nat):=h;refine Yi (by grind) ?_;exact .of_eq (Aa (sl Gs) (show A=cO s.data.toList by grind))
theorem cA{s:List UInt8}(h:Gi s=some n):0<=n:=by
 cases s with
 |nil=>grind [Gi]
 |cons c r=>
  have h:(if c=118 then(if(r.isEmpty||decide (3<r.length)||(decide (1<r.length)&&decide (r.headD 0=48))||!r.all CB)=true then none else some (DY r))else none)=some n:=h
  by_cases hc:c=118
  .rw[Ay hc]at h
   by_cases hb:(r.isEmpty||decide (3<r.length)||(decide (1<r.length)&&decide (r.headD 0=48))||!r.all CB)=true
   .grind
   .rw[Az hb]at h;have ha:r.all CB=true:=by
     simp_all
    rw[<-DW h]
    suffices hh:∀i,i<=r.length->0<=DY (r.take i) by
     grind [List.take_length]
    intro i
    induction i with
    |zero=>intro _;exact Bv _
    |succ i ih=>
     grind [Jw,Lj]
  simp_all
theorem o0(h:(cO l)[(cO l).length-1]?=some x):(CM 47 l).getLastD []=x.data.toList:=by
 rw[Lm,BH,<-List.getLast?_eq_getElem?]at h;obtain⟨y,hy,e⟩:=Cr.1 h;rw[List.getLastD_eq_getLast?,hy,<-e];rfl
theorem zC(hp:ED p):PC 241 [vs p] (Ra (A5 p)):=by
 have Fg:p.size=p.data.toList.length:=by simp
 have hc:=AdX p hp;unfold ED at hp;obtain⟨A,hA⟩:∃A,A=cO p.data.toList:=⟨_,rfl⟩;rw[<-hA]at hc;have hAl:A.length=(CM 47 p.data.toList).length:=by grind
 have nI:=VG 47 p.data.toList;have YR:0<A.length:=by grind [Lq]
 have aR:∀x∈A,x.data.toList.length<4611686018427387904:=fun x hx=>by
  obtain⟨y,hy,e⟩:=Ax.1 (hA▸hx:x∈cO p.data.toList);have h5:=L0 47 _ y hy;rw[<-e];show y.length<_;omega
 have Gd:(CM 47 p.data.toList).all Hy=A.all fun x=>Hy x.data.toList:=by rw[hA,List.all_map];rfl
 have E3:A.length-1<A.length:=by omega
 have hg:A[A.length-1]?=some A[A.length-1]:=Ge E3;have gF:(CM 47 p.data.toList).getLastD []=A[A.length-1].data.toList:=by
  grind [o0]
 have em:A5 p=match Gi A[A.length-1].data.toList with
  |none=>none
  |some n=>if(decide (64<p.data.toList.length)||decide (A.length<2))=true then none else if(A.all fun x=>Hy x.data.toList)=true then some n else none:=by
  grind [A5,Rb]
 clear Gd gF
 have hv:=AdZ A[A.length-1] (aR _ (Ae E3));obtain⟨o,ho⟩:∃o,o=Gi A[A.length-1].data.toList:=⟨_,rfl⟩;rw[<-ho]at hv em;have hz:∀n,o=some n->0<=n:=fun n e=>by
  rw[e]at ho;exact cA ho.symm
 refine Ps (Hx [4,9,10]) func241 rfl (Nz rfl) (Yi (fun h=>?_) (fun h=>?_))
 .exact .of_eq (Aa Ra (show(none:Option Int)=A5 p by grind))
 have d1:decide (64<p.data.toList.length)=false:=Aj ch;refine C1 (C2 (hc) (cU [(4,sl Gs A)] [] Z1 Tv (Xi {i:Nat // i<=A.length/\∀j (hj:j<A.length),j<i->Hy (A[j]).data.toList=true} (Xi (fun i=>⟨[(4,sl Gs A),(5,vi i.1)],[],Ac⟩) (Xi (fun i=>A.length-i.1) (Yi (Xi ⟨0,Al _,fun j _ h=>by omega⟩ ?_) ?_))))))
 .exact⟨Z2,Tv,Fh,Tv⟩
 intro⟨i,i1,i2⟩;refine Yi (fun h2=>?_) (fun h2=>?_)
 .have h2:i<A.length:=by grind
  have hg:A[i]?=some A[i]:=Ge h2;refine Xi (Gs A[i]) (Yi (Yi ch (by grind)) (Yi rfl ?_));have hn:=AdY A[i] (aR _ (Ae h2));refine AN (Bt (Hy A[i].data.toList)).symm (fun e1=>?_) (fun e1=>?_)
  .rw[e1]at hn;refine C1 (C2 (hn) ?_);have e2:(A.all fun x=>Hy x.data.toList)=false:=by
    grind
   exact .of_eq (Aa Ra (show(none:Option Int)=A5 p by
    grind))
  rw[e1]at hn;refine C1 (C2 (hn) (Yi (by grind [Av]) (Xi ⟨i+1,by omega,fun j hj FI=>?_⟩ ?_)))
  .grind
  .exact⟨by grind,Z2,Tv,Fh,Tv⟩
 have h2:¬i<A.length:=by grind
 have e2:(A.all fun x=>Hy x.data.toList)=true:=A3.2 fun x hx=>by
  grind [List.getElem_of_mem]
 have em:A5 p=match(generalizing:=false) o with
  |none=>none
  |some n=>if decide (A.length<2)=true then none else some n:=by
  grind
 refine cU [(4,sl Gs A)] [] Z1 Tv ?_
 have lB:(((A.map Gs).length:Int)-1).toNat=A.length-1:=by grind
 refine Yi (by grind [Av]) (Xi (Gs A[A.length-1]) (Yi (Yi (by grind) (by rw[lB];grind)) (Yi rfl ?_)));refine C1 (C2 (hv) ?_);refine AX (show ∃z:Int,Wo o=vi z/\(z<0↔o=none)/\∀n,o=some n->z=n by
  grind) (fun z hz2=>?_)
 refine cU [(4,sl Gs A),(6,vi z)] [] ⟨Zr,⟨hz2.1,rfl⟩,Tv⟩ Tv (Yi (fun h3=>?_) (fun h3=>?_))
 .rw[Lm]at h3;exact .of_eq (Aa Ra (show(none:Option Int)=A5 p by grind))
 rw[Lm]at h3;refine Yi (fun h4=>?_) (fun h4=>?_)
 .exact .of_eq (Aa Ra (show(none:Option Int)=A5 p by grind))
 refine AX (show ∃n,o=some n by
  grind) (fun n hn=>?_)
 exact .of_eq (show AV.tup [vi z,vi 0]=Ra (A5 p) by grind)
theorem AdS(hp:ED p):PC 240 [vs p] (vb (A5 p).isSome):=by
 have hc:=zC p hp;cases h:A5 p with
 |none=>
  rw[h]at hc;refine Ps C3 func240 rfl (Nz rfl) (C1 (C2 (hc) (Yi ?_ ?_)))
  .intro h;exact absurd (show(4:Int)=0 from h) Cl
  .intro _;exact .refl _
 |some n=>
  rw[h]at hc;refine Ps C3 func240 rfl (Nz rfl) (C1 (C2 (hc) (Yi ?_ ?_)))
  .intro _;exact .refl _
  .intro h;exact absurd rfl h
abbrev kb:Int:=match A5 p with | none=>-1 | some m=>m
abbrev ze:Prop:=∀p:CS,ED p->PC 116 [vs p] (vi (kb p))
abbrev zf:Prop:=∀s:A1,BJ s->PC 118 [sl Ag s] (sl Ag (canon s))
theorem sT{r:List UInt8}(h:r.all CB=true):0<=DY r:=by
 have:∀(l:List UInt8) (n:Int),0<=n->(∀c∈l,CB c=true)->0<=l.foldl (fun n c=>10*n+((c.toNat:Int)-48)) n:=by
  intro l
  induction l<;>grind [Jw]
 exact this r 0 (Bv _) (fun c hc=>A3.1 h c hc)
theorem tN{s:List UInt8}(h:Gi s=some n):0<=n:=by
 unfold Gi at h;split at h
 .split at h
  .split at h
   .cases h
   .rename_i r _ hc;cases h;refine sT ?_;simp_all
  simp_all
 simp_all
theorem oq{p:CS}(h:A5 p=some m):0<=m:=by
 unfold A5 Rb at h;split at h
 .cases h
 .rename_i n e;split at h
  .cases h
  .split at h
   .cases h;exact tN e
   simp_all
theorem br:kb p<0↔(A5 p).isNone=true:=by
 unfold kb;cases h:A5 p with
 |none=>simp
 |some m=>have:=oq h;simp_all
theorem c68(nf:ze)(rL:zf)(l:List Rq)(hs:∀q∈l,FA q):PC 70 [sl As l] (vi (AR l)):=by
 refine Ps (Hx []) func70 rfl (Nz rfl) (Yi ?_ ?_)
 .intro h;exact .of_eq (Aa vi (show(7:Int)=AR l by grind [AR]))
 intro h;have hl:l.length<=16:=by grind
 have Uw:AR l=D2 none l:=by grind [AR]
 refine Xi {i:Nat // i<=l.length/\D2 none l=D2 (JH l i) (l.drop i)} (Xi (fun i=>⟨[(0,sl As l),(3,vi i.1)],[],Ac⟩) (Xi (fun i=>l.length-i.1) (Yi (Xi ⟨0,Al _,rfl⟩ ?_) ?_)))
 .exact⟨Z2,Tv,Fh,Tv⟩
 intro⟨i,h1,h2⟩;refine Yi ?_ ?_
 .intro h;have h:i<l.length:=by simp_all
  have hg:l[i]?=some l[i]:=Ge h;have hd:l.drop i=l[i]::l.drop (i+1):=A2 h;have hq:=hs l[i] (Ae h);have JO:D2 none l=if GY (JH l i) l[i]=0 then D2 (some l[i].path) (l.drop (i+1))else GY (JH l i) l[i]:=by rw[h2,hd];rfl
  have fail:∀e:Int,GY (JH l i) l[i]=e->e≠0->e=AR l:=fun e he hz=>by omega
  have uP:JH l (i+1)=some l[i].path:=ZW h;refine Xi (As l[i]) (Yi (Yi ch (by grind)) (Yi rfl (C1 (C2 (nf l[i].path hq.2) (Yi ?_ ?_)))))
  .intro h3;exact .of_eq (Aa vi (fail 4 (by grind [GY,br]) Cl))
  intro h3;have hmj:(A5 l[i].path).isNone=false:=by
   grind
  have er:GY (JH l i) l[i]=if(l[i].set.isEmpty||!decide (l[i].set=canon l[i].set)||(match JH l i with | some b=>!Dz b l[i].path | none=>false))=true then 1 else 0:=by unfold GY;grind
  refine Xi (As l[i]) (Yi (Yi ch (by grind)) (Yi rfl (Yi ?_ ?_)))
  .intro h4;have h5:l[i].set.isEmpty=true:=by
    rw[Lm]at h4;rw[Mh];exact AT ch
   refine Yi Wk ?_;exact .of_eq (Aa vi (fail 1 (by grind) Cl))
  intro h4;have h5:l[i].set.isEmpty=false:=by
   grind
  have he:=c75 l[i].set (canon l[i].set) hq.1;refine Xi (As l[i]) (Yi (Yi ch (by grind)) (Yi rfl (Xi (As l[i]) (Yi (Yi ch (by grind)) (Yi rfl (C2 (rL l[i].set hq.1) (AN (Bt (decide (l[i].set=canon l[i].set))) (fun e=>?_) (fun e=>?_))))))))
  rotate_left
  .rw[e]at he;refine C2 (he) (Yi Wk ?_);exact .of_eq (Aa vi (fail 1 (by grind) Cl))
  rw[e]at he;refine C2 (he) (Yi Wk (Yi ?_ ?_))
  .intro h6;have h6:(0:Int)<i:=h6;have h7:i-1<l.length:=by omega
   have hb:JH l i=some l[i-1].path:=by
    grind
   refine Xi (As l[i]) (Yi (Yi ch (by grind)) (Yi rfl (Yi (by grind [Av]) (Xi (As l[i-1]) (Yi (Yi ch (by rw[show((i:Int)-1).toNat=i-1 by omega];grind)) (Yi rfl ?_))))));refine Yi ?_ ?_
   .intro h8;refine Yi Wk ?_;exact .of_eq (Aa vi (fail 1 (by grind [Ec]) Cl))
   .intro h8;have h8:¬Op.bytesLess l[i-1].path.toList l[i].path.toList=false:=h8;have h8:Op.bytesLess l[i-1].path.toList l[i].path.toList=true:=by grind
    refine Yi Wk (Yi (by grind [Av]) (Xi ⟨i+1,by omega,by grind [Ec]⟩ ?_));exact⟨Dl l.length i ch,Z2,Tv,Fh,Tv⟩
  .intro h6;have h6:¬(0:Int)<i:=h6;have h7:i=0:=by omega
   refine Yi Wk (Yi (by show Av ((i:Int)+1);grind [Av]) (Xi ⟨i+1,by omega,by grind⟩ ?_));exact⟨Dl l.length i ch,Z2,Tv,Fh,Tv⟩
 .intro h;have h:¬(i:Int)<(l.map As).length:=h;have h:¬i<l.length:=by simp_all
  have e:(0:Int)=AR l:=by rw[Uw,h2,KW ch];rfl
  exact .of_eq (Aa vi e)
theorem dZ(k:Nat)(hk:k<p.data.toList.length)(h1:p.data.toList[k]=47)(h2:∀j (hj:j<p.data.toList.length),k<j->p.data.toList[j]≠47):Go.Lib.lastIndex p.data.toList [47]=k:=by
 have hoc:∀i (hi:i<p.data.toList.length),Go.Lib.occAt p.data.toList [47] i=true↔p.data.toList[i]=47:=fun i hi=>by
  grind [Go.Lib.occAt,List.drop_eq_getElem_cons]
 grind [Go.Lib.lastIndex,Go.Lib.lastOcc_spec]
theorem kY{p:CS}(h:A5 p=some m):(47:UInt8)∈p.data.toList:=by
 grind [OS,A5,Rb]
theorem vY(hp:ED p):PC 176 [vs p] (PS QZ p):=by
 have hc:=zC p hp;have hi:=AdS p hp;have Fg:p.size=p.data.toList.length:=by simp
 unfold PS;cases h:A5 p with
 |none=>
  rw[h]at hi;refine Ps C3 func176 rfl (Nz rfl) (C1 (C2 (hi) ?_));exact .refl _
 |some n=>
  have wY:=kY h;rw[h]at hc hi;unfold ED at hp;refine AX (show ∃q,∃hq:q<p.data.toList.length,p.data.toList[q]=47 from NN wY) (fun q hq=>?_);refine AX hq (fun hq eq=>?_);refine Ps C3 func176 rfl (Nz rfl) (C1 (C2 (hi) (C1 (C2 (hc) (Yi (fun h=>absurd rfl h) (fun _=>?_))))));refine Yi (show Av (((p.size:Nat):Int)-1) by grind [Av]) ?_;refine Xi {k:Nat // k<p.data.toList.length/\∀j (hj:j<p.data.toList.length),k<j->p.data.toList[j]≠47} (Xi (fun k=>⟨[(0,vs p),(5,vi n),(7,vi k.1)],[],Ac⟩) (Xi (fun k=>k.1) (Yi (Xi ⟨p.data.toList.length-1,by omega,fun j hj FI=>by omega⟩ ?_) ?_)))
  .have e1:vi (((p.size:Nat):Int)-1)=vi ((p.data.toList.length-1:Nat):Int):=Aa vi ch;exact⟨⟨Zr,Zr,⟨e1,rfl⟩,Tv⟩,Tv,Fh,Tv⟩
  intro⟨k,k1,k2⟩;have SJ:(0:Int)<=k/\p.data[((k:Nat):Int).toNat]?=some p.data.toList[k]:=⟨by omega,by grind⟩;refine Xi p.data.toList[k] (Yi SJ (Yi (fun h2=>?_) (fun h2=>?_)))
  .have h2:p.data.toList[k]≠47:=fun e=>h2 (by rw[e];rfl);have hqk:q<=k:=by
    grind
   have Xa:q≠k:=fun e=>by grind
   refine Yi (show Av ((k:Int)-1) by grind [Av]) ?_;have e1:vi ((k:Int)-1)=vi ((k-1:Nat):Int):=Aa vi ch;refine Xi ⟨k-1,by omega,fun j hj FI=>?_⟩ ?_
   .grind
   .exact⟨by grind,⟨Zr,Zr,⟨e1,rfl⟩,Tv⟩,Tv,Fh,Tv⟩
  .have h2:p.data.toList[k]=47:=HJ.1 (by grind);have el:=dZ p k k1 h2 k2;refine Yi ⟨Bv _,by grind,by grind⟩ ?_;have e3:p.extract 0 ((k:Nat):Int).toNat=QZ p:=by grind
   exact .of_eq (show AV.tup [vs (p.extract 0 ((k:Nat):Int).toNat),vi n,vi 0]=_ by rw[e3])
theorem vT(hp:ED p):PC 116 [vs p] (vi (kb p)):=by
 have hc:=vY p hp;unfold PS at hc;unfold kb;cases h:A5 p with
 |none=>
  rw[h]at hc;refine Ps C3 func116 rfl (Nz rfl) (C1 (C2 (hc) (Yi (fun _=>?_) (fun h=>absurd (show(4:Int)≠0 by decide) h))));exact .refl _
 |some m=>
  rw[h]at hc;refine Ps C3 func116 rfl (Nz rfl) (C1 (C2 (hc) (Yi (fun h=>absurd rfl h) (fun _=>?_))));exact .refl _
theorem nf:ze:=vT
end Go.Eng
