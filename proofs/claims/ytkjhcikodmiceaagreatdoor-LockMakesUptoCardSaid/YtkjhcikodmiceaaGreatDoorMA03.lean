/- Lemmas 3. -/
import Derived.Test.YtkjhcikodmiceaaGreatDoorMA02
namespace Go.Eng
variable {x:List Rl}{dec:List Cd}{roots:List Rq}{p:ByteArray}{c:Cd}{α:Type}{l:List α}{s:List UInt8}{n:Nd}{E:List Cd}{needs:List Nd}{d:List Cd}{r:Rl}{q:Rq}{t:AN}
structure Df(x:List Rl)(dec:List Cd):Prop where
 cand:∀c∈dec,c.rel∈x/\c.rel.yanked=false/\c.place=plc c.rel.ver
 nodup:(dec.map fun c=>c.rel.path).Nodup
theorem Df.nil(x:List Rl):Df x []:=⟨fun _ h=>(by cases h),KX⟩
theorem Vv(h:JE r):r.path≠R:=fun e=>by
 have:=h.maj
 rw[e]at this;have h2:AP R=none:=aa3
 simp_all
theorem JE.set{r:Rl}(h:JE r):∀q∈r.reqs,q.set≠[]/\ED q.set:=LG h.reqs
theorem J9(dec:List Cd):(Q dec).map (·.path)=dec.map fun c=>c.rel.path:=aa0
theorem OM:∀{D:List Sl},(D.map (·.path)).Nodup->∀{y:Sl},y∈D->AE D y.path=some y
 | [],_,y,h=>by cases h
 |z::D,hn,y,h=>by
  simp only[Bo,GL]at hn;unfold AE;rw[Ie];rcases AM.1 h with rfl | h
  .simp_all
  .have:z.path≠y.path:=fun e=>hn.1 (Ar.2 ⟨y,h,e.symm⟩)
   rw[At this];exact OM hn.2 h
theorem Df.find(h:Df x dec)(hc:c∈dec):AE (Q dec) c.rel.path=some (Ob c):=
 OM (by rw[J9];exact h.nodup) (y:=Ob c) (Ar.2 ⟨c,hc,rfl⟩)
theorem Df.valid(hx:Aw x=0)(h:Df x dec):Gv (Q dec):=fun y hy=>by
 obtain⟨c,hc,rfl⟩:=Ar.1 hy;exact((Bp hx).1 _ (h.cand c hc).1).val
theorem Df.snoc(h:Df x dec)(hc:c.rel∈x/\c.rel.yanked=false/\c.place=plc c.rel.ver)(hd:DB dec c.rel.path=false):Df x (dec++[c]):=by
 refine⟨fun d hd=>?_,?_⟩
 all_goals grind [DB,Df.cand,Df.nodup]
theorem M3(h:n∈Du roots E):(∃k q,roots[k]?=some q/\n=⟨q,R,0,(k:Nat)⟩)\/∃c∈E,∃k q,c.rel.reqs[k]?=some q/\n=⟨q,c.rel.path,c.place,(k:Nat)⟩:=by
 unfold Du at h;rcases Bc.1 h with h | h
 .obtain⟨k,q,h1,h2⟩:=QK h<;>grind [QK]
 .obtain⟨l,hl,hn⟩:=EI.1 h;obtain⟨c,hc,rfl⟩:=Ar.1 hl;obtain⟨k,q,h1,h2⟩:=QK hn<;>grind [QK]
theorem Pk(h:n∈Du roots dec):n∈Du roots (dec++[c]):=by
 grind [Du]
theorem NO(h:n∈QQ c):n∈Du roots (dec++[c]):=by
 grind [Du]
def Oc(n:Nd):List Tm:=if n.path=R then [DG n.rq]else [⟨n.path,false,[(n.place,n.place+1)]⟩,DG n.rq]
theorem Qt(n:Nd):II n=H (Oc n):=by grind [II,Oc,GE,BU]
theorem iO{s:AN}(h:s≠[])(hc:ED s):∃k,has s k=true:=by
 match s,h,hc with
 |x::r,_,hc=>
  have:=EU.low hc x (Ah ..)
  refine⟨x.1,?_⟩
  grind [has,BM]
theorem SN{o:Option Sl}(h:o=none\/∃y,o=some y/\Bv y.ver=true/\has q.set (place y.ver)=false):Dj (DG q) o=true:=by
 rcases h with rfl | ⟨y,rfl,hv,hq⟩
 .rfl
 .show(Bv y.ver&&has (BW q.set) (place y.ver))=true
  grind [Kf,Fu,Qs]
theorem Vt{y:Sl}(hq:has q.set (place y.ver)=true):Dj (DG q) (some y)=false:=by
 show(Bv y.ver&&has (BW q.set) (place y.ver))=false
 grind [Fu]
structure yJ(x:List Rl)(roots:List Rq)(S:List Sl)(n:Nd):Prop where
 inf:∀d,AR x roots d (OZ n)=some (II n)
 viol:AX (II n) S=true
 raw:∀S',Gv S'->AX (II n) S'=AX (Oc n) S'
 form:Form (II n)
 inU:∀U:List ByteArray,(n.path≠R->n.path∈U)->n.rq.path∈U->Si U (II n)
 path:n.path≠R->BP S n.path=true
theorem Tw(hx:Aw x=0)(hr:AK roots=0)(hE:Df x E)(hn:n∈Du roots E)(hv:AE (Q E) n.rq.path=none\/∃y,AE (Q E) n.rq.path=some y/\has n.rq.set (place y.ver)=false):yJ x roots (Q E) n:=by
 have hV:=hE.valid hx;have wP:Dj (DG n.rq) (AE (Q E) n.rq.path)=true:=SN (hv.imp id fun⟨y,h1,h2⟩=>⟨y,h1,hV y (GY h1),h2⟩)
 -- the raw list is AX here,and not elsewhere
 have OX:n.rq.set≠[]/\ED n.rq.set:=by
  rcases M3 hn with ⟨k,q,h1,rfl⟩ | ⟨c,hc,k,q,h1,rfl⟩
  .grind [LG]
  .exact((Bp hx).1 _ (hE.cand c hc).1).set q (AA h1)
 have n8:AX (Oc n) (Q E)=true/\(n.path≠R->BP (Q E) n.path=true):=by
  rcases M3 hn with ⟨k,q,h1,rfl⟩ | ⟨c,hc,k,q,h1,rfl⟩
  .refine⟨?_,fun h=>absurd rfl h⟩;unfold Oc;rw[A1 rfl,Bu];intro u hu;rw[AI.1 hu];exact wP
  .have ER:=Vv ((Bp hx).1 _ (hE.cand c hc).1);refine⟨?_,fun _=>by grind [Ky,Df.find]⟩;unfold Oc;rw[AL ER,Bu];intro u hu;rcases AM.1 hu with rfl | hu
   .show Dj _ (AE (Q E) c.rel.path)=true;rw[hE.find hc];show(Bv c.rel.ver&&has [(c.place,c.place+1)] (place c.rel.ver))=true;have GJ:=(Bp hx).1 _ (hE.cand c hc).1;have hp:=Kf GJ.val;rw[GJ.val,(hE.cand c hc).2.2,GJ.plc]
    grind [has,BM]
   .rw[AI.1 hu];exact wP
 have Afc:∃S',Gv S'/\AX (Oc n) S'=false:=by
  unfold Oc;split
  .obtain⟨k,hk⟩:=iO OX.1 OX.2;have aY:=OT hk;refine⟨[⟨n.rq.path,gi k⟩],fun y hy=>by grind [Fl],?_⟩;rw[BC];intro h
   have:=Bu.1 h (DG n.rq) (AI.2 rfl)
   grind [DG,AE,Vt,HP]
  .refine⟨[],fun y hy=>(by cases hy),?_⟩;rw[BC];intro h
   have:=Bu.1 h _ (Ah ..)
   cases this
 obtain⟨n8,AaG⟩:=n8;have ER:H (Oc n)≠[]:=by
  obtain⟨S',v',n'⟩:=Afc;have c1:=Dn (l:=Oc n) hV;have c2:=Dn (l:=Oc n) v';unfold H;cases hc:Bj (Oc n)with
  |none=>simp_all
  |some c=>
   rw[hc,n']at c2;intro e;have e:c=[]:=e;rw[e]at c2;cases c2
 have AaJ:∀S',Gv S'->AX (II n) S'=AX (Oc n) S':=fun S' v=>by grind [Qt,RI]
 refine⟨fun d=>?_,by simp_all,AaJ,by grind [Qt,M8],fun U h1 h2=>?_,AaG⟩
 .rcases M3 hn with ⟨k,q,h1,rfl⟩ | ⟨c,hc,k,q,h1,rfl⟩
  .show AR x roots d (if(R:ByteArray)=R then⟨0,R,0,(k:Nat),0,0⟩else _)=some (if(R:ByteArray)=R then GE q else _);rw[A1 rfl,A1 rfl];show(if R=R/\(0:Int)=0/\(0:Int)=0/\(0:Int)=0 then(DU roots (k:Nat)).map GE else none)=some (GE q)
   grind [DU]
  .have GJ:=(Bp hx).1 _ (hE.cand c hc).1;have g8:=Vv GJ;have hrel:Dt x c.rel.path c.place=some c.rel:=by
    unfold Dt;cases hf:x.find? fun r=>decide (r.path=c.rel.path)&&decide (plc r.ver=c.place)with
    |none=>
     grind [Df.cand]
    |some r=>
     have h2:=FI hf;simp only[Aq,A4]at h2;have nZ:=Bh hf;have Afh:=(Bp hx).1 r nZ;rw[iM (Bp hx) nZ (hE.cand c hc).1 h2.1 (by rw[<-Afh.plc,h2.2,(hE.cand c hc).2.2,GJ.plc])]
   grind [OZ,II,AR,DU,Ph,Qt]
 .rw[Qt];refine Vs fun u hu=>?_;unfold Oc at hu;split at hu
  .rw[AI.1 hu];exact h2
  .rename_i hm;rcases AM.1 hu with rfl | hu
   .simp_all
   .rw[AI.1 hu];exact h2
structure di(D:List Sl)(U:List ByteArray)(p:ByteArray)(t:List Tm)(C:Int->Prop):Prop where
 form:Form t
 inU:Si U t
 conc:DN t p=true
 one:∃S,V9 D p S/\AX t S=true
 cov:∀k:Int,0<=k->k<1000000->C k->AX t (M9 D p (gi k))=true
structure db(D:List Sl)(U:List ByteArray)(p:ByteArray)(t:List Tm)(C:Int->Prop):Prop where
 form:Form t
 inU:Si U t
 none_:AX t D=true
 cov:∀k:Int,0<=k->k<1000000->C k->AX t (M9 D p (gi k))=true
theorem EZ.forms{s:SS}(h:EZ x roots s):∀k,Form (Ei s k):=fun k=>by
 unfold Ei;rw[List.getD_eq_getElem?_getD];cases e:s.drv[k]? with
 |none=>exact UE
 |some t=>exact Of (fun _ h=>by cases h) h.der t (AA e)
theorem Xn{d:List (List Tm)}{k r:Nat}(hk:k<d.length)(hr:r<d.length)(h0:(AU (d.getD k []) (d.getD r []) p).2=0) :
  AR x roots d ⟨3,p,0,0,(k:Nat),(r:Nat)⟩=some (AU (d.getD k []) (d.getD r []) p).1:=by
 grind [DU,Int.toNat_natCast,AR]
theorem Pb{x:List Rl}{roots:List Rq}{D:List Sl}{U:List ByteArray}{p:ByteArray}(hD:Gv D):∀(l:List (Nat×(Int->Prop))) {k:Nat} {s:SS} {C:Int->Prop},EZ x roots s->k<s.drv.length->(∀y∈l,y.1<s.drv.length) ->
  (s.full=false->db D U p (Ei s k) C/\∀y∈l,di D U p (Ei s y.1) y.2) ->
  EZ x roots (B2 p (l.map (·.1)) k s).2/\Grow s (B2 p (l.map (·.1)) k s).2/\(B2 p (l.map (·.1)) k s).1<(B2 p (l.map (·.1)) k s).2.drv.length /\
  ((B2 p (l.map (·.1)) k s).2.full=false->∃C',db D U p (Ei (B2 p (l.map (·.1)) k s).2 (B2 p (l.map (·.1)) k s).1) C' /\
   (DN (Ei (B2 p (l.map (·.1)) k s).2 (B2 p (l.map (·.1)) k s).1) p=false\/∀j,C j\/(∃y∈l,y.2 j)->C' j))
 | [],k,s,C,hd,hk,_,hA=>⟨hd,.refl s,hk,fun hf=>⟨C,(hA hf).1,.inr fun j hj=>hj.elim id fun⟨y,hy,_⟩=>(by cases hy)⟩⟩
 |y::l,k,s,C,hd,hk,hl,hA=>by
  rw[Bo]
  by_cases h1:s.full=true\/DN (Ei s k) p=false
  .grind [B2.eq_def,Grow.refl]
  simp only[not_or,Mo,Sh]at h1;obtain⟨hf,UQ⟩:=h1;obtain⟨ur,jX⟩:=hA hf;have hy:=jX y (Ah ..);have hi:¬(s.full=true\/DN (Ei s k) p=false):=aa0
  by_cases h2:y.1=k
  .have e:B2 p (y.1::l.map (·.1)) k s=B2 p (l.map (·.1)) k s:=by grind [B2]
   rw[e];have wx : db D U p (Ei s k) fun j=>C j\/y.2 j:=⟨ur.form,ur.inU,ur.none_,fun j j0 j1 hj=>hj.elim (ur.cov j j0 j1) fun h=>by grind [di.cov]⟩;obtain⟨i1,i2,i3,i4⟩:=Pb hD l hd hk (fun z hz=>hl z (Aj _ hz)) (fun _=>⟨wx,fun z hz=>jX z (Aj _ hz)⟩);refine⟨i1,i2,i3,fun hf=>?_⟩;obtain⟨C',j1,j2⟩:=i4 hf;refine⟨C',j1,j2.imp id fun h j hj=>h j ?_⟩;rcases hj with hj | ⟨z,hz,hj⟩<;>grind
  .obtain⟨S2,o2,v2⟩:=hy.one;obtain⟨r1,r2⟩:=Zu ur.form hy.form UQ hy.conc (.self hD) ur.none_ o2 v2;have e:B2 p (y.1::l.map (·.1)) k s=B2 p (l.map (·.1)) (Ed s ⟨3,p,0,0,k,y.1⟩ (AU (Ei s k) (Ei s y.1) p).1).1 (Ed s ⟨3,p,0,0,k,y.1⟩ (AU (Ei s k) (Ei s y.1) p).1).2:=by
    grind [B2]
   rw[e];have hy1:=hl y (Ah ..);obtain⟨a1,a2,a3⟩:=KZ hd (Xn (x:=x) (roots:=roots) hk hy1 r1);have hg:=K3 s ⟨3,p,0,0,(k:Nat),(y.1:Nat)⟩ (AU (Ei s k) (Ei s y.1) p).1;generalize eU : Ed s ⟨3,p,0,0,(k:Nat),(y.1:Nat)⟩ (AU (Ei s k) (Ei s y.1) p).1=s' at *
   have a3:s'.2.full=false->Ei s'.2 s'.1=(AU (Ei s k) (Ei s y.1) p).1:=a3;obtain⟨i1,i2,i3,i4⟩:=Pb hD (C:=fun j=>C j\/y.2 j) l a1 a2 (fun z hz=>AZ (hl z (Aj _ hz)) hg.len) (fun yk=>by
    refine⟨?_,fun z hz=>by rw[hg.at (hl z (Aj _ hz))];exact jX z (Aj _ hz)⟩
    grind [Ow,SQ,Fl,db.mk,db.inU,di.inU,V9.self,db.none_,V9.ver,db.cov,di.cov])
   refine⟨i1,hg.trans i2,i3,fun hf=>?_⟩;obtain⟨C',j1,j2⟩:=i4 hf;refine⟨C',j1,j2.imp id fun h j hj=>h j ?_⟩;rcases hj with hj | ⟨z,hz,hj⟩<;>grind
def Js(roots:List Rq)(dec:List Cd):Prop:=∀q∈EO roots dec,∀d∈dec,d.rel.path=q.path->has q.set d.place=true
theorem Js.nil(roots:List Rq):Js roots []:=fun _ _ d h=>by cases h
theorem VH(roots:List Rq)(dec:List Cd)(c:Cd):EO roots (dec++[c])=EO roots dec++c.rel.reqs:=by
 simp_all
theorem th(c:Cd):(QQ c).map (·.rq)=c.rel.reqs:=TH (fun _ _=>rfl) _ _
theorem dJ(h:CX dec c=none):∀q∈c.rel.reqs,∀d∈dec++[c],d.rel.path=q.path->has q.set d.place=true:=fun q hq d hd e=>by
 grind [th,CX,Vj]
theorem LH(h:CX dec c=some n):n∈QQ c/\∃d∈dec++[c],d.rel.path=n.rq.path/\has n.rq.set d.place=false:=by
 grind [CX,Vj]
theorem Js.snoc(h:Js roots dec)(hN:V8 roots dec p needs)(hc:c.rel.path=p)(hn:∀n∈needs,has n.rq.set c.place=true)(hk:CX dec c=none):Js roots (dec++[c]):=by
 intro q hq d hd e;rw[VH]at hq;rcases Bc.1 hq with hq | hq
 .rcases Bc.1 hd with hd | hd
  .exact h q hq d hd e
  .rw[AI.1 hd]at e⊢;rw[<-IJ]at hq
   grind [V8.mem]
 grind [dJ]
def Wu(y:Sl):List Sl->List Sl
 | []=>[y]
 |z::l=>if Ek y.path z.path then y::z::l else z::Wu y l
def DK:List Sl->List Sl
 | []=>[]
 |y::l=>Wu y (DK l)
theorem U4{y z:Sl}:∀{l:List Sl},z∈Wu y l↔z=y\/z∈l
 | []=>by simp[Wu]
 |u::l=>by
  unfold Wu;split
  .simp
  .rw[AM,U4,AM]
   grind
theorem FU{z:Sl}:∀{l:List Sl},z∈DK l↔z∈l
 | []=>by simp[DK]
 |u::l=>by unfold DK;rw[U4,FU,AM]
theorem bw{y:Sl}:∀{l:List Sl},Pz l->(∀z∈l,z.path≠y.path)->Pz (Wu y l)
 | [],_,_=>by grind [Wu]
 |u::l,h,hn=>by
  obtain⟨h1,h2⟩:=EF.1 h;unfold Wu;split
  .grind [List.pairwise_cons,D2]
  .rename_i hb;refine EF.2 ⟨fun z hz=>?_,bw h2 fun z hz=>hn z (Aj _ hz)⟩
   grind [U4,Ik]
theorem N0:∀{l:List Sl},(l.map (·.path)).Nodup->Pz (DK l)
 | [],_=>List.Pairwise.nil
 |y::l,h=>by
  simp only[Bo,GL]at h;exact bw (N0 h.2) fun z hz e=>h.1 (Ar.2 ⟨z,FU.1 hz,e⟩)
theorem UZ:∀{l:List Sl} {b:Option ByteArray},Pz l->(∀c,b=some c->∀y∈l,Ek c y.path=true)->La b l=true
 | [],_,_,_=>by unfold La;rfl
 |y::l,b,h,hb=>by
  obtain⟨h1,h2⟩:=EF.1 h;unfold La;cases b with
  |none=>simpa using UZ h2 fun c e z hz=>by simp_all
  |some c=>
   have:=hb c rfl y (Ah ..)
   simp only[this,S0];exact UZ h2 fun c e z hz=>by simp_all
theorem oo{l:List Sl}(h:Pz l):Be l=true:=UZ h fun _ e=>by cases e
theorem G9(hx:Aw x=0)(hr:r∈x):AW x (Cr r)=some r:=by
 unfold AW;rw[AL (fun h=>h hx)];cases h:x.find? fun s=>decide (Cr s=Cr r)with
 |none=>
  grind
 |some s=>
  have h1:=FI h;simp only[A4]at h1;rw[U6 (Bp hx).2 (Bh h) hr h1]
theorem Df.sorted(h:Df x dec):Pz (DK (Q dec)):=N0 (by rw[J9];exact h.nodup)
theorem Df.findS(h:Df x dec)(hc:c∈dec):AE (DK (Q dec)) c.rel.path=some (Ob c):=
 Oj h.sorted (y:=Ob c) (FU.2 (Ar.2 ⟨c,hc,rfl⟩))
theorem bH(hx:Aw x=0)(h:Df x dec)(hs:Js roots dec)(hl:DH (EO roots dec) (Q dec)=none):lS x roots (DK (Q dec)):=by
 have GI:∀q∈EO roots dec,∃y,AE (DK (Q dec)) q.path=some y/\has q.set (place y.ver)=true:=fun q hq=>by
  have:=Vm hl q hq
  rw[LP]at this;obtain⟨y,hy,e⟩:=this;obtain⟨d,hd,rfl⟩:=Ar.1 hy;have e:d.rel.path=q.path:=e;refine⟨Ob d,by grind [Df.findS],?_⟩;have h1:=hs q hq d hd e;have GJ:=(Bp hx).1 _ (h.cand d hd).1;rw[(h.cand d hd).2.2,GJ.plc]at h1;exact h1
 refine⟨hx,oo h.sorted,fun y hy=>?_,fun q hq=>GI q (Bz _ hq),fun y hy r hr q hq=>?_⟩
 .obtain⟨d,hd,rfl⟩:=Ar.1 (FU.1 hy);exact⟨d.rel,G9 hx (h.cand d hd).1,(h.cand d hd).2.1⟩
 .obtain⟨d,hd,rfl⟩:=Ar.1 (FU.1 hy)
  have:AW x (Ob d)=some d.rel:=G9 hx (h.cand d hd).1
  rw[this]at hr;cases hr;exact GI q (Cb _ (EI.2 ⟨_,Ar.2 ⟨d,hd,rfl⟩,hq⟩))
def cn(dec:List Cd)(needs:List Nd)(c:Cd):Bool:=(needs.all fun n=>has n.rq.set c.place)&&(CX dec c).isNone
def Cp(x:List Rl)(roots:List Rq):Nat->List Cd->List (List Cd)
 |0,_=>[]
 |n+1,dec=>match(D4 roots dec).2 with
  | []=>[dec]
  |n0::l=>((Bk x (D4 roots dec).1).map fun c=>if cn dec (n0::l) c then Cp x roots n (dec++[c])else []).flatten
structure Lf(x:List Rl)(roots:List Rq)(dec d:List Cd):Prop where
 pre:dec <+: d
 ok:Df x d
 sat:Js roots d
 stop:DH (EO roots d) (Q d)=none
theorem Gz(h:c∈Bk x p):c.rel.path=p/\(c.rel∈x/\c.rel.yanked=false/\c.place=plc c.rel.ver):=by
 grind [HG]
theorem I0:cn dec needs c=true↔(∀n∈needs,has n.rq.set c.place=true)/\CX dec c=none:=by
 grind [cn,Option.isNone_iff_eq_none]
theorem JT{x:List Rl}{roots:List Rq}:∀{n:Nat} {dec:List Cd},Df x dec->Js roots dec->∀d∈Cp x roots n dec,Lf x roots dec d
 |0,_,_,_,d,hd=>by cases hd
 |n+1,dec,h,hs,d,hd=>by
  unfold Cp at hd;split at hd
  .grind [Pn,Lf.mk]
  .rename_i n0 l e;have hN:=Kd e;obtain⟨L,hL,hd⟩:=EI.1 hd;obtain⟨c,hc,rfl⟩:=Ar.1 hL;split at hd
   .rename_i GJ;obtain⟨h1,h2⟩:=I0.1 GJ;obtain⟨c1,c2⟩:=Gz hc;have j7:DB dec c.rel.path=false:=by grind [V8.undone]
    have:=JT (n:=n) (h.snoc c2 j7) (hs.snoc hN c1 h1 h2) d hd
    grind [List.prefix_append,Lf.mk,Lf.pre,Lf.ok,Lf.sat,Lf.stop]
   simp_all
theorem Lf.sol(hx:Aw x=0)(h:Lf x roots dec d):lS x roots (DK (Q d)):=bH hx h.ok h.sat h.stop
theorem sO(hx:Aw x=0){s:SS}(hd:EZ x roots s){k:Nat}(hk:k<s.drv.length)(he:Bq (Ei s k) (Q dec)=true)(h:Lf x roots dec d):False:=by
 have hS:=h.sol hx;have hv:=Yx (s:=DK (Q d)) hS.inc (fun y hy=>FU.2 (by
  obtain⟨c,hc,rfl⟩:=Ar.1 hy;obtain⟨t,e⟩:=h.pre<;>grind)) he
 have hn:=Im hS (d:=[]) (fun _ h=>by cases h) hd.der (Ei s k) (by
  simp_all)
 simp_all
theorem w9(h:Aw x=0):x.length<=256:=by
 grind [Aw]
theorem nB{l:List Rl}{k:Int}:(l.map fun r=>(plc r.ver,plc r.ver+1)).any (BM k)=true↔∃r∈l,plc r.ver=k:=by
 rw[Bs];constructor
 .grind [EC]
 .rintro⟨r,hr,rfl⟩
  exact⟨_,Ar.2 ⟨r,hr,rfl⟩,EC.2 ⟨B4 _,by omega⟩⟩
theorem WQ(hx:Aw x=0){k:Int}:has (Ba x p) k=true↔∃c∈Bk x p,c.place=k:=by
 unfold Ba;rw[EA];unfold has IL;rw[AL (fun h=>h hx)];simp only[Aq,A4];rw[nB];constructor
 .rintro⟨_,r,hr,rfl⟩
  simp only[Cw,A4,EY]at hr;exact⟨⟨plc r.ver,r⟩,HG.2 ⟨r,hr.1.1,hr.1.2,hr.2,rfl⟩,rfl⟩
 .rintro⟨c,hc,rfl⟩
  obtain⟨r,h1,h2,h3,rfl⟩:=HG.1 hc;have GJ:=(Bp hx).1 r h1
  have:=Kf GJ.val
  grind [JE.plc]
theorem iW(hx:Aw x=0)(p:ByteArray):∃k:Int,0<=k/\k<1000000/\has (Ba x p) k=false:=by
 apply As;intro hn;have GI:∀k∈(List.range 257).map fun i:Nat=>(i:Int),k∈x.map fun r=>plc r.ver:=by
  intro k hk;obtain⟨i,hi,rfl⟩:=Ar.1 hk;have hi:=PA.1 hi;have hh:has (Ba x p) (i:Int)=true:=by
   grind
  grind [WQ,HG]
 have:=CC (ID.2 (List.nodup_range.imp fun h e=>h (Int.ofNat.inj e))) GI
 grind [w9]
theorem U7(dec:List Cd)(c:Cd):Q (dec++[c])=M9 (Q dec) c.rel.path c.rel.ver:=aa0
theorem JL{t:List Tm}{S:List Sl}:Bq t S=true↔AX t S=true/\∀u∈t,BP S u.path=true:=by
 grind [Bq]
section
variable {x:List Rl}{roots:List Rq}{dec:List Cd}{p:ByteArray}{needs:List Nd}
abbrev fJ(p:ByteArray)(dec:List Cd):List ByteArray:=p::(Q dec).map (·.path)
theorem rG{c:Cd}{t:List Tm}(hf:Form t)(he:Bq t (Q (dec++[c]))=true):Si (fJ c.rel.path dec) t:=by
 refine⟨E7 hf,fun u hu=>?_⟩
 grind [JL,E8]
theorem mY(hx:Aw x=0)(hd:Df x dec){c:Cd}(hc:c.rel∈x){t:List Tm}(he:Bq t (Q (dec++[c]))=true)(hn:DN t c.rel.path=false):Bq t (Q dec)=true:=by
 obtain⟨h1,h2⟩:=JL.1 he;have ER:=Ku hn;rw[U7]at h1 h2;refine JL.2 ⟨?_,fun u hu=>?_⟩
 .rw[Lz (.self (hd.valid hx)) (.ver (hd.valid hx) ((Bp hx).1 _ hc).val) ER];exact h1
 grind [LP]
theorem lx(hx:Aw x=0)(hd:Df x dec){c:Cd}(hc:c.rel∈x/\c.rel.yanked=false/\c.place=plc c.rel.ver)(hu:DB dec c.rel.path=false){t:List Tm}(hf:Form t)(he:Bq t (Q (dec++[c]))=true)(hn:DN t c.rel.path=true) :
  di (Q dec) (fJ c.rel.path dec) c.rel.path t fun k=>k=c.place:=by
 have GJ:=(Bp hx).1 _ hc.1;have hV:=hd.valid hx;have h1:=(JL.1 he).1;rw[U7]at h1;refine⟨hf,rG hf he,hn,⟨_,.ver hV GJ.val,h1⟩,fun k k0 k1 e=>?_⟩
 grind [gg,GU,Fl,HP,JE.val,JE.plc]
theorem QA(hx:Aw x=0)(hr:AK roots=0){E:List Cd}(hE:Df x E){n:Nd}(hn:n∈Du roots E)(hv:∃d∈E,d.rel.path=n.rq.path/\has n.rq.set d.place=false) :
  (∀d,AR x roots d (OZ n)=some (II n))/\Bq (II n) (Q E)=true/\Form (II n):=by
 obtain⟨d,hd,e,hs⟩:=hv;have GJ:=(Bp hx).1 _ (hE.cand d hd).1;have hf:=hE.find hd;have hI:=Tw hx hr hE hn (.inr ⟨Ob d,by simp_all,by rw[show(Ob d).ver=d.rel.ver from rfl,<-GJ.plc,<-(hE.cand d hd).2.2];exact hs⟩);refine⟨hI.inf,JL.2 ⟨hI.viol,fun u hu=>?_⟩,hI.form⟩
 have:=(hI.inU ((Q E).map (·.path)) (fun h=>E8.1 (hI.path h)) (E8.1 (by grind [Ky]))).2 u hu
 exact E8.2 this
theorem kL(hx:Aw x=0)(hr:AK roots=0)(hd:Df x dec)(hN:V8 roots dec p needs){c:Cd}(hc:c∈Bk x p){n:Nd}(hn:n∈needs)(hs:has n.rq.set c.place=false):DN (II n) p=true:=by
 obtain⟨c1,c2⟩:=Gz hc;have hu:DB dec c.rel.path=false:=by grind [V8.undone]
 have hE:=hd.snoc c2 hu;obtain⟨qy,hn2⟩:=(hN.mem n).1 hn;have GJ:=(Bp hx).1 _ c2.1;have hI:=Tw hx hr hE (Pk qy) (.inr ⟨Ob c,by grind [Df.find],by grind [JE.plc]⟩);cases yi:DN (II n) p with
 |true=>rfl
 |false=>
  exfalso
  have OX:n.rq.set≠[]/\ED n.rq.set:=by
   rcases M3 qy with ⟨k,q,h1,rfl⟩ | ⟨c,hc,k,q,h1,rfl⟩
   .grind [LG]
   .exact((Bp hx).1 _ (hd.cand c hc).1).set q (AA h1)
  obtain⟨k,hk⟩:=iO OX.1 OX.2;have aY:=OT hk;have hV:=hd.valid hx;have o1:V9 (Q dec) p (M9 (Q dec) p (gi k)):=.ver hV (Fl aY);have o2:V9 (Q dec) p (Q (dec++[c])):=by grind [V9.ver,JE.val]
  have h1:=Lz o1 o2 (Ku yi);rw[hI.viol,hI.raw _ o1.val,Bu]at h1
  have:=h1 (DG n.rq) (by grind [Oc])
  grind [DG,JX,GU,Vt,HP]
theorem kz(hx:Aw x=0)(hr:AK roots=0)(hd:Df x dec)(hN:V8 roots dec p needs){n0:Nd}(h0:n0∈needs)(L:List (Nat×Cd))(hL:L.map (·.2)=Bk x p){s:SS}(hs:EZ x roots s)(E4:∀y∈L,y.1<s.drv.length)
  (hre:s.full=false->∀y∈L,Bq (Ei s y.1) (Q (dec++[y.2]))=true/\DN (Ei s y.1) p=true) :
  EZ x roots (DE x p n0 (L.map (·.1)) s).2/\Grow s (DE x p n0 (L.map (·.1)) s).2/\(DE x p n0 (L.map (·.1)) s).1<(DE x p n0 (L.map (·.1)) s).2.drv.length /\
  ((DE x p n0 (L.map (·.1)) s).2.full=false->Bq (Ei (DE x p n0 (L.map (·.1)) s).2 (DE x p n0 (L.map (·.1)) s).1) (Q dec)=true):=by
 have hV:=hd.valid hx;have hpD:BP (Q dec) p=false:=by rw[GU];exact hN.undone
 obtain⟨nU,hp0⟩:=(hN.mem n0).1 h0;have hI:=Tw hx hr hd nU (.inl (by grind [Ip]));unfold DE;obtain⟨a1,a2,a3⟩:=KZ hs (hI.inf s.drv);have ag:=K3 s (OZ n0) (II n0);have a3:(Bx s n0).2.full=false->Ei (Bx s n0).2 (Bx s n0).1=II n0:=a3
 change EZ x roots (Bx s n0).2 at a1
 change (Bx s n0).1<(Bx s n0).2.drv.length at a2
 change Grow s (Bx s n0).2 at ag
 generalize Bx s n0=s1 at *
 -- the incompatibility of the places that are not available
 obtain⟨u,u0,u1,hu⟩:=iW hx p;have n8:∀k:Int,0<=k->k<1000000->has (Ba x p) k=false->AX [(⟨p,false,BW (Ba x p)⟩:Tm)] (M9 (Q dec) p (gi k))=true:=fun k k0 k1 hk=>by
  grind [Bu,Dj,JX,Fl,HP,Fu,Qs]
 have uM:AX [(⟨p,false,BW (Ba x p)⟩:Tm)] (Q dec)=false:=by
  rw[BC];intro h
  have:=Bu.1 h _ (Ah ..)
  rw[show(⟨p,false,BW (Ba x p)⟩:Tm).path=p from rfl,Ip hpD]at this;cases this
 have ou:V9 (Q dec) p (M9 (Q dec) p (gi u)):=.ver hV (Fl ⟨u0,u1⟩);have ER:Eh p (Ba x p)≠[]:=by
  have c1:=Dn (l:=[(⟨p,false,BW (Ba x p)⟩:Tm)]) ou.val;have c2:=Dn (l:=[(⟨p,false,BW (Ba x p)⟩:Tm)]) hV;rw[n8 u u0 u1 hu]at c1;rw[uM]at c2;unfold Eh H;cases hc:Bj [(⟨p,false,BW (Ba x p)⟩:Tm)]with
  |none=>grind
  |some c=>
   rw[hc]at c2;intro e;have e:c=[]:=e;rw[e]at c2;cases c2
 have SE:∀S,Gv S->AX (Eh p (Ba x p)) S=AX [(⟨p,false,BW (Ba x p)⟩:Tm)] S:=fun S v=>RI v ER;have Aaj:DN (Eh p (Ba x p)) p=true:=by
  cases h:DN (Eh p (Ba x p)) p with
  |true=>rfl
  |false=>
   have:=Lz ou (.self hV) (Ku h)
   rw[SE _ ou.val,SE _ hV,n8 u u0 u1 hu,uM]at this;simp_all
 have aZ:AR x roots s1.2.drv ⟨2,p,0,0,0,0⟩=some (Eh p (Ba x p)):=by
  unfold AR;rw[AL (show ¬((2:Int)=0) by decide),AL (show ¬((2:Int)=1) by decide),A1 rfl,A1 ⟨rfl,rfl,rfl,rfl⟩];unfold Ph;simp_all
 obtain⟨b1,b2,b3⟩:=KZ a1 aZ;have bg:=K3 s1.2 ⟨2,p,0,0,0,0⟩ (Eh p (Ba x p));have b3:(Ev x p s1.2).2.full=false->Ei (Ev x p s1.2).2 (Ev x p s1.2).1=Eh p (Ba x p):=b3
 change EZ x roots (Ev x p s1.2).2 at b1
 change (Ev x p s1.2).1<(Ev x p s1.2).2.drv.length at b2
 change Grow s1.2 (Ev x p s1.2).2 at bg
 generalize Ev x p s1.2=s2 at *
 have z7:s2.2.full=false->s1.2.full=false/\s.full=false:=fun h=>by
  have h1:s1.2.full=false:=by
   cases e:s1.2.full with
   |false=>rfl
   |true=>rw[bg.full e]at h;cases h
  refine⟨h1,?_⟩;cases e:s.full with
  |false=>rfl
  |true=>rw[ag.full e]at h1;cases h1
 have main:=Pb (D:=Q dec) (U:=fJ p dec) (p:=p) hV ((s2.1,fun k=>has (Ba x p) k=false)::L.map fun y=>(y.1,fun k=>k=y.2.place)) (C:=fun k=>has n0.rq.set k=false) b1 (AZ a2 bg.len)
  (fun y hy=>by
   rcases AM.1 hy with rfl | hy
   .exact b2
   .obtain⟨z,hz,rfl⟩:=Ar.1 hy;exact AZ (E4 z hz) (ag.trans bg).len) (fun hf=>by
   obtain⟨f1,f0⟩:=z7 hf;refine⟨?_,fun y hy=>?_⟩
   .rw[bg.at a2,a3 f1];refine⟨hI.form,hI.inU _ (fun h=>Aj _ (E8.1 (hI.path h))) aa0,hI.viol,fun k k0 k1 hk=>?_⟩;have ok:V9 (Q dec) p (M9 (Q dec) p (gi k)):=.ver hV (Fl ⟨k0,k1⟩);rw[hI.raw _ ok.val,Bu];intro t ht;have eI:=Bu.1 ((hI.raw _ hV).symm.trans hI.viol) t ht;unfold Oc at ht;have wP:Dj (DG n0.rq) (AE (M9 (Q dec) p (gi k)) (DG n0.rq).path)=true:=by
     rw[show(DG n0.rq).path=p from hp0,JX hpD];exact SN (.inr ⟨_,rfl,Fl ⟨k0,k1⟩,by rw[show(⟨p,gi k⟩:Sl).ver=gi k from rfl,HP];exact hk⟩)
    split at ht
    .simp_all
    .rename_i hm;rcases AM.1 ht with rfl | ht
     .have ER:n0.path≠p:=fun e=>by
       have:=hI.path hm
       simp_all
      rw[show(⟨n0.path,false,[(n0.place,n0.place+1)]⟩:Tm).path=n0.path from rfl]at eI⊢;rw[ok.same _ ER];omega
     simp_all
   .rcases AM.1 hy with rfl | hy
    .show di _ _ p (Ei s2.2 s2.1) _;rw[b3 hf];refine⟨M8 _,Vs (fun t ht=>by simp_all),Aaj,⟨_,ou,by rw[SE _ ou.val];simp_all⟩,fun k k0 k1 hk=>?_⟩;rw[SE _ (V9.ver hV (Fl ⟨k0,k1⟩)).val];simp_all
    .obtain⟨z,hz,rfl⟩:=Ar.1 hy;show di _ _ p (Ei s2.2 z.1) _;rw[(ag.trans bg).at (E4 z hz)];obtain⟨e1,e2⟩:=hre f0 z hz;have hzc:z.2∈Bk x p:=aa2
     obtain⟨c1,c2⟩:=Gz hzc
     have:=lx hx hd c2 (by rw[c1];exact hN.undone) (hs.forms z.1) e1 aa0
     simp_all)
 have Af5:((s2.1,fun k=>has (Ba x p) k=false)::L.map fun y=>(y.1,fun k=>k=y.2.place)).map (·.1)=s2.1::L.map (·.1):=by
  simp_all
 rw[Af5]at main;obtain⟨m1,m2,m3,m4⟩:=main;refine⟨m1,(ag.trans bg).trans m2,m3,fun hf=>?_⟩;obtain⟨C',q1,q2⟩:=m4 hf;have hnc:DN (Ei (B2 p (s2.1::L.map (·.1)) s1.1 s2.2).2 (B2 p (s2.1::L.map (·.1)) s1.1 s2.2).1) p=false:=by
  rcases q2 with q2 | q2
  .exact q2
  .refine oY hpD q1.form q1.none_ fun k k0 k1=>q1.cov k k0 k1 (q2 k ?_);cases yq:has n0.rq.set k with
   |false=>simp_all
   |true=>
    cases ha:has (Ba x p) k with
    |false=>simp_all
    |true=>
     obtain⟨c,hc,e⟩:=(WQ hx).1 ha;rw[<-hL]at hc;obtain⟨z,hz,rfl⟩:=Ar.1 hc;exact .inr ⟨_,Aj _ (Ar.2 ⟨z,hz,rfl⟩),e.symm⟩
 refine JL.2 ⟨q1.none_,fun t ht=>?_⟩
 have:=q1.inU.2 t ht
 rcases AM.1 this with e | h
 .exact absurd e (Ku hnc t ht)
 .exact E8.2 h
end
def GF(s:SS)(b:List Cd)(p:ByteArray)(needs:List Nd):List Cd->List Sk->Prop
 | [],sk=>sk=[]
 |c::cs,sk=>if(needs.all fun n=>has n.rq.set c.place)=true then ∃(k:Nat) (rest:List Sk),sk=⟨p,c.place,k⟩::rest/\(k<s.drv.length/\Bq (Ei s k) (Q (b++[c]))=true)/\GF s b p needs cs rest
  else GF s b p needs cs sk
section
variable {s s' : SS}{b:List Cd}{p:ByteArray}{needs:List Nd}
theorem GF.out{c:Cd}(hc:¬(needs.all fun n=>has n.rq.set c.place)=true):∀{cs:List Cd} {sk:List Sk},GF s b p needs cs sk->GF s b p needs (cs++[c]) sk
 | [],sk,h=>by
  show(if _ then _ else _)
  grind
 |d::cs,sk,h=>by
  have h:if(needs.all fun n=>has n.rq.set d.place)=true then _ else _:=h
  show(if _ then _ else _)
  by_cases hd:(needs.all fun n=>has n.rq.set d.place)=true
  .rw[A1 hd]at h⊢;obtain⟨k,rest,h1,h2,h3⟩:=h;exact⟨k,rest,h1,h2,GF.out hc h3⟩
  .rw[AL hd]at h⊢;exact GF.out hc h
theorem GF.add{c:Cd}(hc:(needs.all fun n=>has n.rq.set c.place)=true){k:Nat}(hk:k<s.drv.length/\Bq (Ei s k) (Q (b++[c]))=true):∀{cs:List Cd} {sk:List Sk},GF s b p needs cs sk->GF s b p needs (cs++[c]) (sk++[⟨p,c.place,k⟩])
 | [],sk,h=>by
  have h:sk=[]:=h;subst h;show(if _ then _ else _);rw[A1 hc];exact⟨k,[],rfl,hk,rfl⟩
 |d::cs,sk,h=>by
  have h:if(needs.all fun n=>has n.rq.set d.place)=true then _ else _:=h
  show(if _ then _ else _)
  by_cases hd:(needs.all fun n=>has n.rq.set d.place)=true
  .rw[A1 hd]at h⊢;obtain⟨j,rest,rfl,h2,h3⟩:=h;exact⟨j,_,rfl,h2,GF.add hc hk h3⟩
  .rw[AL hd]at h⊢;exact GF.add hc hk h
theorem GF.mono(hg:Grow s s'):∀{cs:List Cd} {sk:List Sk},GF s b p needs cs sk->GF s' b p needs cs sk
 | [],_,h=>h
 |d::cs,sk,h=>by
  have h:if(needs.all fun n=>has n.rq.set d.place)=true then _ else _:=h
  show(if _ then _ else _)
  by_cases hd:(needs.all fun n=>has n.rq.set d.place)=true
  .rw[A1 hd]at h⊢;obtain⟨j,rest,rfl,h2,h3⟩:=h;exact⟨j,rest,rfl,⟨AZ h2.1 hg.len,by grind [Grow.at]⟩,h3.mono hg⟩
  .rw[AL hd]at h⊢;exact h.mono hg
end
structure vr(x:List Rl)(roots:List Rq)(s:SS)(b:List Cd)(c:Cd)(sk:List Sk)(p:ByteArray)(needs:List Nd)(pre post:List Cd):Prop where
 next:V8 roots b p needs
 cands:Bk x p=pre++c::post
 fit:∀n∈needs,has n.rq.set c.place=true
 noclash:CX b c=none
 skips:GF s b p needs pre sk
def KU(x:List Rl)(roots:List Rq)(s:SS):List Cd->List Cd->List (List Sk)->Prop
 |b,[],[]=>DH (EO roots b) (Q b)=none
 |b,c::t,sk::st=>(∃p needs pre post,vr x roots s b c sk p needs pre post)/\KU x roots s (b++[c]) t st
 |_,_,_=>False
structure N6(x:List Rl)(roots:List Rq)(ls:List (List Cd))(dec:List Cd)(s:SS)(st:List (List Sk))(o:Ko):Prop where
 der:EZ x roots o.ss
 grow:Grow s o.ss
 no:o.found=false->o.dec=dec/\o.stack=st/\(o.ss.full=false->o.res<o.ss.drv.length/\Bq (Ei o.ss o.res) (Q dec)=true)
 yes:o.found=true->o.ss.full=false/\∃t sl,o.dec=dec++t/\o.stack=st++sl/\KU x roots o.ss dec t sl/\ls.head?=some o.dec
section
variable {rec:List Cd->SS->List (List Sk)->Ko}{x:List Rl}{roots:List Rq}{p:ByteArray}{needs:List Nd}{n0:Nd}{dec:List Cd}{st:List (List Sk)}
def I3(rec:List Cd->SS->List (List Sk)->Ko)(x:List Rl)(p:ByteArray)(needs:List Nd)(n0:Nd)(dec:List Cd)(st:List (List Sk))(c:Cd)(cs:List Cd)(reasons:List Nat)(skips:List Sk)(k:Nat)(s:SS):Ko:=
 if DN (Ei s k) p=false then⟨k,false,s,dec,st⟩else DC rec x p needs n0 dec st cs s (reasons++[k]) (skips++[⟨p,c.place,k⟩])
theorem F0(c:Cd)(cs:List Cd)(s:SS)(reasons:List Nat)(skips:List Sk):DC rec x p needs n0 dec st (c::cs) s reasons skips =
  if s.full=true then⟨0,false,s,dec,st⟩
  else match needs.find? fun n=>!has n.rq.set c.place with
   |some n=>DC rec x p needs n0 dec st cs (Bx s n).2 (reasons++[(Bx s n).1]) skips
   |none=>match OL s.drv (Q (dec++[c]))with
    |some k=>I3 rec x p needs n0 dec st c cs reasons skips k s
    |none=>match CX dec c with
     |some n=>I3 rec x p needs n0 dec st c cs reasons skips (Bx s n).1 (Bx s n).2
     |none=>if(rec (dec++[c]) s (st++[skips])).found=true then⟨0,true,(rec (dec++[c]) s (st++[skips])).ss,(rec (dec++[c]) s (st++[skips])).dec,(rec (dec++[c]) s (st++[skips])).stack⟩
      else if(rec (dec++[c]) s (st++[skips])).ss.full=true then⟨0,false,(rec (dec++[c]) s (st++[skips])).ss,dec,st⟩
      else I3 rec x p needs n0 dec st c cs reasons skips (rec (dec++[c]) s (st++[skips])).res (rec (dec++[c]) s (st++[skips])).ss:=rfl
theorem ic{s:SS}(hs:EZ x roots s){n:Nd}(h:∀d,AR x roots d (OZ n)=some (II n)):EZ x roots (Bx s n).2/\(Bx s n).1<(Bx s n).2.drv.length/\((Bx s n).2.full=false->Ei (Bx s n).2 (Bx s n).1=II n)/\Grow s (Bx s n).2:=by
 obtain⟨a1,a2,a3⟩:=KZ hs (h s.drv);exact⟨a1,a2,a3,K3 _ _ _⟩
theorem N6.grown{ls:List (List Cd)}{s s' : SS}{o:Ko}(hg:Grow s s')(h:N6 x roots ls dec s' st o):N6 x roots ls dec s st o:=⟨h.der,hg.trans h.grow,h.no,h.yes⟩
theorem WU(hx:Aw x=0)(hr:AK roots=0)(hd:Df x dec)(kg:Js roots dec)(hN:V8 roots dec p needs)(h0:n0∈needs){lv:List Cd->List (List Cd)}(Rw:∀c∈Bk x p,cn dec needs c=true->∀d∈lv (dec++[c]),Lf x roots (dec++[c]) d)
  (Ws:∀c∈Bk x p,cn dec needs c=true->∀s st,EZ x roots s->s.full=false->N6 x roots (lv (dec++[c])) (dec++[c]) s st (rec (dec++[c]) s st)) :
  ∀(cs:List Cd) {s:SS} (L:List (Nat×Cd)) {skips:List Sk},L.map (·.2)++cs=Bk x p->EZ x roots s->(∀y∈L,y.1<s.drv.length)->(s.full=false->(∀y∈L,Bq (Ei s y.1) (Q (dec++[y.2]))=true/\DN (Ei s y.1) p=true)/\GF s dec p needs (L.map (·.2)) skips) ->
   N6 x roots (((Bk x p).map fun c=>if cn dec needs c then lv (dec++[c])else []).flatten) dec s st (DC rec x p needs n0 dec st cs s (L.map (·.1)) skips)
 | [],s,L,skips,hL,hs,E4,hre=>by
  rw[Ey]at hL;obtain⟨l1,l2,l3,l4⟩:=kz hx hr hd hN h0 L hL hs E4 (fun hf=>(hre hf).1);exact⟨l1,l2,fun _=>⟨rfl,rfl,fun hf=>⟨l3,l4 hf⟩⟩,fun h=>(by cases h)⟩
 |c::cs,s,L,skips,hL,hs,E4,hre=>by
  rw[F0]
  by_cases hf:s.full=true
  .grind [N6.mk,Grow.refl]
  rw[AL hf];have hf:s.full=false:=aa0
  obtain⟨Afr,Afs⟩:=hre hf;have hc:c∈Bk x p:=aa2
  obtain⟨c1,c2⟩:=Gz hc;have hu:DB dec c.rel.path=false:=by grind [V8.undone]
  have hE:=hd.snoc c2 hu
  -- on to the next candidate
  have go:∀(s' : SS) (k:Nat) (L9 : List Sk),EZ x roots s'->Grow s s'->k<s'.drv.length->(s'.full=false->(Bq (Ei s' k) (Q (dec++[c]))=true/\DN (Ei s' k) p=true)/\GF s' dec p needs (L.map (·.2)++[c]) L9) ->
    N6 x roots (((Bk x p).map fun c=>if cn dec needs c then lv (dec++[c])else []).flatten) dec s st (DC rec x p needs n0 dec st cs s' (L.map (·.1)++[k]) L9):=fun s' k L9 eU hg hk ER=>by
   have:=WU hx hr hd kg hN h0 Rw Ws cs (s:=s') (L++[(k,c)]) (skips:=L9) aa0 eU
    (fun y hy=>by
     rcases Bc.1 hy with hy | hy
     .exact AZ (E4 y hy) hg.len
     simp_all)
    (fun yk=>by
     grind [Grow.at])
   grind [N6.grown]
  cases wG:needs.find? fun n=>!has n.rq.set c.place with
  |some n=>
   dsimp only;have qy:=Bh wG;have hn2:=FI wG;have hn2:has n.rq.set c.place=false:=aa0
   obtain⟨hn3,hn4⟩:=(hN.mem n).1 qy;obtain⟨e1,e2,e3⟩:=QA hx hr hE (Pk hn3) ⟨c,by simp,by rw[c1,hn4],hn2⟩<;>grind [ic,kL,GF.out,GF.mono]
  |none=>
   dsimp only;have r7:∀n∈needs,has n.rq.set c.place=true:=fun n hn=>by
    simp_all
   have GI:(needs.all fun n=>has n.rq.set c.place)=true:=aa0
   have aft:∀(s' : SS) (k:Nat),EZ x roots s'->Grow s s'->k<s'.drv.length->(s'.full=false->Bq (Ei s' k) (Q (dec++[c]))=true) ->
     N6 x roots (((Bk x p).map fun c=>if cn dec needs c then lv (dec++[c])else []).flatten) dec s st (I3 rec x p needs n0 dec st c cs (L.map (·.1)) skips k s'):=fun s' k eU hg hk he=>by
    unfold I3;cases yi:DN (Ei s' k) p with
    |false=>
     rw[A1 rfl];exact⟨eU,hg,fun _=>⟨rfl,rfl,fun yk=>⟨hk,mY hx hd c2.1 (he yk) aa0⟩⟩,fun h=>(by cases h)⟩
    |true=>
     grind [GF.add,GF.mono]
   cases hen:OL s.drv (Q (dec++[c]))with
   |some k=>
    grind [K7,Grow.refl]
   |none=>
    dsimp only;cases hcl:CX dec c with
    |some n=>
     dsimp only;obtain⟨m1,m2⟩:=LH hcl;obtain⟨e1,e2,e3⟩:=QA hx hr hE (NO m1) m2<;>grind [ic]
    |none=>
     dsimp only;have GJ:cn dec needs c=true:=I0.2 ⟨r7,hcl⟩;have hR:=Ws c hc GJ s (st++[skips]) hs hf;generalize rec (dec++[c]) s (st++[skips])=o at hR
     by_cases OW:o.found=true
     .rw[A1 OW];obtain⟨y1,t,sl,y2,y3,y4,y5⟩:=hR.yes OW;refine⟨hR.der,hR.grow,fun h=>(by cases h),fun _=>⟨y1,c::t,skips::sl,by simp_all,by simp_all,⟨⟨p,needs,L.map (·.2),cs,hN,hL.symm,r7,hcl,Afs.mono hR.grow⟩,y4⟩,?_⟩⟩;show _=some o.dec;rw[<-hL,Bl,Ej,Bo,Cs];have kd:((L.map (·.2)).map fun c=>if cn dec needs c then lv (dec++[c])else []).flatten=[]:=by
       rw[List.flatten_eq_nil_iff];intro l hl;obtain⟨d,nQ,rfl⟩:=Ar.1 hl;obtain⟨y,hy,rfl⟩:=Ar.1 nQ;split
       .rename_i hoy;have hyc:y.2∈Bk x p:=aa2
        refine Mp.2 fun d AeO=>sO hx hs (E4 y hy) (Afr y hy).1 (Rw y.2 hyc hoy d AeO)
       .rfl
      grind
     grind [N6.no,N6.mk,N6.der,N6.grow]
end
theorem OR(h:c.rel∈x/\c.rel.yanked=false)(hu:DB dec c.rel.path=false):FA x (dec++[c])<FA x dec:=by
 have key:∀l:List Rl,(l.filter fun r=>!r.yanked&&!DB (dec++[c]) r.path).length<=(l.filter fun r=>!r.yanked&&!DB dec r.path).length /\
   (c.rel∈l->(l.filter fun r=>!r.yanked&&!DB (dec++[c]) r.path).length<(l.filter fun r=>!r.yanked&&!DB dec r.path).length):=by
  intro l
  induction l<;>grind [DB]
 exact(key x).2 h.1
theorem RY{x:List Rl}{roots:List Rq}(hx:Aw x=0)(hr:AK roots=0):∀(n:Nat) {dec:List Cd} {s:SS} {st:List (List Sk)},Df x dec->Js roots dec->EZ x roots s->s.full=false->FA x dec<n ->
  N6 x roots (Cp x roots n dec) dec s st (CF x roots n dec s st)
 |0,_,_,_,_,_,_,_,h=>by omega
 |n+1,dec,s,st,hd,kg,hs,hf,hn=>by
  unfold CF Cp;cases e:(D4 roots dec).2 with
  |nil=>
   exact⟨hs,.refl s,fun h=>(by cases h),fun _=>⟨hf,[],[],by simp,by simp,Pn.1 e,rfl⟩⟩
  |cons n0 l=>
   have hN:=Kd e;have next:∀c∈Bk x (D4 roots dec).1,cn dec (n0::l) c=true->Df x (dec++[c])/\Js roots (dec++[c])/\FA x (dec++[c])<n:=fun c hc GJ=>by
    obtain⟨c1,c2⟩:=Gz hc;have hu:DB dec c.rel.path=false:=by grind [V8.undone]
    obtain⟨k1,k2⟩:=I0.1 GJ;exact⟨hd.snoc c2 hu,kg.snoc hN c1 k1 k2,by have:=OR (dec:=dec) ⟨c2.1,c2.2.1⟩ hu;omega⟩
   exact WU hx hr hd kg hN (Ah ..) (lv:=Cp x roots n) (fun c hc GJ d nQ=>JT (next c hc GJ).1 (next c hc GJ).2.1 d nQ)
    (fun c hc GJ s st hs hf=>RY hx hr n (next c hc GJ).1 (next c hc GJ).2.1 hs hf (next c hc GJ).2.2) _ [] rfl hs (fun y hy=>by cases hy) (fun _=>⟨fun y hy=>(by cases hy),rfl⟩)
theorem aQ(x:List Rl)(dec:List Cd):FA x dec<=x.length:=Er _ _
theorem IR(hx:Aw x=0)(hr:AK roots=0):N6 x roots (Cp x roots (x.length+1) []) [] ss0 [] (Ep x roots):=
 RY hx hr _ (.nil x) (.nil roots) (.nil x roots) rfl (by grind [aQ])
def MT(R:Nat):Nat:=[3,8,13,23,33,53,78,113,168,243,348,513,738,1053,1548,2223,3168].getD R 0
theorem qL:∀R≤16,3<=MT R/\∀k≤R,3+2*k+k*MT (R-k)<=MT R\/k=0:=aa3
section
variable {x:List Rl}{roots:List Rq}{p:ByteArray}{needs:List Nd}{n0:Nd}{dec:List Cd}{st:List (List Sk)}
theorem PE{s:SS}(i:Nf)(l:List Tm)(hf:s.full=false)(hc:s.infs.length<=65535):(Ed s i l).2.full=false/\(Ed s i l).2.infs.length<=s.infs.length+1:=⟨ZU i l hf Wk,dp s i l⟩
theorem KA:∀(l:List Nat) {k:Nat} {s:SS},s.full=false->s.infs.length+l.length<=65535->(B2 p l k s).2.full=false/\(B2 p l k s).2.infs.length<=s.infs.length+l.length
 | [],k,s,hf,_=>⟨hf,Ao _⟩
 |r::l,k,s,hf,hc=>by
  rw[Ec]at hc⊢;unfold B2;split
  .simp_all
  split
  .obtain⟨h1,h2⟩:=KA l (k:=k) hf Wk<;>grind
  split
  .obtain⟨h1,h2⟩:=KA l (k:=k) hf Wk<;>grind
  .obtain⟨a1,a2⟩:=PE ⟨3,p,0,0,(k:Nat),(r:Nat)⟩ (AU (Ei s k) (Ei s r) p).1 hf Wk;obtain⟨h1,h2⟩:=KA l (k:=(Ed s ⟨3,p,0,0,(k:Nat),(r:Nat)⟩ (AU (Ei s k) (Ei s r) p).1).1) a1 Wk<;>grind
theorem Va{s:SS}(reasons:List Nat)(hf:s.full=false)(hc:s.infs.length+(3+reasons.length)<=65535):(DE x p n0 reasons s).2.full=false/\(DE x p n0 reasons s).2.infs.length<=s.infs.length+(3+reasons.length):=by
 grind [DE,PE,Bx,Ev,KA]
theorem T7{rec:List Cd->SS->List (List Sk)->Ko}{B:Nat}(Ws:∀c∈Bk x p,∀s st,s.full=false->s.infs.length+B<=65535->(rec (dec++[c]) s st).ss.full=false/\(rec (dec++[c]) s st).ss.infs.length<=s.infs.length+B) :
  ∀(cs:List Cd) {s:SS} {reasons:List Nat} {skips:List Sk},(∀c∈cs,c∈Bk x p)->s.full=false->s.infs.length+(3+(reasons.length+cs.length)+cs.length*(1+B))<=65535 ->
   (DC rec x p needs n0 dec st cs s reasons skips).ss.full=false/\(DC rec x p needs n0 dec st cs s reasons skips).ss.infs.length<=s.infs.length+(3+(reasons.length+cs.length)+cs.length*(1+B))
 | [],s,reasons,skips,_,hf,hc=>by
  simp only[If,H6,Nat.zero_mul]at hc⊢;exact Va reasons hf hc
 |c::cs,s,reasons,skips,hm,hf,hc=>by
  rw[F0,AL aa0];simp only[Ec]at hc⊢;have YR:(cs.length+1)*(1+B)=cs.length*(1+B)+(1+B):=aa2
  rw[YR]at hc⊢
  have go:∀(s' : SS) (k:Nat) (L9 : List Sk),s'.full=false->s'.infs.length<=s.infs.length+(1+B) ->
    (DC rec x p needs n0 dec st cs s' (reasons++[k]) L9).ss.full=false/\(DC rec x p needs n0 dec st cs s' (reasons++[k]) L9).ss.infs.length<=s.infs.length+(3+(reasons.length+(cs.length+1))+(cs.length*(1+B)+(1+B))):=fun s' k L9 yk hl=>by
   have CN:(reasons++[k]).length=reasons.length+1:=aa1
   obtain⟨h1,h2⟩:=T7 Ws cs (s:=s') (reasons:=reasons++[k]) (skips:=L9) (fun d hd=>hm d (Aj _ hd)) yk (by rw[CN];omega)<;>grind [List.mem_cons_of_mem]
  have aft:∀(s' : SS) (k:Nat),s'.full=false->s'.infs.length<=s.infs.length+(1+B) ->
    (I3 rec x p needs n0 dec st c cs reasons skips k s').ss.full=false/\(I3 rec x p needs n0 dec st c cs reasons skips k s').ss.infs.length<=s.infs.length+(3+(reasons.length+(cs.length+1))+(cs.length*(1+B)+(1+B))):=fun s' k yk hl=>by
   grind [I3]
  cases needs.find? fun n=>!has n.rq.set c.place with
  |some n=>
   obtain⟨a1,a2⟩:=PE (OZ n) (II n) hf Wk;exact go _ _ _ a1 (by show(Ed s (OZ n) (II n)).2.infs.length<=_;omega)
  |none=>
   dsimp only;cases OL s.drv (Q (dec++[c]))with
   |some k=>simp_all
   |none=>
    dsimp only;cases CX dec c with
    |some n=>
     obtain⟨a1,a2⟩:=PE (OZ n) (II n) hf Wk;exact aft _ _ a1 (by show(Ed s (OZ n) (II n)).2.infs.length<=_;omega)
    |none=>
     grind
theorem aP{c:Cd}(hc:c∈Bk x p)(hu:DB dec p=false):FA x (dec++[c])+(Bk x p).length=FA x dec:=by
 obtain⟨c1,_⟩:=Gz hc;unfold FA Bk;rw[BG];have key:∀l:List Rl,(l.filter fun r=>!r.yanked&&!DB (dec++[c]) r.path).length+(l.filter fun r=>decide (r.path=p)&&!r.yanked).length=(l.filter fun r=>!r.yanked&&!DB dec r.path).length:=by
  intro l
  induction l<;>grind [DB]
 simp_all
theorem VV:∀(n:Nat) {dec:List Cd} {s:SS} {st:List (List Sk)},s.full=false->FA x dec<=16->s.infs.length+MT (FA x dec)<=65535 ->
  (CF x roots n dec s st).ss.full=false/\(CF x roots n dec s st).ss.infs.length<=s.infs.length+MT (FA x dec)
 |0,_,_,_,hf,_,_=>⟨hf,Nat.le_add_right ..⟩
 |n+1,dec,s,st,hf,hR,hc=>by
  unfold CF;cases e:(D4 roots dec).2 with
  |nil=>simp_all
  |cons n0 l=>
   have hN:=Kd e;dsimp only;obtain⟨m1,m2⟩:=qL _ hR;cases hcs:Bk x (D4 roots dec).1 with
   |nil=>
    obtain⟨h1,h2⟩:=Va (x:=x) (p:=(D4 roots dec).1) (n0:=n0) (s:=s) [] hf aa2;refine⟨h1,?_⟩;show(DE x (D4 roots dec).1 n0 [] s).2.infs.length<=_
    grind
   |cons c0 cs0=>
    have Af:∀c∈Bk x (D4 roots dec).1,FA x (dec++[c])=FA x dec-(Bk x (D4 roots dec).1).length/\(Bk x (D4 roots dec).1).length<=FA x dec:=fun c hc=>by
     grind [aP,V8.undone]
    have hc0:c0∈Bk x (D4 roots dec).1:=aa0
    have hk:=Af c0 hc0;have Xj:(Bk x (D4 roots dec).1).length≠0:=aa0
    have hm:=(m2 _ hk.2).resolve_right Xj;generalize hK:(Bk x (D4 roots dec).1).length=K at *
    have CN:(c0::cs0).length=K:=aa0
    have AeD:3+(([]:List Nat).length+(c0::cs0).length)+(c0::cs0).length*(1+MT (FA x dec-K))<=MT (FA x dec):=by
     grind [Nat.mul_add]
    have Ahs:K<=K*(1+MT (FA x dec-K)):=Nat.le_mul_of_pos_right _ Wk;have hB:MT (FA x dec-K)<=K*(1+MT (FA x dec-K)):=by
     calc MT (FA x dec-K)<=1+MT (FA x dec-K):=Wk
      _<=K*(1+MT (FA x dec-K)):=Nat.le_mul_of_pos_left _ Wk
    obtain⟨h1,h2⟩:=T7 (x:=x) (p:=(D4 roots dec).1) (needs:=n0::l) (n0:=n0) (dec:=dec) (st:=st) (rec:=CF x roots n) (B:=MT (FA x dec-K)) (fun c hc s st hf hl=>by
     have:=Af c hc
     have h3:=VV n (dec:=dec++[c]) (s:=s) (st:=st) hf Wk aa0;simp_all) (c0::cs0) (s:=s) (reasons:=[]) (skips:=[]) (fun c hc=>by simp_all) hf Wk
    grind
theorem G2(h:x.length<=16):(Ep x roots).ss.full=false:=by
 have hf:=aQ x [];exact(VV (x:=x) (roots:=roots) _ (dec:=[]) (s:=ss0) (st:=[]) rfl Wk (by
  have:∀R≤16,([]:List Nf).length+MT R<=65535:=aa3
  grind)).1
end
def xe:List (List UInt8):=[[97,110,100],[97,110,121],[97,115],[98,111,111,108],[100,101,112,114,101,99,97,116,101,100],[101,108,115,101],[101,120,112,111,114,116],[102,97,108,115,101],[102,110],[102,111,108,100],[102,114,111,109],[105,102],[105,109,112,111,114,116],[105,110],[105,110,116],[108,101,110,103,116,104],[108,101,116],[108,105,115,116],[109,97,116,99,104],[109,111,100,117,108,101],[110,111,110,101],[110,111,116],[111,114],[116,101,120,116],[116,104,101,110],[116,114,117,101],[116,121,112,101],[117,115,101]]
theorem ku:fm=32::xe.flatMap (fun w=>w++[32]):=by decide +kernel
theorem xf:∀w∈xe,∀c∈w,c≠32:=by decide +kernel
theorem XH:∀(s w r:List UInt8),(∀c∈s,c≠32)->(∀c∈w,c≠32)->QN (s++[32]) (w++32::r)=decide (w=s)
 | [],[],r,_,_=>by simp[QN]
 | [],b::w,r,_,hw=>by
  grind [QN]
 |a::s,[],r,hs,_=>by
  grind [QN]
 |a::s,b::w,r,hs,hw=>by
  have ih:=XH s w r (fun c hc=>hs c (Aj _ hc)) (fun c hc=>hw c (Aj _ hc))
  grind [QN]
theorem bp(x:List UInt8):∀(w r:List UInt8),(∀c∈w,c≠32)->qD (32::x) (w++r)=qD (32::x) r
 | [],_,_=>rfl
 |b::w,r,h=>by
  have hb:=h b (Ah ..);rw[F3,qD,bp x w r (fun c hc=>h c (Aj _ hc))]
  grind [QN]
theorem Xm(s:List UInt8)(hs:∀c∈s,c≠32):∀ws:List (List UInt8),(∀w∈ws,∀c∈w,c≠32)->qD (32::(s++[32])) (32::ws.flatMap (fun w=>w++[32]))=ws.any (fun w=>decide (w=s))
 | [],_=>by
  cases s<;>grind [qD,QN]
 |w::ws,h=>by
  have hw:=h w (Ah ..);have ih:=Xm s hs ws (fun v hv=>h v (Aj _ hv))
  grind [qD,QN,XH,bp]
theorem ua(h:s.all FV=true):∀c∈s,c≠32:=fun c hc e=>by
 have:=AS.1 h c hc
 rw[e]at this;exact absurd this aa3
theorem fj(h:s.all FV=true):Wv s=xe.any (fun w=>decide (w=s)):=by
 unfold Wv;rw[ku,Xm s (ua h) xe xf]
theorem ov(s:AN)(x:Int×Int)(k:Nat)(h:s.Perm t):(s.take k++([x]++s.drop k)).Perm (t++[x]):=by
 grind [List.take_append_drop]
theorem U5(s:AN)(x:Int×Int)(k:Nat)(hs:s.Pairwise fun a b=>a.1<=b.1)(h1:∀j (hj:j<s.length),k<=j->x.1<s[j].1)(h2:k=0\/∃h:k-1<s.length,s[k-1].1<=x.1):(s.take k++([x]++s.drop k)).Pairwise fun a b=>a.1<=b.1:=by
 have hlo:∀a∈s.take k,a.1<=x.1:=fun a ha=>by
  grind [List.getElem_of_mem,List.pairwise_iff_getElem]
 have hhi:∀b∈s.drop k,x.1<=b.1:=fun b hb=>by
  grind [List.getElem_of_mem]
 grind
theorem O0(t:Tm):∀(A:List Tm) (k:Nat),k<=A.length->(∀j (h:j<A.length),j<k->Ek A[j].path t.path=true)->HJ t A=A.take k++HJ t (A.drop k)
 |A,0,_,_=>by simp
 | [],k+1,h,_=>by simp_all
 |u::r,k+1,h,hb=>by
  have h0:Ek u.path t.path=true:=hb 0 aa1 Wk;have ih:=O0 t r k aa0 (fun j hj hk=>hb (j+1) Wk Wk);show(if _ then _ else _)=_;simp_all
theorem Qu(t:Tm)(A:List Tm)(k:Nat)(hk:k<=A.length)(hb:∀j (h:j<A.length),j<k->Ek A[j].path t.path=true)
  (hn:∀h:k<A.length,Ek A[k].path t.path=false/\A[k].path≠t.path):HJ t A=A.take k++([Dp t]++A.drop k):=by
 rw[O0 t A k hk hb]
 congr 1
 by_cases h:k<A.length
 .obtain⟨h1,h2⟩:=hn h;rw[Bf h];show(if _ then _ else if _ then _ else _)=_;simp_all
 .rw[Eb Wk];rfl
theorem Tx(t:Tm)(A:List Tm)(k:Nat)(h:k<A.length)(hb:∀j (h:j<A.length),j<k->Ek A[j].path t.path=true)(he:A[k].path=t.path):HJ t A=A.set k (ET A[k] t):=by
 rw[O0 t A k (Nat.le_of_lt h) hb,Bf h,List.set_eq_take_append_cons_drop,A1 h]
 congr 1
 show(if _ then _ else if _ then _ else _)=_
 grind [Dd]
theorem FC(l:List Tm)(i:Nat)(h:i<l.length):Ds (l.take (i+1))=HJ l[i] (Ds (l.take i)):=by
 grind [Ds,List.take_add_one]
theorem bx(t:Tm):∀A:List Tm,(HJ t A).length<=A.length+1
 | []=>by simp[HJ]
 |u::r=>by
  have:=bx t r
  show(if _ then _ else if _ then _ else _:List Tm).length<=_
  grind
theorem Vh(l:List Tm):∀i,i<=l.length->(Ds (l.take i)).length<=i:=by
 intro i
 induction i<;>grind [Ds,FC,bx]
theorem ai{f:Bool}{s:AN}(h:∀q,has s q=has t q):Dp ⟨p,f,s⟩=Dp ⟨p,f,t⟩:=by grind [Dp,Fy,BE,EA]
theorem pd{a b t:Tm}(h:Dp a=Dp b):H [a,t]=H [b,t]:=by
 grind [Ds,HJ,H,Bj]
theorem rU(n q:Int)(h:0<=n/\n<1000000):has (Vi (canon [(n,1000000)]) (canon [(n+1,1000000)])) q=has [(n,n+1)] q:=by
 grind [jY,EA,has,BM]
theorem pv:∀(n:Nat) (l:List Int),l.length<=n->∃k:Int,0<=k/\k<=n/\k∉l
 |0,l,h=>by
  have e:l=[]:=Az Wk;exact⟨0,by omega,by omega,by simp_all⟩
 |n+1,l,h=>by
  by_cases hn:((n+1:Nat):Int)∈l
  .obtain⟨k,h1,h2,h3⟩:=pv n (l.erase ((n+1:Nat):Int)) (by rw[List.length_erase_of_mem hn];omega)<;>grind
  grind
theorem jo(x:List Rl)(p:ByteArray)(h:Aw x=0->x.length<=256):((((IL x p).filter fun r=>!r.yanked).map fun r=>(plc r.ver,plc r.ver+1))).length<=256:=by
 grind [IL]
theorem sQ(x:List Rl)(p q:ByteArray)(h:Aw x=0->x.length<=256):Eh q (Ba x p)≠[]:=by
 have hl:=jo x p h;obtain⟨S,hS⟩:∃S,S=(((IL x p).filter fun r=>!r.yanked).map fun r=>(plc r.ver,plc r.ver+1)):=⟨_,rfl⟩;obtain⟨k,k1,k2,k3⟩:=pv 256 (S.map (·.1)) aa0;have hk:has (BW (Ba x p)) k=true:=by
  grind [Fu,Ba,EA,has,BM,Qs]
 intro h0;have hc:Bj [⟨q,false,BW (Ba x p)⟩]=some [Dp ⟨q,false,BW (Ba x p)⟩]:=by
  have ER:(Dp ⟨q,false,BW (Ba x p)⟩).set≠[]:=fun e=>by
   have:has (canon (BW (Ba x p))) k=true:=by grind [EA]
   rw[show canon (BW (Ba x p))=[]from e]at this
   grind [has]
  have h1:F7 (Dp ⟨q,false,BW (Ba x p)⟩)=false:=by
   grind [F7]
  show(if([Dp ⟨q,false,BW (Ba x p)⟩]).any F7 then none else some (([Dp ⟨q,false,BW (Ba x p)⟩]).filter fun t=>!Fx t))=_;rw[AL aa0]
  rfl
 grind [Eh,H]
section
variable {x:List Rl}{roots:List Rq}{d:List (List Tm)}{i:Nf}
def FS(x:List Rl)(roots:List Rq)(d:List (List Tm))(i:Nf):List Tm:=if i.kind=2 then Eh i.path (Ba x i.path)else(AR x roots d i).getD []
theorem sr(h:i.kind=0):AR x roots d i=if i.path=R/\i.place=0/\i.left=0/\i.right=0 then(DU roots i.number).map GE else none:=A1 h
theorem eZ(h:i.kind=1):AR x roots d i=if i.left=0/\i.right=0 then match Dt x i.path i.place with
      |none=>none
      |some r=>match DU r.reqs i.number with
        |none=>none
        |some q=>Ph (BU i.path i.place q)
    else none:=by grind [AR]
theorem w7(h:i.kind=2):AR x roots d i=if i.place=0/\i.number=0/\i.left=0/\i.right=0 then Ph (Eh i.path (Ba x i.path))else none:=by
 grind [AR]
theorem fb(h:i.kind=3):AR x roots d i=if i.place=0/\i.number=0 then match DU d i.left,DU d i.right with
      |some a,some b=>if(AU a b i.path).2=0 then some (AU a b i.path).1 else none
      |_,_=>none
    else none:=by grind [AR]
theorem AfG(h0:i.kind≠0)(h1:i.kind≠1)(h2:i.kind≠2)(h3:i.kind≠3):AR x roots d i=none:=by
 grind [AR]
theorem bt(h:AR x roots d i=none)(h2:i.kind≠2):FS x roots d i=[]:=by grind [FS]
theorem ot{t:List Tm}(h:AR x roots d i=some t)(h2:i.kind≠2):FS x roots d i=t:=by grind [FS]
theorem kp{t:List Tm}(h:AR x roots d i=some t):FS x roots d i=t:=by
 grind [w7,Ph,FS]
theorem xk{l:List Tm}(h:l≠[]):Ph l=some l:=by
 grind [Ph]
end
theorem QH{n:Int}(h:n<0):DU l n=none:=A1 h
theorem QF{n:Int}(h:(l.length:Int)<=n):DU l n=none:=by
 grind [DU]
theorem QG{n:Int}(h0:¬n<0)(h:¬(l.length:Int)<=n):∃x,DU l n=some x/\l[n.toNat]?=some x/\x∈l:=by
 have hl:n.toNat<l.length:=Wk
 exact⟨l[n.toNat],by grind [DU],AT hl,Ag hl⟩
end Go.Eng
