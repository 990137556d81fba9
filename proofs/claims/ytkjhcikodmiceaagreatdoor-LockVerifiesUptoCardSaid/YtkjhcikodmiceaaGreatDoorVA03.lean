/- Lemmas 3. -/
import Derived.Test.YtkjhcikodmiceaaGreatDoorVA02
namespace Go.Eng
variable {x:List Rl}{dec:List Cd}{roots:List Rq}{p:ByteArray}{c:Cd}{α:Type}{l:List α}{s:List UInt8}{n:Nd}{E:List Cd}{needs:List Nd}{d:List Cd}{r:Rl}{q:Rq}{t:AL}
structure DE(x:List Rl)(dec:List Cd):Prop where
 cand:∀c∈dec,c.rel∈x/\c.rel.yanked=false/\c.place=plc c.rel.ver
 nodup:(dec.map fun c=>c.rel.path).Nodup
theorem DE.nil(x:List Rl):DE x []:=⟨fun _ h=>(by cases h),Kx⟩
theorem UQ(h:J4 r):r.path≠mt:=fun e=>by
 have:=h.maj
 rw[e]at this;have h2:AT mt=none:=by decide
 simp_all
theorem J4.set{r:Rl}(h:J4 r):∀q∈r.reqs,q.set≠[]/\Eo q.set:=Lb h.reqs
theorem Lw(dec:List Cd):(AA dec).map (·.path)=dec.map fun c=>c.rel.path:=by simp_all
theorem Oh:∀{D:List Sl},(D.map (·.path)).Nodup->∀{y:Sl},y∈D->AF D y.path=some y
 | [],_,y,h=>by cases h
 |z::D,hn,y,h=>by
  simp only[Bo,GE]at hn;unfold AF;rw[HX];rcases AR.1 h with rfl | h
  .simp_all
  .have:z.path≠y.path:=fun e=>hn.1 (Ar.2 ⟨y,h,e.symm⟩)
   rw[Aq this];exact Oh hn.2 h
theorem DE.find(h:DE x dec)(hc:c∈dec):AF (AA dec) c.rel.path=some (QT c):=
 Oh (by rw[Lw];exact h.nodup) (y:=QT c) (Ar.2 ⟨c,hc,rfl⟩)
theorem DE.valid(hx:At x=0)(h:DE x dec):Gn (AA dec):=fun y hy=>by
 obtain⟨c,hc,rfl⟩:=Ar.1 hy;exact((BB hx).1 _ (h.cand c hc).1).val
theorem DE.snoc(h:DE x dec)(hc:c.rel∈x/\c.rel.yanked=false/\c.place=plc c.rel.ver)(hd:Dz dec c.rel.path=false):DE x (dec++[c]):=by
 refine⟨fun d hd=>?_,?_⟩
 all_goals grind [Dz,DE.cand,DE.nodup]
theorem MK(h:n∈Dr roots E):(∃k q,roots[k]?=some q/\n=⟨q,mt,0,(k:Nat)⟩)\/∃c∈E,∃k q,c.rel.reqs[k]?=some q/\n=⟨q,c.rel.path,c.place,(k:Nat)⟩:=by
 unfold Dr at h;rcases Bi.1 h with h | h
 .obtain⟨k,q,h1,h2⟩:=Qe h<;>grind [Qe]
 .obtain⟨l,hl,hn⟩:=Fm.1 h;obtain⟨c,hc,rfl⟩:=Ar.1 hl;obtain⟨k,q,h1,h2⟩:=Qe hn<;>grind [Qe]
theorem OH(h:n∈Dr roots dec):n∈Dr roots (dec++[c]):=by
 grind [Dr]
theorem Ns(h:n∈Rh c):n∈Dr roots (dec++[c]):=by
 grind [Dr]
def NO(n:Nd):List Tm:=if n.path=mt then [Dw n.rq]else [⟨n.path,false,[(n.place,n.place+1)]⟩,Dw n.rq]
theorem PN(n:Nd):Ir n=BU (NO n):=by grind [Ir,NO,Gy,BM]
theorem gi{s:AL}(h:s≠[])(hc:Eo s):∃k,has s k=true:=by
 match s,h,hc with
 |x::r,_,hc=>
  have:=EJ.low hc x (Ag ..)
  refine⟨x.1,?_⟩
  grind [has,BP]
theorem Sc{o:Option Sl}(h:o=none\/∃y,o=some y/\By y.ver=true/\has q.set (place y.ver)=false):Da (Dw q) o=true:=by
 rcases h with rfl | ⟨y,rfl,hv,hq⟩
 .rfl
 .show(By y.ver&&has (BV q.set) (place y.ver))=true
  grind [JS,Fu,PM]
theorem UO{y:Sl}(hq:has q.set (place y.ver)=true):Da (Dw q) (some y)=false:=by
 show(By y.ver&&has (BV q.set) (place y.ver))=false
 grind [Fu]
structure wM(x:List Rl)(roots:List Rq)(S:List Sl)(n:Nd):Prop where
 inf:∀d,AQ x roots d (PO n)=some (Ir n)
 viol:AX (Ir n) S=true
 raw:∀S',Gn S'->AX (Ir n) S'=AX (NO n) S'
 form:Form (Ir n)
 inU:∀U:List ByteArray,(n.path≠mt->n.path∈U)->n.rq.path∈U->Qy U (Ir n)
 path:n.path≠mt->BS S n.path=true
theorem SK(hx:At x=0)(hr:AH roots=0)(hE:DE x E)(hn:n∈Dr roots E)(hv:AF (AA E) n.rq.path=none\/∃y,AF (AA E) n.rq.path=some y/\has n.rq.set (place y.ver)=false):wM x roots (AA E) n:=by
 have hV:=hE.valid hx;have uE:Da (Dw n.rq) (AF (AA E) n.rq.path)=true:=Sc (hv.imp id fun⟨y,h1,h2⟩=>⟨y,h1,hV y (GP h1),h2⟩)
 -- the raw list is AX here,and not elsewhere
 have Ot:n.rq.set≠[]/\Eo n.rq.set:=by
  rcases MK hn with ⟨k,q,h1,rfl⟩ | ⟨c,hc,k,q,h1,rfl⟩
  .grind [Lb]
  .exact((BB hx).1 _ (hE.cand c hc).1).set q (Az h1)
 have mv:AX (NO n) (AA E)=true/\(n.path≠mt->BS (AA E) n.path=true):=by
  rcases MK hn with ⟨k,q,h1,rfl⟩ | ⟨c,hc,k,q,h1,rfl⟩
  .refine⟨?_,fun h=>absurd rfl h⟩;unfold NO;rw[A3 rfl,Bs];intro u hu;rw[AJ.1 hu];exact uE
  .have EG:=UQ ((BB hx).1 _ (hE.cand c hc).1);refine⟨?_,fun _=>by grind [Kd,DE.find]⟩;unfold NO;rw[AN EG,Bs];intro u hu;rcases AR.1 hu with rfl | hu
   .show Da _ (AF (AA E) c.rel.path)=true;rw[hE.find hc];show(By c.rel.ver&&has [(c.place,c.place+1)] (place c.rel.ver))=true;have GR:=(BB hx).1 _ (hE.cand c hc).1;have hp:=JS GR.val;rw[GR.val,(hE.cand c hc).2.2,GR.plc]
    grind [has,BP]
   .rw[AJ.1 hu];exact uE
 have Ada:∃S',Gn S'/\AX (NO n) S'=false:=by
  unfold NO;split
  .obtain⟨k,hk⟩:=gi Ot.1 Ot.2;have ZO:=On hk;refine⟨[⟨n.rq.path,dR k⟩],fun y hy=>by grind [Ff],?_⟩;rw[A8];intro h
   have:=Bs.1 h (Dw n.rq) (AJ.2 rfl)
   grind [Dw,AF,UO,HA]
  .refine⟨[],fun y hy=>(by cases hy),?_⟩;rw[A8];intro h
   have:=Bs.1 h _ (Ag ..)
   cases this
 obtain⟨mv,yS⟩:=mv;have EG:BU (NO n)≠[]:=by
  obtain⟨S',v',n'⟩:=Ada;have c1:=De (l:=NO n) hV;have c2:=De (l:=NO n) v';unfold BU;cases hc:A7 (NO n)with
  |none=>simp_all
  |some c=>
   rw[hc,n']at c2;intro e;have e:c=[]:=e;rw[e]at c2;cases c2
 have yV:∀S',Gn S'->AX (Ir n) S'=AX (NO n) S':=fun S' v=>by grind [PN,Rb]
 refine⟨fun d=>?_,by simp_all,yV,by grind [PN,MP],fun U h1 h2=>?_,yS⟩
 .rcases MK hn with ⟨k,q,h1,rfl⟩ | ⟨c,hc,k,q,h1,rfl⟩
  .show AQ x roots d (if(mt:ByteArray)=mt then⟨0,mt,0,(k:Nat),0,0⟩else _)=some (if(mt:ByteArray)=mt then Gy q else _);rw[A3 rfl,A3 rfl];show(if mt=mt/\(0:Int)=0/\(0:Int)=0/\(0:Int)=0 then(DN roots (k:Nat)).map Gy else none)=some (Gy q)
   grind [DN]
  .have GR:=(BB hx).1 _ (hE.cand c hc).1;have fu:=UQ GR;have mw:Dj x c.rel.path c.place=some c.rel:=by
    unfold Dj;cases hf:x.find? fun r=>decide (r.path=c.rel.path)&&decide (plc r.ver=c.place)with
    |none=>
     grind [DE.cand]
    |some r=>
     have h2:=FG hf;simp only[Ak,A4]at h2;have mr:=Br hf;have Adg:=(BB hx).1 r mr;rw[ge (BB hx) mr (hE.cand c hc).1 h2.1 (by rw[<-Adg.plc,h2.2,(hE.cand c hc).2.2,GR.plc])]
   grind [PO,Ir,AQ,DN,OE,PN]
 .rw[PN];refine UN fun u hu=>?_;unfold NO at hu;split at hu
  .rw[AJ.1 hu];exact h2
  .rename_i hm;rcases AR.1 hu with rfl | hu
   .simp_all
   .rw[AJ.1 hu];exact h2
structure bN(D:List Sl)(U:List ByteArray)(p:ByteArray)(t:List Tm)(C:Int->Prop):Prop where
 form:Form t
 inU:Qy U t
 conc:DJ t p=true
 one:∃S,Vr D p S/\AX t S=true
 cov:∀k:Int,0<=k->k<1000000->C k->AX t (MQ D p (dR k))=true
structure bI(D:List Sl)(U:List ByteArray)(p:ByteArray)(t:List Tm)(C:Int->Prop):Prop where
 form:Form t
 inU:Qy U t
 none_:AX t D=true
 cov:∀k:Int,0<=k->k<1000000->C k->AX t (MQ D p (dR k))=true
theorem EP.forms{s:SS}(h:EP x roots s):∀k,Form (Eh s k):=fun k=>by
 unfold Eh;rw[List.getD_eq_getElem?_getD];cases e:s.drv[k]? with
 |none=>exact TY
 |some t=>exact NR (fun _ h=>by cases h) h.der t (Az e)
theorem WE{d:List (List Tm)}{k r:Nat}(hk:k<d.length)(hr:r<d.length)(h0:(AU (d.getD k []) (d.getD r []) p).2=0) :
  AQ x roots d ⟨3,p,0,0,(k:Nat),(r:Nat)⟩=some (AU (d.getD k []) (d.getD r []) p).1:=by
 grind [DN,Int.toNat_natCast,AQ]
theorem Ox{x:List Rl}{roots:List Rq}{D:List Sl}{U:List ByteArray}{p:ByteArray}(hD:Gn D):∀(l:List (Nat×(Int->Prop))) {k:Nat} {s:SS} {C:Int->Prop},EP x roots s->k<s.drv.length->(∀y∈l,y.1<s.drv.length) ->
  (s.full=false->bI D U p (Eh s k) C/\∀y∈l,bN D U p (Eh s y.1) y.2) ->
  EP x roots (B4 p (l.map (·.1)) k s).2/\Grow s (B4 p (l.map (·.1)) k s).2/\(B4 p (l.map (·.1)) k s).1<(B4 p (l.map (·.1)) k s).2.drv.length /\
  ((B4 p (l.map (·.1)) k s).2.full=false->∃C',bI D U p (Eh (B4 p (l.map (·.1)) k s).2 (B4 p (l.map (·.1)) k s).1) C' /\
   (DJ (Eh (B4 p (l.map (·.1)) k s).2 (B4 p (l.map (·.1)) k s).1) p=false\/∀j,C j\/(∃y∈l,y.2 j)->C' j))
 | [],k,s,C,hd,hk,_,hA=>⟨hd,.refl s,hk,fun hf=>⟨C,(hA hf).1,.inr fun j hj=>hj.elim id fun⟨y,hy,_⟩=>(by cases hy)⟩⟩
 |y::l,k,s,C,hd,hk,hl,hA=>by
  rw[Bo]
  by_cases h1:s.full=true\/DJ (Eh s k) p=false
  .grind [B4.eq_def,Grow.refl]
  simp only[not_or,L6,RC]at h1;obtain⟨hf,Uc⟩:=h1;obtain⟨si,iA⟩:=hA hf;have hy:=iA y (Ag ..);have hi:¬(s.full=true\/DJ (Eh s k) p=false):=by simp_all
  by_cases h2:y.1=k
  .have e:B4 p (y.1::l.map (·.1)) k s=B4 p (l.map (·.1)) k s:=by grind [B4]
   rw[e];have ul : bI D U p (Eh s k) fun j=>C j\/y.2 j:=⟨si.form,si.inU,si.none_,fun j j0 j1 hj=>hj.elim (si.cov j j0 j1) fun h=>by grind [bN.cov]⟩;obtain⟨i1,i2,i3,i4⟩:=Ox hD l hd hk (fun z hz=>hl z (Aj _ hz)) (fun _=>⟨ul,fun z hz=>iA z (Aj _ hz)⟩);refine⟨i1,i2,i3,fun hf=>?_⟩;obtain⟨C',j1,j2⟩:=i4 hf;refine⟨C',j1,j2.imp id fun h j hj=>h j ?_⟩;rcases hj with hj | ⟨z,hz,hj⟩<;>grind
  .obtain⟨S2,o2,v2⟩:=hy.one;obtain⟨r1,r2⟩:=Ys si.form hy.form Uc hy.conc (.self hD) si.none_ o2 v2;have e:B4 p (y.1::l.map (·.1)) k s=B4 p (l.map (·.1)) (Ea s ⟨3,p,0,0,k,y.1⟩ (AU (Eh s k) (Eh s y.1) p).1).1 (Ea s ⟨3,p,0,0,k,y.1⟩ (AU (Eh s k) (Eh s y.1) p).1).2:=by
    grind [B4]
   rw[e];have hy1:=hl y (Ag ..);obtain⟨a1,a2,a3⟩:=KB hd (WE (x:=x) (roots:=roots) hk hy1 r1);have hg:=KC s ⟨3,p,0,0,(k:Nat),(y.1:Nat)⟩ (AU (Eh s k) (Eh s y.1) p).1;generalize iI : Ea s ⟨3,p,0,0,(k:Nat),(y.1:Nat)⟩ (AU (Eh s k) (Eh s y.1) p).1=s' at *
   have a3:s'.2.full=false->Eh s'.2 s'.1=(AU (Eh s k) (Eh s y.1) p).1:=a3;obtain⟨i1,i2,i3,i4⟩:=Ox hD (C:=fun j=>C j\/y.2 j) l a1 a2 (fun z hz=>AM (hl z (Aj _ hz)) hg.len) (fun wm=>by
    refine⟨?_,fun z hz=>by rw[hg.at (hl z (Aj _ hz))];exact iA z (Aj _ hz)⟩
    grind [N5,Sf,Ff,bI.mk,bI.inU,bN.inU,Vr.self,bI.none_,Vr.ver,bI.cov,bN.cov])
   refine⟨i1,hg.trans i2,i3,fun hf=>?_⟩;obtain⟨C',j1,j2⟩:=i4 hf;refine⟨C',j1,j2.imp id fun h j hj=>h j ?_⟩;rcases hj with hj | ⟨z,hz,hj⟩<;>grind
def I5(roots:List Rq)(dec:List Cd):Prop:=∀q∈Hk roots dec,∀d∈dec,d.rel.path=q.path->has q.set d.place=true
theorem I5.nil(roots:List Rq):I5 roots []:=fun _ _ d h=>by cases h
theorem U3(roots:List Rq)(dec:List Cd)(c:Cd):Hk roots (dec++[c])=Hk roots dec++c.rel.reqs:=by
 simp_all
theorem rp(c:Cd):(Rh c).map (·.rq)=c.rel.reqs:=SW (fun _ _=>rfl) _ _
theorem cn(h:D3 dec c=none):∀q∈c.rel.reqs,∀d∈dec++[c],d.rel.path=q.path->has q.set d.place=true:=fun q hq d hd e=>by
 grind [rp,D3,fI]
theorem Lc(h:D3 dec c=some n):n∈Rh c/\∃d∈dec++[c],d.rel.path=n.rq.path/\has n.rq.set d.place=false:=by
 grind [D3,fI]
theorem I5.snoc(h:I5 roots dec)(hN:YL roots dec p needs)(hc:c.rel.path=p)(hn:∀n∈needs,has n.rq.set c.place=true)(hk:D3 dec c=none):I5 roots (dec++[c]):=by
 intro q hq d hd e;rw[U3]at hq;rcases Bi.1 hq with hq | hq
 .rcases Bi.1 hd with hd | hd
  .exact h q hq d hd e
  .rw[AJ.1 hd]at e⊢;rw[<-Jz]at hq
   grind [YL.mem]
 grind [cn]
def VK(y:Sl):List Sl->List Sl
 | []=>[y]
 |z::l=>if Ez y.path z.path then y::z::l else z::VK y l
def EX:List Sl->List Sl
 | []=>[]
 |y::l=>VK y (EX l)
theorem Uq{y z:Sl}:∀{l:List Sl},z∈VK y l↔z=y\/z∈l
 | []=>by simp[VK]
 |u::l=>by
  unfold VK;split
  .simp
  .rw[AR,Uq,AR]
   grind
theorem Gj{z:Sl}:∀{l:List Sl},z∈EX l↔z∈l
 | []=>by simp[EX]
 |u::l=>by unfold EX;rw[Uq,Gj,AR]
theorem ae{y:Sl}:∀{l:List Sl},Vx l->(∀z∈l,z.path≠y.path)->Vx (VK y l)
 | [],_,_=>by grind [VK]
 |u::l,h,hn=>by
  obtain⟨h1,h2⟩:=Es.1 h;unfold VK;split
  .grind [List.pairwise_cons,Ei]
  .rename_i hb;refine Es.2 ⟨fun z hz=>?_,ae h2 fun z hz=>hn z (Aj _ hz)⟩
   grind [Uq,Iy]
theorem Rt:∀{l:List Sl},(l.map (·.path)).Nodup->Vx (EX l)
 | [],_=>List.Pairwise.nil
 |y::l,h=>by
  simp only[Bo,GE]at h;exact ae (Rt h.2) fun z hz e=>h.1 (Ar.2 ⟨z,Gj.1 hz,e⟩)
theorem Um:∀{l:List Sl} {b:Option ByteArray},Vx l->(∀c,b=some c->∀y∈l,Ez c y.path=true)->KL b l=true
 | [],_,_,_=>by unfold KL;rfl
 |y::l,b,h,hb=>by
  obtain⟨h1,h2⟩:=Es.1 h;unfold KL;cases b with
  |none=>simpa using Um h2 fun c e z hz=>by simp_all
  |some c=>
   have:=hb c rfl y (Ag ..)
   simp only[this,Sn];exact Um h2 fun c e z hz=>by simp_all
theorem mI{l:List Sl}(h:Vx l):Bb l=true:=Um h fun _ e=>by cases e
theorem KK(hx:At x=0)(hr:r∈x):AY x (Cp r)=some r:=by
 unfold AY;rw[AN (fun h=>h hx)];cases h:x.find? fun s=>decide (Cp s=Cp r)with
 |none=>
  grind
 |some s=>
  have h1:=FG h;simp only[A4]at h1;rw[Us (BB hx).2 (Br h) hr h1]
theorem DE.sorted(h:DE x dec):Vx (EX (AA dec)):=Rt (by rw[Lw];exact h.nodup)
theorem DE.findS(h:DE x dec)(hc:c∈dec):AF (EX (AA dec)) c.rel.path=some (QT c):=
 NW h.sorted (y:=QT c) (Gj.2 (Ar.2 ⟨c,hc,rfl⟩))
theorem ar(hx:At x=0)(h:DE x dec)(hs:I5 roots dec)(hl:DM (Hk roots dec) (AA dec)=none):oJ x roots (EX (AA dec)):=by
 have GB:∀q∈Hk roots dec,∃y,AF (EX (AA dec)) q.path=some y/\has q.set (place y.ver)=true:=fun q hq=>by
  have:=UI hl q hq
  rw[Ls]at this;obtain⟨y,hy,e⟩:=this;obtain⟨d,hd,rfl⟩:=Ar.1 hy;have e:d.rel.path=q.path:=e;refine⟨QT d,by grind [DE.findS],?_⟩;have h1:=hs q hq d hd e;have GR:=(BB hx).1 _ (h.cand d hd).1;rw[(h.cand d hd).2.2,GR.plc]at h1;exact h1
 refine⟨hx,mI h.sorted,fun y hy=>?_,fun q hq=>GB q (Bw _ hq),fun y hy r hr q hq=>?_⟩
 .obtain⟨d,hd,rfl⟩:=Ar.1 (Gj.1 hy);exact⟨d.rel,KK hx (h.cand d hd).1,(h.cand d hd).2.1⟩
 .obtain⟨d,hd,rfl⟩:=Ar.1 (Gj.1 hy)
  have:AY x (QT d)=some d.rel:=KK hx (h.cand d hd).1
  rw[this]at hr;cases hr;exact GB q (B7 _ (Fm.2 ⟨_,Ar.2 ⟨d,hd,rfl⟩,hq⟩))
def jt(dec:List Cd)(needs:List Nd)(c:Cd):Bool:=(needs.all fun n=>has n.rq.set c.place)&&(D3 dec c).isNone
def Oy(x:List Rl)(roots:List Rq):Nat->List Cd->List (List Cd)
 |0,_=>[]
 |n+1,dec=>match(EV roots dec).2 with
  | []=>[dec]
  |n0::l=>((BA x (EV roots dec).1).map fun c=>if jt dec (n0::l) c then Oy x roots n (dec++[c])else []).flatten
structure Lf(x:List Rl)(roots:List Rq)(dec d:List Cd):Prop where
 pre:dec <+: d
 ok:DE x d
 sat:I5 roots d
 stop:DM (Hk roots d) (AA d)=none
theorem Hq(h:c∈BA x p):c.rel.path=p/\(c.rel∈x/\c.rel.yanked=false/\c.place=plc c.rel.ver):=by
 grind [La]
theorem Qf:jt dec needs c=true↔(∀n∈needs,has n.rq.set c.place=true)/\D3 dec c=none:=by
 grind [jt,Option.isNone_iff_eq_none]
theorem WM{x:List Rl}{roots:List Rq}:∀{n:Nat} {dec:List Cd},DE x dec->I5 roots dec->∀d∈Oy x roots n dec,Lf x roots dec d
 |0,_,_,_,d,hd=>by cases hd
 |n+1,dec,h,hs,d,hd=>by
  unfold Oy at hd;split at hd
  .grind [UH,Lf.mk]
  .rename_i n0 l e;have hN:=Ly e;obtain⟨L,hL,hd⟩:=Fm.1 hd;obtain⟨c,hc,rfl⟩:=Ar.1 hL;split at hd
   .rename_i GR;obtain⟨h1,h2⟩:=Qf.1 GR;obtain⟨c1,c2⟩:=Hq hc;have iD:Dz dec c.rel.path=false:=by grind [YL.undone]
    have:=WM (n:=n) (h.snoc c2 iD) (hs.snoc hN c1 h1 h2) d hd
    grind [List.prefix_append,Lf.mk,Lf.pre,Lf.ok,Lf.sat,Lf.stop]
   simp_all
theorem Lf.sol(hx:At x=0)(h:Lf x roots dec d):oJ x roots (EX (AA d)):=ar hx h.ok h.sat h.stop
theorem qV(hx:At x=0){s:SS}(hd:EP x roots s){k:Nat}(hk:k<s.drv.length)(he:Bp (Eh s k) (AA dec)=true)(h:Lf x roots dec d):False:=by
 have hS:=h.sol hx;have hv:=XN (s:=EX (AA d)) hS.inc (fun y hy=>Gj.2 (by
  obtain⟨c,hc,rfl⟩:=Ar.1 hy;obtain⟨t,e⟩:=h.pre<;>grind)) he
 have hn:=Mq hS (d:=[]) (fun _ h=>by cases h) hd.der (Eh s k) (by
  simp_all)
 simp_all
theorem uT(h:At x=0):x.length<=256:=by
 grind [At]
theorem lS{l:List Rl}{k:Int}:(l.map fun r=>(plc r.ver,plc r.ver+1)).any (BP k)=true↔∃r∈l,plc r.ver=k:=by
 rw[BC];constructor
 .grind [Em]
 .rintro⟨r,hr,rfl⟩
  exact⟨_,Ar.2 ⟨r,hr,rfl⟩,Em.2 ⟨Cb _,by omega⟩⟩
theorem Wb(hx:At x=0){k:Int}:has (A9 x p) k=true↔∃c∈BA x p,c.place=k:=by
 unfold A9;rw[Ek];unfold has It;rw[AN (fun h=>h hx)];simp only[Ak,A4];rw[lS];constructor
 .rintro⟨_,r,hr,rfl⟩
  simp only[Cr,A4,EO]at hr;exact⟨⟨plc r.ver,r⟩,La.2 ⟨r,hr.1.1,hr.1.2,hr.2,rfl⟩,rfl⟩
 .rintro⟨c,hc,rfl⟩
  obtain⟨r,h1,h2,h3,rfl⟩:=La.1 hc;have GR:=(BB hx).1 r h1
  have:=JS GR.val
  grind [J4.plc]
theorem gp(hx:At x=0)(p:ByteArray):∃k:Int,0<=k/\k<1000000/\has (A9 x p) k=false:=by
 apply Aw;intro hn;have GB:∀k∈(List.range 257).map fun i:Nat=>(i:Int),k∈x.map fun r=>plc r.ver:=by
  intro k hk;obtain⟨i,hi,rfl⟩:=Ar.1 hk;have hi:=OX.1 hi;have hh:has (A9 x p) (i:Int)=true:=by
   grind
  grind [Wb,La]
 have:=CB (Im.2 (List.nodup_range.imp fun h e=>h (Int.ofNat.inj e))) GB
 grind [uT]
theorem Ut(dec:List Cd)(c:Cd):AA (dec++[c])=MQ (AA dec) c.rel.path c.rel.ver:=by simp_all
theorem Li{t:List Tm}{S:List Sl}:Bp t S=true↔AX t S=true/\∀u∈t,BS S u.path=true:=by
 grind [Bp]
section
variable {x:List Rl}{roots:List Rq}{dec:List Cd}{p:ByteArray}{needs:List Nd}
abbrev dx(p:ByteArray)(dec:List Cd):List ByteArray:=p::(AA dec).map (·.path)
theorem pS{c:Cd}{t:List Tm}(hf:Form t)(he:Bp t (AA (dec++[c]))=true):Qy (dx c.rel.path dec) t:=by
 refine⟨E2 hf,fun u hu=>?_⟩
 grind [Li,E3]
theorem lu(hx:At x=0)(hd:DE x dec){c:Cd}(hc:c.rel∈x){t:List Tm}(he:Bp t (AA (dec++[c]))=true)(hn:DJ t c.rel.path=false):Bp t (AA dec)=true:=by
 obtain⟨h1,h2⟩:=Li.1 he;have EG:=J8 hn;rw[Ut]at h1 h2;refine Li.2 ⟨?_,fun u hu=>?_⟩
 .rw[K5 (.self (hd.valid hx)) (.ver (hd.valid hx) ((BB hx).1 _ hc).val) EG];exact h1
 grind [Ls]
theorem jL(hx:At x=0)(hd:DE x dec){c:Cd}(hc:c.rel∈x/\c.rel.yanked=false/\c.place=plc c.rel.ver)(hu:Dz dec c.rel.path=false){t:List Tm}(hf:Form t)(he:Bp t (AA (dec++[c]))=true)(hn:DJ t c.rel.path=true) :
  bN (AA dec) (dx c.rel.path dec) c.rel.path t fun k=>k=c.place:=by
 have GR:=(BB hx).1 _ hc.1;have hV:=hd.valid hx;have h1:=(Li.1 he).1;rw[Ut]at h1;refine⟨hf,pS hf he,hn,⟨_,.ver hV GR.val,h1⟩,fun k k0 k1 e=>?_⟩
 grind [dQ,GM,Ff,HA,J4.val,J4.plc]
theorem PU(hx:At x=0)(hr:AH roots=0){E:List Cd}(hE:DE x E){n:Nd}(hn:n∈Dr roots E)(hv:∃d∈E,d.rel.path=n.rq.path/\has n.rq.set d.place=false) :
  (∀d,AQ x roots d (PO n)=some (Ir n))/\Bp (Ir n) (AA E)=true/\Form (Ir n):=by
 obtain⟨d,hd,e,hs⟩:=hv;have GR:=(BB hx).1 _ (hE.cand d hd).1;have hf:=hE.find hd;have hI:=SK hx hr hE hn (.inr ⟨QT d,by simp_all,by rw[show(QT d).ver=d.rel.ver from rfl,<-GR.plc,<-(hE.cand d hd).2.2];exact hs⟩);refine⟨hI.inf,Li.2 ⟨hI.viol,fun u hu=>?_⟩,hI.form⟩
 have:=(hI.inU ((AA E).map (·.path)) (fun h=>E3.1 (hI.path h)) (E3.1 (by grind [Kd]))).2 u hu
 exact E3.2 this
theorem jh(hx:At x=0)(hr:AH roots=0)(hd:DE x dec)(hN:YL roots dec p needs){c:Cd}(hc:c∈BA x p){n:Nd}(hn:n∈needs)(hs:has n.rq.set c.place=false):DJ (Ir n) p=true:=by
 obtain⟨c1,c2⟩:=Hq hc;have hu:Dz dec c.rel.path=false:=by grind [YL.undone]
 have hE:=hd.snoc c2 hu;obtain⟨oP,hn2⟩:=(hN.mem n).1 hn;have GR:=(BB hx).1 _ c2.1;have hI:=SK hx hr hE (OH oP) (.inr ⟨QT c,by grind [DE.find],by grind [J4.plc]⟩);cases wl:DJ (Ir n) p with
 |true=>rfl
 |false=>
  exfalso
  have Ot:n.rq.set≠[]/\Eo n.rq.set:=by
   rcases MK oP with ⟨k,q,h1,rfl⟩ | ⟨c,hc,k,q,h1,rfl⟩
   .grind [Lb]
   .exact((BB hx).1 _ (hd.cand c hc).1).set q (Az h1)
  obtain⟨k,hk⟩:=gi Ot.1 Ot.2;have ZO:=On hk;have hV:=hd.valid hx;have o1:Vr (AA dec) p (MQ (AA dec) p (dR k)):=.ver hV (Ff ZO);have o2:Vr (AA dec) p (AA (dec++[c])):=by grind [Vr.ver,J4.val]
  have h1:=K5 o1 o2 (J8 wl);rw[hI.viol,hI.raw _ o1.val,Bs]at h1
  have:=h1 (Dw n.rq) (by grind [NO])
  grind [Dw,JC,GM,UO,HA]
theorem i7(hx:At x=0)(hr:AH roots=0)(hd:DE x dec)(hN:YL roots dec p needs){n0:Nd}(h0:n0∈needs)(L:List (Nat×Cd))(hL:L.map (·.2)=BA x p){s:SS}(hs:EP x roots s)(ET:∀y∈L,y.1<s.drv.length)
  (yW:s.full=false->∀y∈L,Bp (Eh s y.1) (AA (dec++[y.2]))=true/\DJ (Eh s y.1) p=true) :
  EP x roots (DC x p n0 (L.map (·.1)) s).2/\Grow s (DC x p n0 (L.map (·.1)) s).2/\(DC x p n0 (L.map (·.1)) s).1<(DC x p n0 (L.map (·.1)) s).2.drv.length /\
  ((DC x p n0 (L.map (·.1)) s).2.full=false->Bp (Eh (DC x p n0 (L.map (·.1)) s).2 (DC x p n0 (L.map (·.1)) s).1) (AA dec)=true):=by
 have hV:=hd.valid hx;have hpD:BS (AA dec) p=false:=by rw[GM];exact hN.undone
 obtain⟨hm0,hp0⟩:=(hN.mem n0).1 h0;have hI:=SK hx hr hd hm0 (.inl (by grind [H6]));unfold DC;obtain⟨a1,a2,a3⟩:=KB hs (hI.inf s.drv);have ag:=KC s (PO n0) (Ir n0);have a3:(Bx s n0).2.full=false->Eh (Bx s n0).2 (Bx s n0).1=Ir n0:=a3
 change EP x roots (Bx s n0).2 at a1
 change (Bx s n0).1<(Bx s n0).2.drv.length at a2
 change Grow s (Bx s n0).2 at ag
 generalize Bx s n0=s1 at *
 -- the incompatibility of the places that are not available
 obtain⟨u,u0,u1,hu⟩:=gp hx p;have mv:∀k:Int,0<=k->k<1000000->has (A9 x p) k=false->AX [(⟨p,false,BV (A9 x p)⟩:Tm)] (MQ (AA dec) p (dR k))=true:=fun k k0 k1 hk=>by
  grind [Bs,Da,JC,Ff,HA,Fu,PM]
 have sK:AX [(⟨p,false,BV (A9 x p)⟩:Tm)] (AA dec)=false:=by
  rw[A8];intro h
  have:=Bs.1 h _ (Ag ..)
  rw[show(⟨p,false,BV (A9 x p)⟩:Tm).path=p from rfl,H6 hpD]at this;cases this
 have ou:Vr (AA dec) p (MQ (AA dec) p (dR u)):=.ver hV (Ff ⟨u0,u1⟩);have EG:D7 p (A9 x p)≠[]:=by
  have c1:=De (l:=[(⟨p,false,BV (A9 x p)⟩:Tm)]) ou.val;have c2:=De (l:=[(⟨p,false,BV (A9 x p)⟩:Tm)]) hV;rw[mv u u0 u1 hu]at c1;rw[sK]at c2;unfold D7 BU;cases hc:A7 [(⟨p,false,BV (A9 x p)⟩:Tm)]with
  |none=>grind
  |some c=>
   rw[hc]at c2;intro e;have e:c=[]:=e;rw[e]at c2;cases c2
 have RT:∀S,Gn S->AX (D7 p (A9 x p)) S=AX [(⟨p,false,BV (A9 x p)⟩:Tm)] S:=fun S v=>Rb v EG;have yu:DJ (D7 p (A9 x p)) p=true:=by
  cases h:DJ (D7 p (A9 x p)) p with
  |true=>rfl
  |false=>
   have:=K5 ou (.self hV) (J8 h)
   rw[RT _ ou.val,RT _ hV,mv u u0 u1 hu,sK]at this;simp_all
 have ZP:AQ x roots s1.2.drv ⟨2,p,0,0,0,0⟩=some (D7 p (A9 x p)):=by
  unfold AQ;rw[AN (show ¬((2:Int)=0) by decide),AN (show ¬((2:Int)=1) by decide),A3 rfl,A3 ⟨rfl,rfl,rfl,rfl⟩];unfold OE;simp_all
 obtain⟨b1,b2,b3⟩:=KB a1 ZP;have bg:=KC s1.2 ⟨2,p,0,0,0,0⟩ (D7 p (A9 x p));have b3:(Ep x p s1.2).2.full=false->Eh (Ep x p s1.2).2 (Ep x p s1.2).1=D7 p (A9 x p):=b3
 change EP x roots (Ep x p s1.2).2 at b1
 change (Ep x p s1.2).1<(Ep x p s1.2).2.drv.length at b2
 change Grow s1.2 (Ep x p s1.2).2 at bg
 generalize Ep x p s1.2=s2 at *
 have x7:s2.2.full=false->s1.2.full=false/\s.full=false:=fun h=>by
  have h1:s1.2.full=false:=by
   cases e:s1.2.full with
   |false=>rfl
   |true=>rw[bg.full e]at h;cases h
  refine⟨h1,?_⟩;cases e:s.full with
  |false=>rfl
  |true=>rw[ag.full e]at h1;cases h1
 have main:=Ox (D:=AA dec) (U:=dx p dec) (p:=p) hV ((s2.1,fun k=>has (A9 x p) k=false)::L.map fun y=>(y.1,fun k=>k=y.2.place)) (C:=fun k=>has n0.rq.set k=false) b1 (AM a2 bg.len)
  (fun y hy=>by
   rcases AR.1 hy with rfl | hy
   .exact b2
   .obtain⟨z,hz,rfl⟩:=Ar.1 hy;exact AM (ET z hz) (ag.trans bg).len) (fun hf=>by
   obtain⟨f1,f0⟩:=x7 hf;refine⟨?_,fun y hy=>?_⟩
   .rw[bg.at a2,a3 f1];refine⟨hI.form,hI.inU _ (fun h=>Aj _ (E3.1 (hI.path h))) (by simp_all),hI.viol,fun k k0 k1 hk=>?_⟩;have ok:Vr (AA dec) p (MQ (AA dec) p (dR k)):=.ver hV (Ff ⟨k0,k1⟩);rw[hI.raw _ ok.val,Bs];intro t ht;have cO:=Bs.1 ((hI.raw _ hV).symm.trans hI.viol) t ht;unfold NO at ht;have uE:Da (Dw n0.rq) (AF (MQ (AA dec) p (dR k)) (Dw n0.rq).path)=true:=by
     rw[show(Dw n0.rq).path=p from hp0,JC hpD];exact Sc (.inr ⟨_,rfl,Ff ⟨k0,k1⟩,by rw[show(⟨p,dR k⟩:Sl).ver=dR k from rfl,HA];exact hk⟩)
    split at ht
    .simp_all
    .rename_i hm;rcases AR.1 ht with rfl | ht
     .have EG:n0.path≠p:=fun e=>by
       have:=hI.path hm
       simp_all
      rw[show(⟨n0.path,false,[(n0.place,n0.place+1)]⟩:Tm).path=n0.path from rfl]at cO⊢;rw[ok.same _ EG];omega
     simp_all
   .rcases AR.1 hy with rfl | hy
    .show bN _ _ p (Eh s2.2 s2.1) _;rw[b3 hf];refine⟨MP _,UN (fun t ht=>by simp_all),yu,⟨_,ou,by rw[RT _ ou.val];simp_all⟩,fun k k0 k1 hk=>?_⟩;rw[RT _ (Vr.ver hV (Ff ⟨k0,k1⟩)).val];simp_all
    .obtain⟨z,hz,rfl⟩:=Ar.1 hy;show bN _ _ p (Eh s2.2 z.1) _;rw[(ag.trans bg).at (ET z hz)];obtain⟨e1,e2⟩:=yW f0 z hz;have hzc:z.2∈BA x p:=by grind
     obtain⟨c1,c2⟩:=Hq hzc
     have:=jL hx hd c2 (by rw[c1];exact hN.undone) (hs.forms z.1) e1 (by simp_all)
     simp_all)
 have Ad3:((s2.1,fun k=>has (A9 x p) k=false)::L.map fun y=>(y.1,fun k=>k=y.2.place)).map (·.1)=s2.1::L.map (·.1):=by
  simp_all
 rw[Ad3]at main;obtain⟨m1,m2,m3,m4⟩:=main;refine⟨m1,(ag.trans bg).trans m2,m3,fun hf=>?_⟩;obtain⟨C',q1,q2⟩:=m4 hf;have hnc:DJ (Eh (B4 p (s2.1::L.map (·.1)) s1.1 s2.2).2 (B4 p (s2.1::L.map (·.1)) s1.1 s2.2).1) p=false:=by
  rcases q2 with q2 | q2
  .exact q2
  .refine na hpD q1.form q1.none_ fun k k0 k1=>q1.cov k k0 k1 (q2 k ?_);cases wv:has n0.rq.set k with
   |false=>simp_all
   |true=>
    cases ha:has (A9 x p) k with
    |false=>simp_all
    |true=>
     obtain⟨c,hc,e⟩:=(Wb hx).1 ha;rw[<-hL]at hc;obtain⟨z,hz,rfl⟩:=Ar.1 hc;exact .inr ⟨_,Aj _ (Ar.2 ⟨z,hz,rfl⟩),e.symm⟩
 refine Li.2 ⟨q1.none_,fun t ht=>?_⟩
 have:=q1.inU.2 t ht
 rcases AR.1 this with e | h
 .exact absurd e (J8 hnc t ht)
 .exact E3.2 h
end
def Gz(s:SS)(b:List Cd)(p:ByteArray)(needs:List Nd):List Cd->List Sk->Prop
 | [],sk=>sk=[]
 |c::cs,sk=>if(needs.all fun n=>has n.rq.set c.place)=true then ∃(k:Nat) (rest:List Sk),sk=⟨p,c.place,k⟩::rest/\(k<s.drv.length/\Bp (Eh s k) (AA (b++[c]))=true)/\Gz s b p needs cs rest
  else Gz s b p needs cs sk
section
variable {s s' : SS}{b:List Cd}{p:ByteArray}{needs:List Nd}
theorem Gz.out{c:Cd}(hc:¬(needs.all fun n=>has n.rq.set c.place)=true):∀{cs:List Cd} {sk:List Sk},Gz s b p needs cs sk->Gz s b p needs (cs++[c]) sk
 | [],sk,h=>by
  show(if _ then _ else _)
  grind
 |d::cs,sk,h=>by
  have h:if(needs.all fun n=>has n.rq.set d.place)=true then _ else _:=h
  show(if _ then _ else _)
  by_cases hd:(needs.all fun n=>has n.rq.set d.place)=true
  .rw[A3 hd]at h⊢;obtain⟨k,rest,h1,h2,h3⟩:=h;exact⟨k,rest,h1,h2,Gz.out hc h3⟩
  .rw[AN hd]at h⊢;exact Gz.out hc h
theorem Gz.add{c:Cd}(hc:(needs.all fun n=>has n.rq.set c.place)=true){k:Nat}(hk:k<s.drv.length/\Bp (Eh s k) (AA (b++[c]))=true):∀{cs:List Cd} {sk:List Sk},Gz s b p needs cs sk->Gz s b p needs (cs++[c]) (sk++[⟨p,c.place,k⟩])
 | [],sk,h=>by
  have h:sk=[]:=h;subst h;show(if _ then _ else _);rw[A3 hc];exact⟨k,[],rfl,hk,rfl⟩
 |d::cs,sk,h=>by
  have h:if(needs.all fun n=>has n.rq.set d.place)=true then _ else _:=h
  show(if _ then _ else _)
  by_cases hd:(needs.all fun n=>has n.rq.set d.place)=true
  .rw[A3 hd]at h⊢;obtain⟨j,rest,rfl,h2,h3⟩:=h;exact⟨j,_,rfl,h2,Gz.add hc hk h3⟩
  .rw[AN hd]at h⊢;exact Gz.add hc hk h
theorem Gz.mono(hg:Grow s s'):∀{cs:List Cd} {sk:List Sk},Gz s b p needs cs sk->Gz s' b p needs cs sk
 | [],_,h=>h
 |d::cs,sk,h=>by
  have h:if(needs.all fun n=>has n.rq.set d.place)=true then _ else _:=h
  show(if _ then _ else _)
  by_cases hd:(needs.all fun n=>has n.rq.set d.place)=true
  .rw[A3 hd]at h⊢;obtain⟨j,rest,rfl,h2,h3⟩:=h;exact⟨j,rest,rfl,⟨AM h2.1 hg.len,by grind [Grow.at]⟩,h3.mono hg⟩
  .rw[AN hd]at h⊢;exact h.mono hg
end
structure td(x:List Rl)(roots:List Rq)(s:SS)(b:List Cd)(c:Cd)(sk:List Sk)(p:ByteArray)(needs:List Nd)(pre post:List Cd):Prop where
 next:YL roots b p needs
 cands:BA x p=pre++c::post
 fit:∀n∈needs,has n.rq.set c.place=true
 noclash:D3 b c=none
 skips:Gz s b p needs pre sk
def Ku(x:List Rl)(roots:List Rq)(s:SS):List Cd->List Cd->List (List Sk)->Prop
 |b,[],[]=>DM (Hk roots b) (AA b)=none
 |b,c::t,sk::st=>(∃p needs pre post,td x roots s b c sk p needs pre post)/\Ku x roots s (b++[c]) t st
 |_,_,_=>False
structure N9(x:List Rl)(roots:List Rq)(ls:List (List Cd))(dec:List Cd)(s:SS)(st:List (List Sk))(o:Kz):Prop where
 der:EP x roots o.ss
 grow:Grow s o.ss
 no:o.found=false->o.dec=dec/\o.stack=st/\(o.ss.full=false->o.res<o.ss.drv.length/\Bp (Eh o.ss o.res) (AA dec)=true)
 yes:o.found=true->o.ss.full=false/\∃t sl,o.dec=dec++t/\o.stack=st++sl/\Ku x roots o.ss dec t sl/\ls.head?=some o.dec
section
variable {rec:List Cd->SS->List (List Sk)->Kz}{x:List Rl}{roots:List Rq}{p:ByteArray}{needs:List Nd}{n0:Nd}{dec:List Cd}{st:List (List Sk)}
def IG(rec:List Cd->SS->List (List Sk)->Kz)(x:List Rl)(p:ByteArray)(needs:List Nd)(n0:Nd)(dec:List Cd)(st:List (List Sk))(c:Cd)(cs:List Cd)(reasons:List Nat)(skips:List Sk)(k:Nat)(s:SS):Kz:=
 if DJ (Eh s k) p=false then⟨k,false,s,dec,st⟩else DR rec x p needs n0 dec st cs s (reasons++[k]) (skips++[⟨p,c.place,k⟩])
theorem FW(c:Cd)(cs:List Cd)(s:SS)(reasons:List Nat)(skips:List Sk):DR rec x p needs n0 dec st (c::cs) s reasons skips =
  if s.full=true then⟨0,false,s,dec,st⟩
  else match needs.find? fun n=>!has n.rq.set c.place with
   |some n=>DR rec x p needs n0 dec st cs (Bx s n).2 (reasons++[(Bx s n).1]) skips
   |none=>match Og s.drv (AA (dec++[c]))with
    |some k=>IG rec x p needs n0 dec st c cs reasons skips k s
    |none=>match D3 dec c with
     |some n=>IG rec x p needs n0 dec st c cs reasons skips (Bx s n).1 (Bx s n).2
     |none=>if(rec (dec++[c]) s (st++[skips])).found=true then⟨0,true,(rec (dec++[c]) s (st++[skips])).ss,(rec (dec++[c]) s (st++[skips])).dec,(rec (dec++[c]) s (st++[skips])).stack⟩
      else if(rec (dec++[c]) s (st++[skips])).ss.full=true then⟨0,false,(rec (dec++[c]) s (st++[skips])).ss,dec,st⟩
      else IG rec x p needs n0 dec st c cs reasons skips (rec (dec++[c]) s (st++[skips])).res (rec (dec++[c]) s (st++[skips])).ss:=rfl
theorem fA{s:SS}(hs:EP x roots s){n:Nd}(h:∀d,AQ x roots d (PO n)=some (Ir n)):EP x roots (Bx s n).2/\(Bx s n).1<(Bx s n).2.drv.length/\((Bx s n).2.full=false->Eh (Bx s n).2 (Bx s n).1=Ir n)/\Grow s (Bx s n).2:=by
 obtain⟨a1,a2,a3⟩:=KB hs (h s.drv);exact⟨a1,a2,a3,KC _ _ _⟩
theorem N9.grown{ls:List (List Cd)}{s s' : SS}{o:Kz}(hg:Grow s s')(h:N9 x roots ls dec s' st o):N9 x roots ls dec s st o:=⟨h.der,hg.trans h.grow,h.no,h.yes⟩
theorem Wg(hx:At x=0)(hr:AH roots=0)(hd:DE x dec)(iJ:I5 roots dec)(hN:YL roots dec p needs)(h0:n0∈needs){lv:List Cd->List (List Cd)}(hlv:∀c∈BA x p,jt dec needs c=true->∀d∈lv (dec++[c]),Lf x roots (dec++[c]) d)
  (cV:∀c∈BA x p,jt dec needs c=true->∀s st,EP x roots s->s.full=false->N9 x roots (lv (dec++[c])) (dec++[c]) s st (rec (dec++[c]) s st)) :
  ∀(cs:List Cd) {s:SS} (L:List (Nat×Cd)) {skips:List Sk},L.map (·.2)++cs=BA x p->EP x roots s->(∀y∈L,y.1<s.drv.length)->(s.full=false->(∀y∈L,Bp (Eh s y.1) (AA (dec++[y.2]))=true/\DJ (Eh s y.1) p=true)/\Gz s dec p needs (L.map (·.2)) skips) ->
   N9 x roots (((BA x p).map fun c=>if jt dec needs c then lv (dec++[c])else []).flatten) dec s st (DR rec x p needs n0 dec st cs s (L.map (·.1)) skips)
 | [],s,L,skips,hL,hs,ET,yW=>by
  rw[Eg]at hL;obtain⟨l1,l2,l3,l4⟩:=i7 hx hr hd hN h0 L hL hs ET (fun hf=>(yW hf).1);exact⟨l1,l2,fun _=>⟨rfl,rfl,fun hf=>⟨l3,l4 hf⟩⟩,fun h=>(by cases h)⟩
 |c::cs,s,L,skips,hL,hs,ET,yW=>by
  rw[FW]
  by_cases hf:s.full=true
  .grind [N9.mk,Grow.refl]
  rw[AN hf];have hf:s.full=false:=by simp_all
  obtain⟨Adq,Adr⟩:=yW hf;have hc:c∈BA x p:=by grind
  obtain⟨c1,c2⟩:=Hq hc;have hu:Dz dec c.rel.path=false:=by grind [YL.undone]
  have hE:=hd.snoc c2 hu
  -- on to the next candidate
  have go:∀(s' : SS) (k:Nat) (LL : List Sk),EP x roots s'->Grow s s'->k<s'.drv.length->(s'.full=false->(Bp (Eh s' k) (AA (dec++[c]))=true/\DJ (Eh s' k) p=true)/\Gz s' dec p needs (L.map (·.2)++[c]) LL) ->
    N9 x roots (((BA x p).map fun c=>if jt dec needs c then lv (dec++[c])else []).flatten) dec s st (DR rec x p needs n0 dec st cs s' (L.map (·.1)++[k]) LL):=fun s' k LL iI hg hk EG=>by
   have:=Wg hx hr hd iJ hN h0 hlv cV cs (s:=s') (L++[(k,c)]) (skips:=LL) (by simp_all) iI
    (fun y hy=>by
     rcases Bi.1 hy with hy | hy
     .exact AM (ET y hy) hg.len
     simp_all)
    (fun wm=>by
     grind [Grow.at])
   grind [N9.grown]
  cases wo:needs.find? fun n=>!has n.rq.set c.place with
  |some n=>
   dsimp only;have oP:=Br wo;have hn2:=FG wo;have hn2:has n.rq.set c.place=false:=by simp_all
   obtain⟨hn3,hn4⟩:=(hN.mem n).1 oP;obtain⟨e1,e2,e3⟩:=PU hx hr hE (OH hn3) ⟨c,by simp,by rw[c1,hn4],hn2⟩<;>grind [fA,jh,Gz.out,Gz.mono]
  |none=>
   dsimp only;have qo:∀n∈needs,has n.rq.set c.place=true:=fun n hn=>by
    simp_all
   have GB:(needs.all fun n=>has n.rq.set c.place)=true:=by simp_all
   have aft:∀(s' : SS) (k:Nat),EP x roots s'->Grow s s'->k<s'.drv.length->(s'.full=false->Bp (Eh s' k) (AA (dec++[c]))=true) ->
     N9 x roots (((BA x p).map fun c=>if jt dec needs c then lv (dec++[c])else []).flatten) dec s st (IG rec x p needs n0 dec st c cs (L.map (·.1)) skips k s'):=fun s' k iI hg hk he=>by
    unfold IG;cases wl:DJ (Eh s' k) p with
    |false=>
     rw[A3 rfl];exact⟨iI,hg,fun _=>⟨rfl,rfl,fun wm=>⟨hk,lu hx hd c2.1 (he wm) (by simp_all)⟩⟩,fun h=>(by cases h)⟩
    |true=>
     grind [Gz.add,Gz.mono]
   cases hen:Og s.drv (AA (dec++[c]))with
   |some k=>
    grind [KH,Grow.refl]
   |none=>
    dsimp only;cases hcl:D3 dec c with
    |some n=>
     dsimp only;obtain⟨m1,m2⟩:=Lc hcl;obtain⟨e1,e2,e3⟩:=PU hx hr hE (Ns m1) m2<;>grind [fA]
    |none=>
     dsimp only;have GR:jt dec needs c=true:=Qf.2 ⟨qo,hcl⟩;have hR:=cV c hc GR s (st++[skips]) hs hf;generalize rec (dec++[c]) s (st++[skips])=o at hR
     by_cases mg:o.found=true
     .rw[A3 mg];obtain⟨y1,t,sl,y2,y3,y4,y5⟩:=hR.yes mg;refine⟨hR.der,hR.grow,fun h=>(by cases h),fun _=>⟨y1,c::t,skips::sl,by simp_all,by simp_all,⟨⟨p,needs,L.map (·.2),cs,hN,hL.symm,qo,hcl,Adr.mono hR.grow⟩,y4⟩,?_⟩⟩;show _=some o.dec;rw[<-hL,Bk,D8,Bo,Ck];have yM:((L.map (·.2)).map fun c=>if jt dec needs c then lv (dec++[c])else []).flatten=[]:=by
       rw[List.flatten_eq_nil_iff];intro l hl;obtain⟨d,oM,rfl⟩:=Ar.1 hl;obtain⟨y,hy,rfl⟩:=Ar.1 oM;split
       .rename_i hoy;have hyc:y.2∈BA x p:=by grind
        refine L7.2 fun d AcL=>qV hx hs (ET y hy) (Adq y hy).1 (hlv y.2 hyc hoy d AcL)
       .rfl
      grind
     grind [N9.no,N9.mk,N9.der,N9.grow]
end
theorem T1(h:c.rel∈x/\c.rel.yanked=false)(hu:Dz dec c.rel.path=false):FX x (dec++[c])<FX x dec:=by
 have key:∀l:List Rl,(l.filter fun r=>!r.yanked&&!Dz (dec++[c]) r.path).length<=(l.filter fun r=>!r.yanked&&!Dz dec r.path).length /\
   (c.rel∈l->(l.filter fun r=>!r.yanked&&!Dz (dec++[c]) r.path).length<(l.filter fun r=>!r.yanked&&!Dz dec r.path).length):=by
  intro l
  induction l<;>grind [Dz]
 exact(key x).2 h.1
theorem Rs{x:List Rl}{roots:List Rq}(hx:At x=0)(hr:AH roots=0):∀(n:Nat) {dec:List Cd} {s:SS} {st:List (List Sk)},DE x dec->I5 roots dec->EP x roots s->s.full=false->FX x dec<n ->
  N9 x roots (Oy x roots n dec) dec s st (CC x roots n dec s st)
 |0,_,_,_,_,_,_,_,h=>by omega
 |n+1,dec,s,st,hd,iJ,hs,hf,hn=>by
  unfold CC Oy;cases e:(EV roots dec).2 with
  |nil=>
   exact⟨hs,.refl s,fun h=>(by cases h),fun _=>⟨hf,[],[],by simp,by simp,UH.1 e,rfl⟩⟩
  |cons n0 l=>
   have hN:=Ly e;have next:∀c∈BA x (EV roots dec).1,jt dec (n0::l) c=true->DE x (dec++[c])/\I5 roots (dec++[c])/\FX x (dec++[c])<n:=fun c hc GR=>by
    obtain⟨c1,c2⟩:=Hq hc;have hu:Dz dec c.rel.path=false:=by grind [YL.undone]
    obtain⟨k1,k2⟩:=Qf.1 GR;exact⟨hd.snoc c2 hu,iJ.snoc hN c1 k1 k2,by have:=T1 (dec:=dec) ⟨c2.1,c2.2.1⟩ hu;omega⟩
   exact Wg hx hr hd iJ hN (Ag ..) (lv:=Oy x roots n) (fun c hc GR d oM=>WM (next c hc GR).1 (next c hc GR).2.1 d oM)
    (fun c hc GR s st hs hf=>Rs hx hr n (next c hc GR).1 (next c hc GR).2.1 hs hf (next c hc GR).2.2) _ [] rfl hs (fun y hy=>by cases hy) (fun _=>⟨fun y hy=>(by cases hy),rfl⟩)
theorem ZF(x:List Rl)(dec:List Cd):FX x dec<=x.length:=Fb _ _
theorem W8(hx:At x=0)(hr:AH roots=0):N9 x roots (Oy x roots (x.length+1) []) [] z8 [] (Fe x roots):=
 Rs hx hr _ (.nil x) (.nil roots) (.nil x roots) rfl (by grind [ZF])
def MT(R:Nat):Nat:=[3,8,13,23,33,53,78,113,168,243,348,513,738,1053,1548,2223,3168].getD R 0
theorem o5:∀R≤16,3<=MT R/\∀k≤R,3+2*k+k*MT (R-k)<=MT R\/k=0:=by decide
section
variable {x:List Rl}{roots:List Rq}{p:ByteArray}{needs:List Nd}{n0:Nd}{dec:List Cd}{st:List (List Sk)}
theorem OZ{s:SS}(i:Nf)(l:List Tm)(hf:s.full=false)(hc:s.infs.length<=65535):(Ea s i l).2.full=false/\(Ea s i l).2.infs.length<=s.infs.length+1:=⟨YQ i l hf Wk,bQ s i l⟩
theorem Kf:∀(l:List Nat) {k:Nat} {s:SS},s.full=false->s.infs.length+l.length<=65535->(B4 p l k s).2.full=false/\(B4 p l k s).2.infs.length<=s.infs.length+l.length
 | [],k,s,hf,_=>⟨hf,Ap _⟩
 |r::l,k,s,hf,hc=>by
  rw[DZ]at hc⊢;unfold B4;split
  .simp_all
  split
  .obtain⟨h1,h2⟩:=Kf l (k:=k) hf Wk<;>grind
  split
  .obtain⟨h1,h2⟩:=Kf l (k:=k) hf Wk<;>grind
  .obtain⟨a1,a2⟩:=OZ ⟨3,p,0,0,(k:Nat),(r:Nat)⟩ (AU (Eh s k) (Eh s r) p).1 hf Wk;obtain⟨h1,h2⟩:=Kf l (k:=(Ea s ⟨3,p,0,0,(k:Nat),(r:Nat)⟩ (AU (Eh s k) (Eh s r) p).1).1) a1 Wk<;>grind
theorem Uw{s:SS}(reasons:List Nat)(hf:s.full=false)(hc:s.infs.length+(3+reasons.length)<=65535):(DC x p n0 reasons s).2.full=false/\(DC x p n0 reasons s).2.infs.length<=s.infs.length+(3+reasons.length):=by
 grind [DC,OZ,Bx,Ep,Kf]
theorem Ts{rec:List Cd->SS->List (List Sk)->Kz}{B:Nat}(cV:∀c∈BA x p,∀s st,s.full=false->s.infs.length+B<=65535->(rec (dec++[c]) s st).ss.full=false/\(rec (dec++[c]) s st).ss.infs.length<=s.infs.length+B) :
  ∀(cs:List Cd) {s:SS} {reasons:List Nat} {skips:List Sk},(∀c∈cs,c∈BA x p)->s.full=false->s.infs.length+(3+(reasons.length+cs.length)+cs.length*(1+B))<=65535 ->
   (DR rec x p needs n0 dec st cs s reasons skips).ss.full=false/\(DR rec x p needs n0 dec st cs s reasons skips).ss.infs.length<=s.infs.length+(3+(reasons.length+cs.length)+cs.length*(1+B))
 | [],s,reasons,skips,_,hf,hc=>by
  simp only[HY,HM,Nat.zero_mul]at hc⊢;exact Uw reasons hf hc
 |c::cs,s,reasons,skips,hm,hf,hc=>by
  rw[FW,AN (by simp_all)];simp only[DZ]at hc⊢;have X4:(cs.length+1)*(1+B)=cs.length*(1+B)+(1+B):=by grind
  rw[X4]at hc⊢
  have go:∀(s' : SS) (k:Nat) (LL : List Sk),s'.full=false->s'.infs.length<=s.infs.length+(1+B) ->
    (DR rec x p needs n0 dec st cs s' (reasons++[k]) LL).ss.full=false/\(DR rec x p needs n0 dec st cs s' (reasons++[k]) LL).ss.infs.length<=s.infs.length+(3+(reasons.length+(cs.length+1))+(cs.length*(1+B)+(1+B))):=fun s' k LL wm hl=>by
   have CL:(reasons++[k]).length=reasons.length+1:=by simp
   obtain⟨h1,h2⟩:=Ts cV cs (s:=s') (reasons:=reasons++[k]) (skips:=LL) (fun d hd=>hm d (Aj _ hd)) wm (by rw[CL];omega)<;>grind [List.mem_cons_of_mem]
  have aft:∀(s' : SS) (k:Nat),s'.full=false->s'.infs.length<=s.infs.length+(1+B) ->
    (IG rec x p needs n0 dec st c cs reasons skips k s').ss.full=false/\(IG rec x p needs n0 dec st c cs reasons skips k s').ss.infs.length<=s.infs.length+(3+(reasons.length+(cs.length+1))+(cs.length*(1+B)+(1+B))):=fun s' k wm hl=>by
   grind [IG]
  cases needs.find? fun n=>!has n.rq.set c.place with
  |some n=>
   obtain⟨a1,a2⟩:=OZ (PO n) (Ir n) hf Wk;exact go _ _ _ a1 (by show(Ea s (PO n) (Ir n)).2.infs.length<=_;omega)
  |none=>
   dsimp only;cases Og s.drv (AA (dec++[c]))with
   |some k=>simp_all
   |none=>
    dsimp only;cases D3 dec c with
    |some n=>
     obtain⟨a1,a2⟩:=OZ (PO n) (Ir n) hf Wk;exact aft _ _ a1 (by show(Ea s (PO n) (Ir n)).2.infs.length<=_;omega)
    |none=>
     grind
theorem ZE{c:Cd}(hc:c∈BA x p)(hu:Dz dec p=false):FX x (dec++[c])+(BA x p).length=FX x dec:=by
 obtain⟨c1,_⟩:=Hq hc;unfold FX BA;rw[BJ];have key:∀l:List Rl,(l.filter fun r=>!r.yanked&&!Dz (dec++[c]) r.path).length+(l.filter fun r=>decide (r.path=p)&&!r.yanked).length=(l.filter fun r=>!r.yanked&&!Dz dec r.path).length:=by
  intro l
  induction l<;>grind [Dz]
 simp_all
theorem Vf:∀(n:Nat) {dec:List Cd} {s:SS} {st:List (List Sk)},s.full=false->FX x dec<=16->s.infs.length+MT (FX x dec)<=65535 ->
  (CC x roots n dec s st).ss.full=false/\(CC x roots n dec s st).ss.infs.length<=s.infs.length+MT (FX x dec)
 |0,_,_,_,hf,_,_=>⟨hf,Nat.le_add_right ..⟩
 |n+1,dec,s,st,hf,hR,hc=>by
  unfold CC;cases e:(EV roots dec).2 with
  |nil=>simp_all
  |cons n0 l=>
   have hN:=Ly e;dsimp only;obtain⟨m1,m2⟩:=o5 _ hR;cases hcs:BA x (EV roots dec).1 with
   |nil=>
    obtain⟨h1,h2⟩:=Uw (x:=x) (p:=(EV roots dec).1) (n0:=n0) (s:=s) [] hf (by grind);refine⟨h1,?_⟩;show(DC x (EV roots dec).1 n0 [] s).2.infs.length<=_
    grind
   |cons c0 cs0=>
    have Af:∀c∈BA x (EV roots dec).1,FX x (dec++[c])=FX x dec-(BA x (EV roots dec).1).length/\(BA x (EV roots dec).1).length<=FX x dec:=fun c hc=>by
     grind [ZE,YL.undone]
    have ya:c0∈BA x (EV roots dec).1:=by simp_all
    have hk:=Af c0 ya;have WB:(BA x (EV roots dec).1).length≠0:=by simp_all
    have hm:=(m2 _ hk.2).resolve_right WB;generalize hK:(BA x (EV roots dec).1).length=K at *
    have CL:(c0::cs0).length=K:=by simp_all
    have AcB:3+(([]:List Nat).length+(c0::cs0).length)+(c0::cs0).length*(1+MT (FX x dec-K))<=MT (FX x dec):=by
     grind [Nat.mul_add]
    have Afd:K<=K*(1+MT (FX x dec-K)):=Nat.le_mul_of_pos_right _ Wk;have hB:MT (FX x dec-K)<=K*(1+MT (FX x dec-K)):=by
     calc MT (FX x dec-K)<=1+MT (FX x dec-K):=by omega
      _<=K*(1+MT (FX x dec-K)):=Nat.le_mul_of_pos_left _ Wk
    obtain⟨h1,h2⟩:=Ts (x:=x) (p:=(EV roots dec).1) (needs:=n0::l) (n0:=n0) (dec:=dec) (st:=st) (rec:=CC x roots n) (B:=MT (FX x dec-K)) (fun c hc s st hf hl=>by
     have:=Af c hc
     have h3:=Vf n (dec:=dec++[c]) (s:=s) (st:=st) hf Wk (by simp_all);simp_all) (c0::cs0) (s:=s) (reasons:=[]) (skips:=[]) (fun c hc=>by simp_all) hf Wk
    grind
theorem OQ(h:x.length<=16):(Fe x roots).ss.full=false:=by
 have hf:=ZF x [];exact(Vf (x:=x) (roots:=roots) _ (dec:=[]) (s:=z8) (st:=[]) rfl Wk (by
  have:∀R≤16,([]:List Nf).length+MT R<=65535:=by decide
  grind)).1
end
def uZ:List (List UInt8):=[[97,110,100],[97,110,121],[97,115],[98,111,111,108],[100,101,112,114,101,99,97,116,101,100],[101,108,115,101],[101,120,112,111,114,116],[102,97,108,115,101],[102,110],[102,111,108,100],[102,114,111,109],[105,102],[105,109,112,111,114,116],[105,110],[105,110,116],[108,101,110,103,116,104],[108,101,116],[108,105,115,116],[109,97,116,99,104],[109,111,100,117,108,101],[110,111,110,101],[110,111,116],[111,114],[116,101,120,116],[116,104,101,110],[116,114,117,101],[116,121,112,101],[117,115,101]]
theorem iX:de=32::uZ.flatMap (fun w=>w++[32]):=by decide +kernel
theorem u5:∀w∈uZ,∀c∈w,c≠32:=by decide +kernel
theorem WZ:∀(s w r:List UInt8),(∀c∈s,c≠32)->(∀c∈w,c≠32)->Qi (s++[32]) (w++32::r)=decide (w=s)
 | [],[],r,_,_=>by simp[Qi]
 | [],b::w,r,_,hw=>by
  grind [Qi]
 |a::s,[],r,hs,_=>by
  grind [Qi]
 |a::s,b::w,r,hs,hw=>by
  have ih:=WZ s w r (fun c hc=>hs c (Aj _ hc)) (fun c hc=>hw c (Aj _ hc))
  grind [Qi]
theorem ZY(x:List UInt8):∀(w r:List UInt8),(∀c∈w,c≠32)->oU (32::x) (w++r)=oU (32::x) r
 | [],_,_=>rfl
 |b::w,r,h=>by
  have hb:=h b (Ag ..);rw[F1,oU,ZY x w r (fun c hc=>h c (Aj _ hc))]
  grind [Qi]
theorem WD(s:List UInt8)(hs:∀c∈s,c≠32):∀ws:List (List UInt8),(∀w∈ws,∀c∈w,c≠32)->oU (32::(s++[32])) (32::ws.flatMap (fun w=>w++[32]))=ws.any (fun w=>decide (w=s))
 | [],_=>by
  cases s<;>grind [oU,Qi]
 |w::ws,h=>by
  have hw:=h w (Ag ..);have ih:=WD s hs ws (fun v hv=>h v (Aj _ hv))
  grind [oU,Qi,WZ,ZY]
theorem r4(h:s.all FS=true):∀c∈s,c≠32:=fun c hc e=>by
 have:=A0.1 h c hc
 rw[e]at this;exact absurd this aa1
theorem db(h:s.all FS=true):VL s=uZ.any (fun w=>decide (w=s)):=by
 unfold VL;rw[iX,WD s (r4 h) uZ u5]
theorem mL(s:AL)(x:Int×Int)(k:Nat)(h:s.Perm t):(s.take k++([x]++s.drop k)).Perm (t++[x]):=by
 grind [List.take_append_drop]
theorem Ur(s:AL)(x:Int×Int)(k:Nat)(hs:s.Pairwise fun a b=>a.1<=b.1)(h1:∀j (hj:j<s.length),k<=j->x.1<s[j].1)(h2:k=0\/∃h:k-1<s.length,s[k-1].1<=x.1):(s.take k++([x]++s.drop k)).Pairwise fun a b=>a.1<=b.1:=by
 have yH:∀a∈s.take k,a.1<=x.1:=fun a ha=>by
  grind [List.getElem_of_mem,List.pairwise_iff_getElem]
 have hhi:∀b∈s.drop k,x.1<=b.1:=fun b hb=>by
  grind [List.getElem_of_mem]
 grind
theorem Ov(t:Tm):∀(A:List Tm) (k:Nat),k<=A.length->(∀j (h:j<A.length),j<k->Ez A[j].path t.path=true)->Hw t A=A.take k++Hw t (A.drop k)
 |A,0,_,_=>by simp
 | [],k+1,h,_=>by simp_all
 |u::r,k+1,h,hb=>by
  have h0:Ez u.path t.path=true:=hb 0 aa0 Wk;have ih:=Ov t r k (by simp_all) (fun j hj hk=>hb (j+1) Wk Wk);show(if _ then _ else _)=_;simp_all
theorem PP(t:Tm)(A:List Tm)(k:Nat)(hk:k<=A.length)(hb:∀j (h:j<A.length),j<k->Ez A[j].path t.path=true)
  (hn:∀h:k<A.length,Ez A[k].path t.path=false/\A[k].path≠t.path):Hw t A=A.take k++([Df t]++A.drop k):=by
 rw[Ov t A k hk hb]
 congr 1
 by_cases h:k<A.length
 .obtain⟨h1,h2⟩:=hn h;rw[Be h];show(if _ then _ else if _ then _ else _)=_;simp_all
 .rw[DY Wk];rfl
theorem SL(t:Tm)(A:List Tm)(k:Nat)(h:k<A.length)(hb:∀j (h:j<A.length),j<k->Ez A[j].path t.path=true)(he:A[k].path=t.path):Hw t A=A.set k (EH A[k] t):=by
 rw[Ov t A k (Nat.le_of_lt h) hb,Be h,List.set_eq_take_append_cons_drop,A3 h]
 congr 1
 show(if _ then _ else if _ then _ else _)=_
 grind [Dg]
theorem FB(l:List Tm)(i:Nat)(h:i<l.length):Db (l.take (i+1))=Hw l[i] (Db (l.take i)):=by
 grind [Db,List.take_add_one]
theorem af(t:Tm):∀A:List Tm,(Hw t A).length<=A.length+1
 | []=>by simp[Hw]
 |u::r=>by
  have:=af t r
  show(if _ then _ else if _ then _ else _:List Tm).length<=_
  grind
theorem UE(l:List Tm):∀i,i<=l.length->(Db (l.take i)).length<=i:=by
 intro i
 induction i<;>grind [Db,FB,af]
theorem Zb{f:Bool}{s:AL}(h:∀q,has s q=has t q):Df ⟨p,f,s⟩=Df ⟨p,f,t⟩:=by grind [Df,Fy,BG,Ek]
theorem ns{a b t:Tm}(h:Df a=Df b):BU [a,t]=BU [b,t]:=by
 grind [Db,Hw,BU,A7]
theorem qe(n q:Int)(h:0<=n/\n<1000000):has (UF (canon [(n,1000000)]) (canon [(n+1,1000000)])) q=has [(n,n+1)] q:=by
 grind [iB,Ek,has,BP]
theorem nH:∀(n:Nat) (l:List Int),l.length<=n->∃k:Int,0<=k/\k<=n/\k∉l
 |0,l,h=>by
  have e:l=[]:=Ay Wk;exact⟨0,by omega,by omega,by simp_all⟩
 |n+1,l,h=>by
  by_cases hn:((n+1:Nat):Int)∈l
  .obtain⟨k,h1,h2,h3⟩:=nH n (l.erase ((n+1:Nat):Int)) (by rw[List.length_erase_of_mem hn];omega)<;>grind
  grind
theorem gM(x:List Rl)(p:ByteArray)(h:At x=0->x.length<=256):((((It x p).filter fun r=>!r.yanked).map fun r=>(plc r.ver,plc r.ver+1))).length<=256:=by
 grind [It]
theorem qW(x:List Rl)(p q:ByteArray)(h:At x=0->x.length<=256):D7 q (A9 x p)≠[]:=by
 have hl:=gM x p h;obtain⟨S,hS⟩:∃S,S=(((It x p).filter fun r=>!r.yanked).map fun r=>(plc r.ver,plc r.ver+1)):=⟨_,rfl⟩;obtain⟨k,k1,k2,k3⟩:=nH 256 (S.map (·.1)) (by simp_all);have hk:has (BV (A9 x p)) k=true:=by
  grind [Fu,A9,Ek,has,BP,PM]
 intro h0;have hc:A7 [⟨q,false,BV (A9 x p)⟩]=some [Df ⟨q,false,BV (A9 x p)⟩]:=by
  have EG:(Df ⟨q,false,BV (A9 x p)⟩).set≠[]:=fun e=>by
   have:has (canon (BV (A9 x p))) k=true:=by grind [Ek]
   rw[show canon (BV (A9 x p))=[]from e]at this
   grind [has]
  have h1:F4 (Df ⟨q,false,BV (A9 x p)⟩)=false:=by
   grind [F4]
  show(if([Df ⟨q,false,BV (A9 x p)⟩]).any F4 then none else some (([Df ⟨q,false,BV (A9 x p)⟩]).filter fun t=>!Fx t))=_;rw[AN (by simp_all)]
  rfl
 grind [D7,BU]
section
variable {x:List Rl}{roots:List Rq}{d:List (List Tm)}{i:Nf}
def FQ(x:List Rl)(roots:List Rq)(d:List (List Tm))(i:Nf):List Tm:=if i.kind=2 then D7 i.path (A9 x i.path)else(AQ x roots d i).getD []
theorem qF(h:i.kind=0):AQ x roots d i=if i.path=mt/\i.place=0/\i.left=0/\i.right=0 then(DN roots i.number).map Gy else none:=A3 h
theorem cY(h:i.kind=1):AQ x roots d i=if i.left=0/\i.right=0 then match Dj x i.path i.place with
      |none=>none
      |some r=>match DN r.reqs i.number with
        |none=>none
        |some q=>OE (BM i.path i.place q)
    else none:=by grind [AQ]
theorem uR(h:i.kind=2):AQ x roots d i=if i.place=0/\i.number=0/\i.left=0/\i.right=0 then OE (D7 i.path (A9 x i.path))else none:=by
 grind [AQ]
theorem cZ(h:i.kind=3):AQ x roots d i=if i.place=0/\i.number=0 then match DN d i.left,DN d i.right with
      |some a,some b=>if(AU a b i.path).2=0 then some (AU a b i.path).1 else none
      |_,_=>none
    else none:=by grind [AQ]
theorem AdF(h0:i.kind≠0)(h1:i.kind≠1)(h2:i.kind≠2)(h3:i.kind≠3):AQ x roots d i=none:=by
 grind [AQ]
theorem aa(h:AQ x roots d i=none)(h2:i.kind≠2):FQ x roots d i=[]:=by grind [FQ]
theorem mK{t:List Tm}(h:AQ x roots d i=some t)(h2:i.kind≠2):FQ x roots d i=t:=by grind [FQ]
theorem iR{t:List Tm}(h:AQ x roots d i=some t):FQ x roots d i=t:=by
 grind [uR,OE,FQ]
theorem vf{l:List Tm}(h:l≠[]):OE l=some l:=by
 grind [OE]
end
theorem Qb{n:Int}(h:n<0):DN l n=none:=A3 h
theorem PZ{n:Int}(h:(l.length:Int)<=n):DN l n=none:=by
 grind [DN]
theorem P0{n:Int}(h0:¬n<0)(h:¬(l.length:Int)<=n):∃x,DN l n=some x/\l[n.toNat]?=some x/\x∈l:=by
 have hl:n.toNat<l.length:=by omega
 exact⟨l[n.toNat],by grind [DN],AW hl,Ah hl⟩
end Go.Eng
