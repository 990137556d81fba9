/- Lemmas for the claims of this seat, without a condition: part 28 (O14, O16, O17, S15, S1). -/
import Derived.Test.YtmcbkdbfaneofaaGreatDoorA27
set_option maxHeartbeats 4000000
namespace Go.Eng
open Go.Proofs
instance:DecidableEq Rq:=fun x y=>decidable_of_iff (x.path=y.path∧x.set=y.set) ⟨fun⟨h1,h2⟩=>by cases x;cases y;simp_all,fun h=>by subst h;exact Zr⟩
instance:DecidableEq Rl:=fun x y=>decidable_of_iff (x.path=y.path∧x.ver=y.ver∧x.reqs=y.reqs∧x.arch=y.arch∧x.ifc=y.ifc∧x.cert=y.cert∧x.yanked=y.yanked) ⟨fun⟨h1,h2,h3,h4,h5,h6,h7⟩=>by cases x;cases y;simp_all,fun h=>by subst h;exact⟨rfl,rfl,rfl,rfl,rfl,rfl,rfl⟩⟩
theorem tL{a b:Rq}(h1:a.path=b.path)(h2:a.set=b.set):a=b:=by cases a;cases b;simp_all
theorem nN{a b:Rl}(h1:a.path=b.path)(h2:a.ver=b.ver)(h3:a.arch=b.arch)(h4:a.ifc=b.ifc)(h5:a.cert=b.cert)(h6:a.yanked=b.yanked)(h7:a.reqs=b.reqs):a=b:=by cases a;cases b;simp_all
theorem kf{a b:Ver}(h:a.a=b.a∧a.b=b.b∧a.c=b.c∧True):a=b:=by cases a;cases b;simp_all
theorem qa{a b:Ver}(h:¬(a.a=b.a∧a.b=b.b∧a.c=b.c∧True)):a≠b:=fun e=>h (by subst e;exact⟨rfl,rfl,rfl,trivial⟩)
theorem Sy{α:Type}{a b:List α}(hl:a.length=b.length)(h:∀j (hj:j<a.length),a[j]=b[j]'(hl▸hj)):a=b:=List.ext_getElem hl fun j h1 _=>h j h1
theorem XK{α:Type}{a b:List α}{i:Nat}{ha:i<a.length}{hb:i<b.length}(h:a[i]≠b[i]):a≠b:=fun e=>by subst e;exact h rfl
theorem uK(a b:List Rq)(ha:Co a)(hs:∀q∈a,Co q.set):PC 69 [sl AN a,sl AN b] (vb (decide (a=b))):=by
 have rU:a.length≤1073741824:=ha;refine Ps ⟨[],[],[],[],[],[],[],[],[],[],[5,7]⟩ Tryz.func69 rfl (Nz rfl) ?_;refine Yi (fun h1=>?_) (fun h1=>?_)
 ·have h1:((a.map AN).length:Int)≠((b.map AN).length:Int):=h1;exact .of_eq (show vb false=vb (decide (a=b)) by rw[Aj (fun e=>absurd (Ab (fun z=>((z.map AN).length:Int)) e) h1)])
 have h1:((a.map AN).length:Int)=((b.map AN).length:Int):=Bj h1;have hl:a.length=b.length:=by have q:=h1;rw[Lm,Lm]at q;omega
 refine Xi {q:Nat // q≤a.length∧∀j (hj:j<a.length),j<q→a[j]=b[j]'(hl▸hj)} (Xi (fun q=>⟨[(0,sl AN a),(1,sl AN b),(5,vi q.1)],[],Aa⟩) (Xi (fun q=>a.length-q.1) (Yi (Xi ⟨0,AG _,fun _ _ h=>absurd h (Cu _)⟩ ?_) ?_)))
 ·exact⟨Z3,Tv,Fh,Tv⟩
 intro⟨i,i1,i2⟩;have i1:i≤a.length:=i1;have i2:∀j (hj:j<a.length),j<i→a[j]=b[j]'(hl▸hj):=i2;refine Yi (fun h3=>?_) (fun h3=>?_)
 ·have h3:(i:Int)<((a.map AN).length:Int):=h3;have n3:=H5 h3;have di:i<b.length:=by have q:=h3;rw[Lm]at q;omega
  refine Xi (AN a[i]) (Yi (Jp n3) (Yi rfl ?_));refine Xi (AN b[i]) (Yi (Jp di) (Yi rfl ?_));refine Yi (fun h5=>?_) (fun h5=>?_)
  ·have h5:(a[i].path:ByteArray)≠b[i].path:=h5;refine Yi (by kernel_rfl) ?_;refine Xi ⟨[],[],Aa⟩ (Yi ⟨Tv,Tv,Fh,Tv⟩ ?_)
   exact .of_eq (show vb false=vb (decide (a=b)) by rw[Aj (XK (i:=i) (ha:=n3) (hb:=di) (fun e=>h5 (Ab Rq.path e)))])
  have h5:(a[i].path:ByteArray)=b[i].path:=Bj h5;refine Xi (AN a[i]) (Yi (Jp n3) (Yi rfl ?_));refine Xi (AN b[i]) (Yi (Jp di) (Yi rfl ?_));refine Bq (Bt (decide (a[i].set=b[i].set))) (fun h7=>?_) (fun h7=>?_)
  ·have h7:(decide (a[i].set=b[i].set))=true:=h7;refine Xi _ (Yi (cb h7 (wk a[i].set b[i].set (hs _ (Ak n3)))) ?_);refine Yi (by kernel_rfl) ?_;refine Xi ⟨[(0,sl AN a),(1,sl AN b),(5,vi i)],[],Aa⟩ (Yi ⟨Z3,Tv,Fh,Tv⟩ ?_)
   refine Yi (Ii i (by omega)) ?_;refine Xi ⟨i+1,n3,fun j hj GA=>if e:j<i then i2 j hj e else by
     have e:j=i:=by omega
     subst e;exact tL h5 (BD h7)⟩ ?_
   exact⟨Dl a.length i (by omega),Z3,Tv,Fh,Tv⟩
  have h7:(decide (a[i].set=b[i].set))=false:=h7;refine Xi _ (Yi (cb h7 (wk a[i].set b[i].set (hs _ (Ak n3)))) ?_);refine Yi (by kernel_rfl) ?_;refine Xi ⟨[],[],Aa⟩ (Yi ⟨Tv,Tv,Fh,Tv⟩ ?_)
  exact .of_eq (show vb false=vb (decide (a=b)) by rw[Aj (XK (i:=i) (ha:=n3) (hb:=di) (fun e=>D2 h7 (Ab Rq.set e)))])
 have h3:¬((i:Int)<((a.map AN).length:Int)):=h3;have n3:=H4 h3;exact .of_eq (show vb true=vb (decide (a=b)) by rw[At (Sy hl fun j hj=>i2 j hj (by have q:=h3;rw[Lm]at q;omega))])
theorem o23(r s:Rl)(hr:Co r.reqs)(hs:∀q∈r.reqs,Co q.set):PC 23 [.agg (Ai r),.agg (Ai s)] (vb (decide (r=s))):=by
 refine Ps ⟨[2,3],[],[],[],[],[],[],[],[],[],[]⟩ Tryz.func23 rfl (Nz rfl) ?_;refine Yi (fun h1=>?_) (fun h1=>?_)
 ·have h1:(r.path:ByteArray)=s.path:=h1;refine Yi (Nz rfl) ?_;refine Yi (Nz rfl) ?_;refine Yi (fun h2=>?_) (fun h2=>?_)
  ·have h2:(r.ver.a:Int)=s.ver.a∧(r.ver.b:Int)=s.ver.b∧(r.ver.c:Int)=s.ver.c∧True:=h2;refine Yi (fun h3=>?_) (fun h3=>?_)
   ·have h3:(r.arch:ByteArray)=s.arch:=h3;refine Yi (fun h4=>?_) (fun h4=>?_)
    ·have h4:(r.ifc:ByteArray)=s.ifc:=h4;refine Yi (fun h5=>?_) (fun h5=>?_)
     ·have h5:(r.cert:ByteArray)=s.cert:=h5;refine Yi (fun h6=>?_) (fun h6=>?_)
      ·have h6:r.yanked=true:=h6;refine Yi (fun h7=>?_) (fun h7=>?_)
       ·have h7:s.yanked=true:=h7;refine Bq (Bt (decide (r.reqs=s.reqs))) (fun h8=>?_) (fun h8=>?_)
        ·have h8:(decide (r.reqs=s.reqs))=true:=h8;refine Xi .pure (Xi _ (Yi (cb h8 (uK r.reqs s.reqs hr hs)) ?_));exact .of_eq (show vb true=vb (decide (r=s)) by rw[At (nN h1 (kf h2) h3 h4 h5 (by rw[h6,h7]) (BD h8))])
        have h8:(decide (r.reqs=s.reqs))=false:=h8;refine Xi .pure (Xi _ (Yi (cb h8 (uK r.reqs s.reqs hr hs)) ?_));exact .of_eq (show vb false=vb (decide (r=s)) by rw[Aj (fun e=>D2 h8 (Ab Rl.reqs e))])
       have h7:s.yanked=false:=h7;exact .of_eq (show vb false=vb (decide (r=s)) by rw[Aj (fun e=>by have q:=Ab Rl.yanked e;rw[h6,h7]at q;cases q)])
      have h6:r.yanked=false:=h6;refine Yi (fun IZ=>?_) (fun IZ=>?_)
      ·have IZ:s.yanked=true:=IZ;exact .of_eq (show vb false=vb (decide (r=s)) by rw[Aj (fun e=>by have q:=Ab Rl.yanked e;rw[h6,IZ]at q;cases q)])
      have IZ:s.yanked=false:=IZ;refine Bq (Bt (decide (r.reqs=s.reqs))) (fun Yf=>?_) (fun Yf=>?_)
      ·have Yf:(decide (r.reqs=s.reqs))=true:=Yf;refine Xi .pure (Xi _ (Yi (cb Yf (uK r.reqs s.reqs hr hs)) ?_));exact .of_eq (show vb true=vb (decide (r=s)) by rw[At (nN h1 (kf h2) h3 h4 h5 (by rw[h6,IZ]) (BD Yf))])
      have Yf:(decide (r.reqs=s.reqs))=false:=Yf;refine Xi .pure (Xi _ (Yi (cb Yf (uK r.reqs s.reqs hr hs)) ?_));exact .of_eq (show vb false=vb (decide (r=s)) by rw[Aj (fun e=>D2 Yf (Ab Rl.reqs e))])
     have h5:¬(r.cert:ByteArray)=s.cert:=h5;exact .of_eq (show vb false=vb (decide (r=s)) by rw[Aj (fun e=>h5 (Ab Rl.cert e))])
    have h4:¬(r.ifc:ByteArray)=s.ifc:=h4;exact .of_eq (show vb false=vb (decide (r=s)) by rw[Aj (fun e=>h4 (Ab Rl.ifc e))])
   have h3:¬(r.arch:ByteArray)=s.arch:=h3;exact .of_eq (show vb false=vb (decide (r=s)) by rw[Aj (fun e=>h3 (Ab Rl.arch e))])
  have h2:¬((r.ver.a:Int)=s.ver.a∧(r.ver.b:Int)=s.ver.b∧(r.ver.c:Int)=s.ver.c∧True):=h2;exact .of_eq (show vb false=vb (decide (r=s)) by rw[Aj (fun e=>qa h2 (Ab Rl.ver e))])
 have h1:¬(r.path:ByteArray)=s.path:=h1;exact .of_eq (show vb false=vb (decide (r=s)) by rw[Aj (fun e=>h1 (Ab Rl.path e))])
theorem o15(a b:List Rl)(ha:Co a)(hr:∀r∈a,Co r.reqs∧∀q∈r.reqs,Co q.set):PC 15 [sl Ai a,sl Ai b] (vb (decide (a=b))):=by
 have rU:a.length≤1073741824:=ha;refine Ps ⟨[],[],[],[],[],[],[],[],[],[],[5,7]⟩ Tryz.func15 rfl (Nz rfl) ?_;refine Yi (fun h1=>?_) (fun h1=>?_)
 ·have h1:((a.map Ai).length:Int)≠((b.map Ai).length:Int):=h1;exact .of_eq (show vb false=vb (decide (a=b)) by rw[Aj (fun e=>absurd (Ab (fun z=>((z.map Ai).length:Int)) e) h1)])
 have h1:((a.map Ai).length:Int)=((b.map Ai).length:Int):=Bj h1;have hl:a.length=b.length:=by have q:=h1;rw[Lm,Lm]at q;omega
 refine Xi {q:Nat // q≤a.length∧∀j (hj:j<a.length),j<q→a[j]=b[j]'(hl▸hj)} (Xi (fun q=>⟨[(0,sl Ai a),(1,sl Ai b),(5,vi q.1)],[],Aa⟩) (Xi (fun q=>a.length-q.1) (Yi (Xi ⟨0,AG _,fun _ _ h=>absurd h (Cu _)⟩ ?_) ?_)))
 ·exact⟨Z3,Tv,Fh,Tv⟩
 intro⟨i,i1,i2⟩;have i1:i≤a.length:=i1;have i2:∀j (hj:j<a.length),j<i→a[j]=b[j]'(hl▸hj):=i2;refine Yi (fun h3=>?_) (fun h3=>?_)
 ·have h3:(i:Int)<((a.map Ai).length:Int):=h3;have n3:=H5 h3;have di:i<b.length:=by have q:=h3;rw[Lm]at q;omega
  refine Xi (Ai a[i]) (Yi (Jp n3) (Yi rfl ?_));refine Yi (Nz rfl) ?_;refine Xi (Ai b[i]) (Yi (Jp di) (Yi rfl ?_));refine Yi (Nz rfl) ?_;refine Bq (Bt (decide (a[i]=b[i]))) (fun h4=>?_) (fun h4=>?_)
  ·have h4:(decide (a[i]=b[i]))=true:=h4;refine Xi _ (Yi (cb h4 (o23 a[i] b[i] (hr _ (Ak n3)).1 (hr _ (Ak n3)).2)) ?_);refine Yi (by kernel_rfl) ?_;refine Xi ⟨[(0,sl Ai a),(1,sl Ai b),(5,vi i)],[],Aa⟩ (Yi ⟨Z3,Tv,Fh,Tv⟩ ?_)
   refine Yi (Ii i (by omega)) ?_;refine Xi ⟨i+1,n3,fun j hj GA=>if e:j<i then i2 j hj e else by
     have e:j=i:=by omega
     subst e;exact BD h4⟩ ?_
   exact⟨Dl a.length i (by omega),Z3,Tv,Fh,Tv⟩
  have h4:(decide (a[i]=b[i]))=false:=h4;refine Xi _ (Yi (cb h4 (o23 a[i] b[i] (hr _ (Ak n3)).1 (hr _ (Ak n3)).2)) ?_);refine Yi (by kernel_rfl) ?_;refine Xi ⟨[],[],Aa⟩ (Yi ⟨Tv,Tv,Fh,Tv⟩ ?_)
  exact .of_eq (show vb false=vb (decide (a=b)) by rw[Aj (XK (i:=i) (ha:=n3) (hb:=di) (D2 h4))])
 have h3:¬((i:Int)<((a.map Ai).length:Int)):=h3;have n3:=H4 h3;exact .of_eq (show vb true=vb (decide (a=b)) by rw[At (Sy hl fun j hj=>i2 j hj (by have q:=h3;rw[Lm]at q;omega))])
theorem uJ(a b:List Sl)(ha:Co a):PC 65 [sl Ae a,sl Ae b] (vb (decide (a=b))):=by
 have rU:a.length≤1073741824:=ha;refine Ps ⟨[],[],[],[],[],[],[],[],[],[],[5,7]⟩ Tryz.func65 rfl (Nz rfl) ?_;refine Yi (fun h1=>?_) (fun h1=>?_)
 ·have h1:((a.map Ae).length:Int)≠((b.map Ae).length:Int):=h1;exact .of_eq (show vb false=vb (decide (a=b)) by rw[Aj (fun e=>absurd (Ab (fun z=>((z.map Ae).length:Int)) e) h1)])
 have h1:((a.map Ae).length:Int)=((b.map Ae).length:Int):=Bj h1;have hl:a.length=b.length:=by have q:=h1;rw[Lm,Lm]at q;omega
 refine Xi {q:Nat // q≤a.length∧∀j (hj:j<a.length),j<q→a[j]=b[j]'(hl▸hj)} (Xi (fun q=>⟨[(0,sl Ae a),(1,sl Ae b),(5,vi q.1)],[],Aa⟩) (Xi (fun q=>a.length-q.1) (Yi (Xi ⟨0,AG _,fun _ _ h=>absurd h (Cu _)⟩ ?_) ?_)))
 ·exact⟨Z3,Tv,Fh,Tv⟩
 intro⟨i,i1,i2⟩;have i1:i≤a.length:=i1;have i2:∀j (hj:j<a.length),j<i→a[j]=b[j]'(hl▸hj):=i2;refine Yi (fun h3=>?_) (fun h3=>?_)
 ·have h3:(i:Int)<((a.map Ae).length:Int):=h3;have n3:=H5 h3;have di:i<b.length:=by have q:=h3;rw[Lm]at q;omega
  refine Xi (Ae a[i]) (Yi (Jp n3) (Yi rfl ?_));refine Yi (Nz rfl) ?_;refine Xi (Ae b[i]) (Yi (Jp di) (Yi rfl ?_));refine Yi (Nz rfl) ?_;refine Yi (fun h4=>?_) (fun h4=>?_)
  ·have h4:(a[i].path:ByteArray)=b[i].path∧(a[i].ver.a:Int)=b[i].ver.a∧(a[i].ver.b:Int)=b[i].ver.b∧(a[i].ver.c:Int)=b[i].ver.c∧True:=h4;refine Yi (by kernel_rfl) ?_;refine Xi ⟨[(0,sl Ae a),(1,sl Ae b),(5,vi i)],[],Aa⟩ (Yi ⟨Z3,Tv,Fh,Tv⟩ ?_)
   refine Yi (Ii i (by omega)) ?_;refine Xi ⟨i+1,n3,fun j hj GA=>if e:j<i then i2 j hj e else by
     have e:j=i:=by omega
     subst e;exact ci h4⟩ ?_
   exact⟨Dl a.length i (by omega),Z3,Tv,Fh,Tv⟩
  have h4:¬((a[i].path:ByteArray)=b[i].path∧(a[i].ver.a:Int)=b[i].ver.a∧(a[i].ver.b:Int)=b[i].ver.b∧(a[i].ver.c:Int)=b[i].ver.c∧True):=h4;refine Yi (by kernel_rfl) ?_;refine Xi ⟨[],[],Aa⟩ (Yi ⟨Tv,Tv,Fh,Tv⟩ ?_)
  exact .of_eq (show vb false=vb (decide (a=b)) by rw[Aj (XK (i:=i) (ha:=n3) (hb:=di) (jQ h4))])
 have h3:¬((i:Int)<((a.map Ae).length:Int)):=h3;have n3:=H4 h3;exact .of_eq (show vb true=vb (decide (a=b)) by rw[At (Sy hl fun j hj=>i2 j hj (by have q:=h3;rw[Lm]at q;omega))])
def MM(a b:Wk):Bool:=decide (a.rep=b.rep)&&decide (a.exc=b.exc)&&decide (a.pin=b.pin)
theorem Ux(a:Wk):MM a a=true:=by unfold MM;simp
abbrev aV(l:List Rl):Prop:=∀r∈l,Co r.reqs∧∀q∈r.reqs,Co q.set
theorem o19(a b:Wk)(hA:SH a)(hr:aV a.rep):PC 19 [.agg (Bc a),.agg (Bc b)] (vb (MM a b)):=by
 refine Ps ⟨[2,3],[],[],[],[],[],[],[],[],[],[]⟩ Tryz.func19 rfl (Nz rfl) ?_;refine Bq (Bt (decide (a.rep=b.rep))) (fun h1=>?_) (fun h1=>?_)
 ·have h1:(decide (a.rep=b.rep))=true:=h1;refine Xi .pure (Xi _ (Yi (cb h1 (o15 a.rep b.rep hA.reps hr)) ?_));refine Bq (Bt (decide (a.exc=b.exc))) (fun h2=>?_) (fun h2=>?_)
  ·have h2:(decide (a.exc=b.exc))=true:=h2;refine Xi .pure (Xi _ (Yi (cb h2 (uJ a.exc b.exc hA.exc)) ?_));refine Bq (Bt (decide (a.pin=b.pin))) (fun h3=>?_) (fun h3=>?_)
   ·have h3:(decide (a.pin=b.pin))=true:=h3;refine Xi .pure (Xi _ (Yi (cb h3 (uJ a.pin b.pin hA.pin)) ?_));exact .of_eq (show vb true=vb (MM a b) by unfold MM;rw[h1,h2,h3];rfl)
   have h3:(decide (a.pin=b.pin))=false:=h3;refine Xi .pure (Xi _ (Yi (cb h3 (uJ a.pin b.pin hA.pin)) ?_));exact .of_eq (show vb false=vb (MM a b) by unfold MM;rw[h1,h2,h3];simp)
  have h2:(decide (a.exc=b.exc))=false:=h2;refine Xi .pure (Xi _ (Yi (cb h2 (uJ a.exc b.exc hA.exc)) ?_));exact .of_eq (show vb false=vb (MM a b) by unfold MM;rw[h1,h2];simp)
 have h1:(decide (a.rep=b.rep))=false:=h1;refine Xi .pure (Xi _ (Yi (cb h1 (o15 a.rep b.rep hA.reps hr)) ?_));exact .of_eq (show vb false=vb (MM a b) by unfold MM;rw[h1];simp)
structure Mv where
 path:ByteArray
 a:Int
 b:Int
abbrev E3(m:Mv):List AV:=[vs m.path,vi m.a,vi m.b]
abbrev plP(s:Sl):Value×AV:=(.string s.path,vi (place s.ver))
abbrev JT(l:List Sl):List (Value×AV):=l.map plP
def Qb(l:List Sl)(p:ByteArray):Int:=match Cn l p with | some s=>place s.ver | none=>-1
def Xc(l m:List Sl)(p:ByteArray):Option Mv:=if Qb l p≠Qb m p then some ⟨p,Qb l p,Qb m p⟩else none
abbrev MD(l m:List Sl)(ps:List ByteArray):List Mv:=ps.filterMap (Xc l m)
structure OL(l:List Sl):Prop where
 few:Co l
 val:∀s∈l,Cy s.ver=true
 inc:l.Pairwise lW
theorem OL.step{l:List Sl}(h:OL l){i:Nat}(hi:i<l.length)(h0:0<i):EM (l[i-1]'(by omega)).path l[i].path=true:=(A7.1 h.inc) (i-1) i (by omega) hi (by omega)
theorem jx{l:List Sl}(h:OL l){i:Nat}(hi:i<l.length):∀b,(Value.string l[i].path,b)∉JT (l.take i):=fun b hb=>by
 obtain⟨s,hs,e⟩:=Ar.1 hb;obtain⟨j,hj,rfl⟩:=BR.1 hs;rw[ES]at e;rw[AC]at hj;have q:=(A7.1 h.inc) j i (by omega) hi (by omega);have e2:l[j].path=l[i].path:=by injection e with e1;injection e1
 rw[lW,e2,CW]at q;cases q
theorem pP{l:List Sl}(h:OL l){p:ByteArray}{a:AV}(ha:(Value.string p,a)∈JT l):a=vi (Qb l p):=by
 obtain⟨s,hs,e⟩:=Ar.1 ha;have e1:s.path=p:=by injection e with e1;injection e1
 have e2:vi (place s.ver)=a:=by injection e
 rw[←e2];unfold Qb;rw[←e1,N3 (dB uM h.inc) hs]
theorem pQ{l:List Sl}{p:ByteArray}(h:∀a,(Value.string p,a)∉JT l):Qb l p=-1:=by
 unfold Qb;rw[show Cn l p=none from D0.2 fun s hs e=>h _ (Ar.2 ⟨s,hs,by rw[←BD e]⟩)]
theorem bM{l m:List Sl}{ps:List ByteArray}{k:Nat}(h:k<ps.length):MD l m (ps.take (k+1))=MD l m (ps.take k)++(Xc l m ps[k]).toList:=by
 unfold MD;rw[Lh h,List.filterMap_append]
 congr 1
theorem tc(l:List Sl)(hl:OL l):Bm Tryz.prog 101 [sl Ae l] (Aq [] Aa) fun r h'=>r=.tup [.mref 2000,vb true]∧h'=Aq [(2000,.map Dm (JT l))] Aa:=by
 have hfl:l.length≤1073741824:=hl.few;refine Ct (MZ ⟨[],[],[],[],[],[],[],[],[],[],[6,7,8]⟩) [(9,2000)] rfl CY hm rfl Tryz.func101 (by kernel_rfl) rfl (Nz rfl) (by kernel_rfl) rfl ?_;refine Xi {q:Nat // q≤l.length} (Xi (fun q=>⟨[(0,sl Ae l),(4,.mref 9),(10,sl Ae l),(11,vi (l.map Ae).length),(12,vi q.1)],[(9,.map Dm (JT (l.take q.1)))],Aa⟩) (Xi (fun q=>l.length-q.1) (Yi (Xi ⟨0,AG _⟩ ?_) ?_)))
 ·exact⟨Z5,Z1,Fh,AD (by kernel_rfl)⟩
 intro⟨i,i1⟩;have i1:i≤l.length:=i1;refine Yi (fun h1=>?_) (fun h1=>?_)
 ·have h1:(i:Int)<((l.map Ae).length:Int):=h1;have n1:=H5 h1;refine Xi (Ae l[i]) (Yi (Jp n1) (Yi rfl ?_));refine Yi (Nz rfl) ?_;refine Yi (Nz rfl) ?_;refine Yi (Nz rfl) ?_;refine Xi .pure (Xi _ (Yi (by have q:=t8 l[i].ver;rw[Ax (hl.val _ (Ak n1)),Ax (hl.val _ (Ak n1))]at q;exact q) ?_));refine Xi ⟨[(0,sl Ae l),(4,.mref 9),(5,vi i),(6,.ref 6 0),(7,vi (place l[i].ver)),(8,vi 0),(10,sl Ae l),(11,vi (l.map Ae).length),(12,vi i)],[(6,.cells (Ae l[i])),(9,.map Dm (JT (l.take i)))],Aa⟩ (Yi ⟨Z9,Z2,Fh,AD (by kernel_rfl)⟩ ?_)
  refine Yi (fun h=>absurd h (by decide)) (fun _=>?_);refine Yi (fun h2=>?_) (fun h2=>?_)
  ·have h2:(0:Int)<(i:Int):=h2;refine Yi (by show Bu ((i:Int)-(1:Int));unfold Bu;omega) ?_;have ig:0<i:=by omega
   refine Xi (Ae (l[i-1])) (Yi (Yi (show(0:Int)≤(i:Int)-1 by omega) (by rw[show((i:Int)-1).toNat=i-1 by omega];exact B4 (Ge (by omega)))) (Yi rfl ?_));refine Yi (fun h3=>?_) (fun h3=>?_)
   ·have h3:EM (l[i-1]).path l[i].path=false:=(E0 _ _).trans h3;exact absurd (hl.step n1 ig) (by rw[h3];decide)
   have h3:EM (l[i-1]).path l[i].path=true:=(E0 _ _).trans (by simpa using h3);refine Yi (by kernel_rfl) ?_;refine Xi ⟨[(0,sl Ae l),(4,.mref 9),(6,.ref 6 0),(7,vi (place l[i].ver)),(10,sl Ae l),(11,vi (l.map Ae).length),(12,vi i)],[(6,.cells (Ae l[i])),(9,.map Dm (JT (l.take i)))],Aa⟩ (Yi ⟨Z7,Z2,Fh,AD (by kernel_rfl)⟩ ?_)
   refine Yi (Ii i (by omega)) ?_;refine Xi ⟨i+1,n1⟩ ?_;exact⟨Dl l.length i (by omega),Z5,⟨⟨(show HO.map Dm (E7 (JT (l.take i)) (.string l[i].path) (vi (place l[i].ver)))=.map Dm (JT (l.take (i+1))) by rw[K3 (jx hl n1),Lh n1];unfold JT;rw[AH];rfl),rfl⟩,Tv⟩,Fh,AD (by kernel_rfl)⟩
  have h2:¬((0:Int)<(i:Int)):=h2;refine Yi (by kernel_rfl) ?_;refine Xi ⟨[(0,sl Ae l),(4,.mref 9),(6,.ref 6 0),(7,vi (place l[i].ver)),(10,sl Ae l),(11,vi (l.map Ae).length),(12,vi i)],[(6,.cells (Ae l[i])),(9,.map Dm (JT (l.take i)))],Aa⟩ (Yi ⟨Z7,Z2,Fh,AD (by kernel_rfl)⟩ ?_)
  refine Yi (Ii i (by omega)) ?_;refine Xi ⟨i+1,n1⟩ ?_;exact⟨Dl l.length i (by omega),Z5,⟨⟨(show HO.map Dm (E7 (JT (l.take i)) (.string l[i].path) (vi (place l[i].ver)))=.map Dm (JT (l.take (i+1))) by rw[K3 (jx hl n1),Lh n1];unfold JT;rw[AH];rfl),rfl⟩,Tv⟩,Fh,AD (by kernel_rfl)⟩
 have h1:¬((i:Int)<((l.map Ae).length:Int)):=h1;have n1:=H4 h1;have ei:l.take i=l:=AJ (by have q:=h1;rw[Lm]at q;omega);exact Xi _ (Yi (.refl _) ⟨rfl,show Aq [(2000,HO.map Dm (JT (l.take i)))] Aa=Aq [(2000,.map Dm (JT l))] Aa by rw[ei]⟩)
theorem td(l:List Sl)(p:ByteArray)(hl:OL l):PC 103 [.cmap Dm (JT l),vs p] (vi (Qb l p)):=by
 refine Ps ⟨[],[],[],[],[],[],[],[],[],[],[4]⟩ Tryz.func103 rfl (Nz rfl) ?_;refine Yi (fun a ha=>?_) (fun Sc=>?_)
 ·have ea:=pP hl ha;subst ea;exact .refl _
 refine Xi ⟨[],[],Aa⟩ (Yi ⟨Tv,Tv,Fh,Tv⟩ ?_)
 exact .of_eq (show vi (-1)=vi (Qb l p) by rw[pQ Sc])
theorem o75(l m:List Sl)(t:List ByteArray)(hl:OL l)(zQ:OL m)(hfs:l.length+m.length≤1073741824)(DL:l++m≠[])(hp:t.Perm ((l++m).map (·.path)))(ht:(t.map bc).Pairwise fun a b=>a≤b):PC 75 [sl Ae l,sl Ae m] (.tup [sl E3 (MD l m (Cg t)),vi 0]):=by
 obtain⟨LM,oW⟩:∃LM,LM=l++m:=⟨_,rfl⟩;have hm:=zQ;rw[←oW]at hp;have zr:LM.length=l.length+m.length:=by rw[oW,Ad]
 have um:l.length≤1073741824:=hl.few;have nq:m.length≤1073741824:=zQ.few;refine Gq (fo ⟨[],[(14,3)],[(10,1)],[(34,[12000,12500])],[],[],[],[],[],[],[3,6,7,8,9,11,13,14,15,16,17,18,19,21]⟩) rfl CY Go.Eng.hm rfl Tryz.func75 (by kernel_rfl) rfl (Nz rfl) (by kernel_rfl) ?_;refine Xi (.gen [] 1) (Yi rfl (Bm.to2 (tc l hl) ?_));refine Xi (.gen [] 1) (Yi rfl (Bm.to2 (tc m hm) ?_));refine Xi ⟨[(0,sl Ae l),(1,sl Ae m),(6,.mref 12000),(7,vb true),(8,.mref 12500),(9,vb true)],[(12000,.map Dm (JT l)),(12500,.map Dm (JT m))],Aa⟩ (Yi ⟨Z6,Z2,Fh,Tv⟩ ?_)
 refine Xi ⟨[(0,sl Ae l),(1,sl Ae m),(6,.mref 12000),(8,.mref 12500),(10,.msl 10 0)],[(10,.arr 1 []),(12000,.map Dm (JT l)),(12500,.map Dm (JT m))],Aa⟩ (Yi ⟨Z5,Z3,Fh,Tv⟩ ?_)
 refine Xi (.gen [] 1) (Yi rfl (Bm.to2 (rt l hl.few) ?_));have b4:CT 4 (m.map Ae)∧(l.map Ae).length=(l.map Ae).length∧((l.map Ae).length+(m.map Ae).length)*40≤140737488355328∧(l.map Ae).length+(m.map Ae).length≤9223372036854775807:=⟨(Ea (enc:=Ae) (n:=4) (fun _=>rfl) m),rfl,(by simp only[Lm];omega),(by simp only[Lm];omega)⟩;refine Yi b4 ?_;refine Xi {q:Nat×List ByteArray // q.1≤LM.length∧q.2=(LM.take q.1).map (·.path)} (Xi (fun q=>⟨[(6,.mref 12000),(8,.mref 12500),(10,.msl 10 q.1.2.length),(37,.slice (.id 13500 4) (LM.map Ae)),(38,vi (LM.length:Nat)),(39,vi q.1.1)],[(10,.arr 1 (q.1.2.map Dw)),(12000,.rom Dm (JT l)),(12500,.rom Dm (JT m)),(13500,.tok 4 LM.length)],Aa⟩) (Xi (fun q=>LM.length-q.1.1) (Yi (Xi ⟨(0,[]),AG _,rfl⟩ ?_) ?_)))
 ·exact⟨⟨Zr,Zr,Zr,⟨(show AV.slice (.id 13500 4) (l.map Ae++m.map Ae)=.slice (.id 13500 4) (LM.map Ae) by rw[oW,AH]),rfl⟩,⟨(show vi ((l.map Ae++m.map Ae:List (List AV)).length:Int)=vi ((LM.length:Nat):Int) by rw[oW,Ad,Ad,Lm,Lm]),rfl⟩,Zr,Tv⟩,⟨Zr,Zr,Zr,⟨(show HO.tok 4 ((l.map Ae).length+(m.map Ae).length)=.tok 4 LM.length by rw[oW,Ad,Lm,Lm]),rfl⟩,Tv⟩,Fh,Tv⟩
 intro⟨⟨i,P⟩,i1,i2⟩;have i1:i≤LM.length:=i1;have i2:P=(LM.take i).map (·.path):=i2;have i3:P.length≤i:=by rw[i2,Lm,AC];omega
 refine Xi ⟨[(6,.mref 12000),(8,.mref 12500),(10,.msl 10 P.length),(37,.slice (.id 13500 4) (LM.map Ae)),(38,vi (LM.length:Nat)),(39,vi i)],[(10,.arr 1 (P.map Dw)),(12000,.rom Dm (JT l)),(12500,.rom Dm (JT m)),(13500,.tok 4 LM.length)],Aa⟩ (Yi ⟨Z6,Z4,Fh,Tv⟩ ?_)
 refine Yi (fun h5=>?_) (fun h5=>?_)
 ·have h5:(i:Int)<((LM.length:Nat):Int):=h5;have n5:i<LM.length:=by omega
  refine Xi ⟨[(6,.mref 12000),(8,.mref 12500),(10,.msl 10 P.length),(37,.slice (.id 13500 4) (LM.map Ae)),(38,vi (LM.length:Nat)),(39,vi i)],[(10,.arr 1 (P.map Dw)),(12000,.rom Dm (JT l)),(12500,.rom Dm (JT m)),(13500,.tok 4 LM.length)],Aa⟩ (Yi ⟨Z6,Z4,Fh,Tv⟩ ?_)
  refine Xi (Ae LM[i]) (Yi (Jp n5) (Yi rfl ?_));refine Yi (Nz rfl) ?_;refine Yi (Nz rfl) ?_;refine Xi ⟨[(6,.mref 12000),(8,.mref 12500),(10,.msl 10 P.length),(12,.ref 12 0),(37,.slice (.id 13500 4) (LM.map Ae)),(38,vi (LM.length:Nat)),(39,vi i)],[(10,.arr 1 (P.map Dw)),(12,.cells (Ae LM[i])),(12000,.rom Dm (JT l)),(12500,.rom Dm (JT m)),(13500,.tok 4 LM.length)],Aa⟩ (Yi ⟨Z7,Z5,Fh,Tv⟩ ?_)
  have b6:CT 1 [[vs LM[i].path]]∧(P.map Dw).length=P.length∧((P.map Dw).length+([[vs LM[i].path]]:List (List AV)).length)*16≤140737488355328∧(P.map Dw).length+([[vs LM[i].path]]:List (List AV)).length≤9223372036854775807:=⟨⟨rfl,trivial⟩,(by rw[Lm]),(by simp only[Lm,Au,Ay];omega),(by simp only[Lm,Au,Ay];omega)⟩;refine Yi b6 ?_;refine Yi (Ii i (by omega)) ?_;refine Xi ⟨(i+1,P++[LM[i].path]),n5,by show P++[LM[i].path]=_;rw[Lh n5,AH,i2];rfl⟩ ?_;exact⟨Dl LM.length i (by omega),⟨Zr,Zr,⟨(show AV.msl 10 ((P.map Dw).length+([[vs LM[i].path]]:List (List AV)).length)=.msl 10 (P++[LM[i].path]).length by rw[Ad,Lm];rfl),rfl⟩,Zr,Zr,Zr,Tv⟩,⟨⟨(show HO.arr 1 (P.map Dw++[[vs LM[i].path]])=.arr 1 ((P++[LM[i].path]).map Dw) by rw[AH];rfl),rfl⟩,Zr,Zr,Zr,Tv⟩,Fh,Tv⟩
 have h5:¬((i:Int)<((LM.length:Nat):Int)):=h5;have uf:P=LM.map (·.path):=by rw[i2,AJ (by have q:=h5;omega)]
 have zt:Co P:=by unfold Co;rw[uf,Lm,oW,Ad];exact hfs
 have zu:P≠[]:=fun e=>by rw[uf]at e;exact DL (by rw[←oW];exact DC.1 e)
 have wD:t.length=P.length:=by rw[uf];exact hp.length_eq
 have lJ:t.length≤1073741824:=by rw[wD];exact zt
 have xw:t≠[]:=fun e=>zu (Az (by rw[←wD,e];rfl));have hcl:(Cg t).length≤t.length:=by unfold Cg;rw[Lm];exact A3 (Rt _) (by rw[Lm];exact Al _)
 refine Xi ⟨[(6,.mref 12000),(8,.mref 12500),(10,.msl 10 P.length)],[(10,.arr 1 (P.map Dw)),(12000,.rom Dm (JT l)),(12500,.rom Dm (JT m))],Aa⟩ (Yi ⟨Z3,Z3,Fh,Tv⟩ ?_)
 refine Xi (.gen [(10,1000)] 0) (Yi rfl (Bm.to2 (xK P t zt zu (by rw[uf];exact hp) ht) ?_));refine Xi ⟨[(6,.mref 12000),(8,.mref 12500),(10,.msl 10 P.length),(13,.v (.func (.func 103) #[] #[]))],[(10,.arr 1 (t.map Dw)),(12000,.rom Dm (JT l)),(12500,.rom Dm (JT m))],Aa⟩ (Yi ⟨Z4,Z3,Fh,Tv⟩ ?_)
 refine Xi ⟨[(6,.mref 12000),(8,.mref 12500),(10,.msl 10 t.length),(13,.v (.func (.func 103) #[] #[])),(14,.slice (.id 14 3) [])],[(10,.arr 1 (t.map Dw)),(14,.tok 3 0),(12000,.rom Dm (JT l)),(12500,.rom Dm (JT m))],Aa⟩ (Yi ⟨⟨Zr,Zr,⟨(Ab (AV.msl 10) wD.symm),rfl⟩,Zr,Zr,Tv⟩,Z4,Fh,Tv⟩ ?_)
 refine Xi (.gen [(10,1000)] 1) (Yi rfl (Bm.to2 (xL t (by unfold Co;omega) xw) ?_));refine Xi {q:Nat×List Mv // q.1≤(Cg t).length∧q.2=MD l m ((Cg t).take q.1)} (Xi (fun q=>⟨[(6,.mref 12000),(8,.mref 12500),(13,.v (.func (.func 103) #[] #[])),(14,.slice (.id 14 3) (q.1.2.map E3)),(52,.msl 15200 (Cg t).length),(53,vi (Cg t).length),(54,vi q.1.1)],[(14,.tok 3 q.1.2.length),(12000,.rom Dm (JT l)),(12500,.rom Dm (JT m)),(15200,.arr 1 ((Cg t).map Dw))],Aa⟩) (Xi (fun q=>(Cg t).length-q.1.1) (Yi (Xi ⟨(0,[]),AG _,rfl⟩ ?_) ?_)))
 ·exact⟨Z7,Z4,Fh,Tv⟩
 intro⟨⟨k,O⟩,k1,k2⟩;have k1:k≤(Cg t).length:=k1;have k2:O=MD l m ((Cg t).take k):=k2;have k3:O.length≤k:=by rw[k2];exact A3 (List.length_filterMap_le ..) (by rw[AC];omega)
 refine Xi ⟨[(6,.mref 12000),(8,.mref 12500),(13,.v (.func (.func 103) #[] #[])),(14,.slice (.id 14 3) (O.map E3)),(52,.msl 15200 (Cg t).length),(53,vi (Cg t).length),(54,vi k)],[(14,.tok 3 O.length),(12000,.rom Dm (JT l)),(12500,.rom Dm (JT m)),(15200,.arr 1 ((Cg t).map Dw))],Aa⟩ (Yi ⟨Z7,Z4,Fh,Tv⟩ ?_)
 refine Yi (fun M3=>?_) (fun M3=>?_)
 ·have M3:(k:Int)<((Cg t).length:Int):=M3;have nb:k<(Cg t).length:=by omega
  have n10:=nb;have gb:(Cg t)[k]?=some (Cg t)[k]:=Ge nb;refine Xi ⟨[(6,.mref 12000),(8,.mref 12500),(13,.v (.func (.func 103) #[] #[])),(14,.slice (.id 14 3) (O.map E3)),(52,.msl 15200 (Cg t).length),(53,vi (Cg t).length),(54,vi k)],[(14,.tok 3 O.length),(12000,.rom Dm (JT l)),(12500,.rom Dm (JT m)),(15200,.arr 1 ((Cg t).map Dw))],Aa⟩ (Yi ⟨Z7,Z4,Fh,Tv⟩ ?_)
  refine Yi (by show(0:Int)≤k∧(k:Int)<((Cg t).length:Nat);omega) ?_;refine Yi (show(Cg t).length=((Cg t).map Dw).length by rw[Lm]) (Xi (Dw ((Cg t)[k])) (Yi (B4 gb) ?_));refine Xi ⟨[(6,.mref 12000),(8,.mref 12500),(13,.v (.func (.func 103) #[] #[])),(14,.slice (.id 14 3) (O.map E3)),(16,vs ((Cg t)[k])),(52,.msl 15200 (Cg t).length),(53,vi (Cg t).length),(54,vi k)],[(14,.tok 3 O.length),(12000,.rom Dm (JT l)),(12500,.rom Dm (JT m)),(15200,.arr 1 ((Cg t).map Dw))],Aa⟩ (Yi ⟨Z8,Z4,Fh,Tv⟩ ?_)
  refine Xi .pure (Xi _ (Yi (td l (Cg t)[k] hl) ?_));refine Xi .pure (Xi _ (Yi (td m (Cg t)[k] hm) ?_));refine Yi (Nz rfl) ?_;refine Xi ⟨[(6,.mref 12000),(8,.mref 12500),(13,.v (.func (.func 103) #[] #[])),(14,.slice (.id 14 3) (O.map E3)),(17,.ref 17 0),(52,.msl 15200 (Cg t).length),(53,vi (Cg t).length),(54,vi k)],[(14,.tok 3 O.length),(17,.cells [vs ((Cg t)[k]),vi (Qb l (Cg t)[k]),vi (Qb m (Cg t)[k])]),(12000,.rom Dm (JT l)),(12500,.rom Dm (JT m)),(15200,.arr 1 ((Cg t).map Dw))],Aa⟩ (Yi ⟨Z8,Z5,Fh,Tv⟩ ?_)
  refine Yi (fun J3=>?_) (fun J3=>?_)
  ·have J3:((Qb l (Cg t)[k]):Int)≠((Qb m (Cg t)[k]):Int):=J3;refine Xi ⟨[(6,.mref 12000),(8,.mref 12500),(13,.v (.func (.func 103) #[] #[])),(14,.slice (.id 14 3) (O.map E3)),(17,.ref 17 0),(52,.msl 15200 (Cg t).length),(53,vi (Cg t).length),(54,vi k)],[(14,.tok 3 O.length),(17,.cells [vs ((Cg t)[k]),vi (Qb l (Cg t)[k]),vi (Qb m (Cg t)[k])]),(12000,.rom Dm (JT l)),(12500,.rom Dm (JT m)),(15200,.arr 1 ((Cg t).map Dw))],Aa⟩ (Yi ⟨Z8,Z5,Fh,Tv⟩ ?_)
   refine Yi (Nz rfl) ?_;refine Yi (Md rfl (by omega) (by decide)) ?_;refine Yi (Ii k (by omega)) ?_;have eO:=bM (l:=l) (m:=m) n10;have eM:Xc l m (Cg t)[k]=some ⟨(Cg t)[k],(Qb l (Cg t)[k]),(Qb m (Cg t)[k])⟩:=Ax J3;rw[eM]at eO;refine Xi ⟨(k+1,(O++[(⟨(Cg t)[k],(Qb l (Cg t)[k]),(Qb m (Cg t)[k])⟩:Mv)])),n10,by show(O++[(⟨(Cg t)[k],(Qb l (Cg t)[k]),(Qb m (Cg t)[k])⟩:Mv)])=_;rw[eO,k2];rfl⟩ ?_;exact⟨by show(Cg t).length-(k+1)<(Cg t).length-k;omega,⟨Zr,Zr,Zr,⟨(show AV.slice (.id 14 3) (O.map E3++[[vs (Cg t)[k],vi (Qb l (Cg t)[k]),vi (Qb m (Cg t)[k])]])=.slice (.id 14 3) ((O++[(⟨(Cg t)[k],(Qb l (Cg t)[k]),(Qb m (Cg t)[k])⟩:Mv)]).map E3) by rw[AH];rfl),rfl⟩,Zr,Zr,Zr,Tv⟩,⟨⟨PZ,rfl⟩,Zr,Zr,Zr,Tv⟩,Fh,Tv⟩
  have J3:((Qb l (Cg t)[k]):Int)=((Qb m (Cg t)[k]):Int):=Bj J3;refine Yi (Ii k (by omega)) ?_;have eO:=bM (l:=l) (m:=m) n10;have eM:Xc l m (Cg t)[k]=none:=Ao (fun c=>c J3);rw[eM]at eO;rw[show(none:Option Mv).toList=[]from rfl,BE]at eO;refine Xi ⟨(k+1,O),n10,by show O=_;rw[eO,k2]⟩ ?_;exact⟨by show(Cg t).length-(k+1)<(Cg t).length-k;omega,Z7,Z4,Fh,Tv⟩
 have M3:¬((k:Int)<((Cg t).length:Int)):=M3;refine Xi ⟨[(14,.slice (.id 14 3) (O.map E3))],[(14,.tok 3 O.length)],Aa⟩ (Yi ⟨Z1,Z1,Fh,Tv⟩ ?_)
 have ek:(Cg t).take k=Cg t:=AJ (by omega);have eO:O=MD l m (Cg t):=by rw[k2,ek]
 exact .of_eq (Ab (fun z=>AV.tup [sl E3 z,vi 0]) eO)
def Gj(w:Wk):Bool:=w.exc.all (fun s=>decide (s.path.size≤100))&&w.pin.all (fun s=>decide (s.path.size≤100))&&(JX w.rep 8&&decide (w.exc.length≤12)&&decide (w.pin.length≤8))
theorem fM{l:List Sl}{i:Nat}(h:i<l.length)(hb:¬(l[i].path.size:Int)≤100):(l.all fun s=>decide (s.path.size≤100))=false:=by
 rw[List.all_eq_false];exact⟨l[i],Ak h,by simp;omega⟩
theorem Mb{l:List Sl}(h:∀j (hj:j<l.length),(l[j].path.size:Int)≤100):(l.all fun s=>decide (s.path.size≤100))=true:=by
 rw[AR];intro s hs;obtain⟨j,hj,rfl⟩:=BR.1 hs
 have:=h j hj
 simp;omega
structure OI(w:Wk):Prop where
 rep:w.rep.length≤1048576
 exc:w.exc.length≤1048576
 pin:w.pin.length≤1048576
 rl:∀r∈w.rep,Co r.reqs∧J4 r
 excs:∀s∈w.exc,E9 s.path
 pins:∀s∈w.pin,E9 s.path
theorem OI.few{w:Wk}(h:OI w):SH w:=⟨fun r hr=>(h.rl r hr).2,A3 h.rep (by decide),A3 h.exc (by decide),A3 h.pin (by decide),h.excs,h.pins⟩
theorem OI.qs{w:Wk}(h:OI w):aV w.rep:=fun r hr=>⟨(h.rl r hr).1,fun q hq=>((h.rl r hr).2.2 q hq).1⟩
theorem OI.rq{w:Wk}(h:OI w):∀r∈w.rep,Co r.reqs:=fun r hr=>(h.rl r hr).1
theorem uG(w:Wk)(hW:OI w):PC 16 [.agg (Bc w)] (vb (Gj w)):=by
 have rT:w.exc.length≤1048576:=hW.exc;have hW2:w.pin.length≤1048576:=hW.pin;refine Ps ⟨[1],[],[],[],[],[],[],[],[],[],[3,5,8,10]⟩ Tryz.func16 rfl (Nz rfl) ?_;refine Xi {q:Nat // q≤w.exc.length∧∀j (hj:j<w.exc.length),j<q→(w.exc[j].path.size:Int)≤100} (Xi (fun q=>⟨[(1,.ref 1 0),(3,vi q.1)],[(1,.ro (Bc w))],Aa⟩) (Xi (fun q=>w.exc.length-q.1) (Yi (Xi ⟨0,AG _,fun _ _ h=>absurd h (Cu _)⟩ ?_) ?_)))
 ·exact⟨Z2,Z1,Fh,Tv⟩
 intro⟨i,i1,i2⟩;have i1:i≤w.exc.length:=i1;have i2:∀j (hj:j<w.exc.length),j<i→(w.exc[j].path.size:Int)≤100:=i2;refine Yi (fun h1=>?_) (fun h1=>?_)
 ·have h1:(i:Int)<((w.exc.map Ae).length:Int):=h1;have n1:=H5 h1;refine Xi (Ae w.exc[i]) (Yi (Jp n1) (Yi rfl ?_));refine Yi (fun h2=>?_) (fun h2=>?_)
  ·have h2:(100:Int)<(w.exc[i].path.size:Int):=h2;refine Xi ⟨[],[],Aa⟩ (Yi ⟨Tv,Tv,Fh,Tv⟩ ?_)
   exact .of_eq (show vb false=vb (Gj w) by unfold Gj;rw[fM (l:=w.exc) n1 (UM.2 h2),Bool.false_and,Bool.false_and])
  have h2:¬((100:Int)<(w.exc[i].path.size:Int)):=h2;refine Xi ⟨[(1,.ref 1 0),(3,vi i)],[(1,.ro (Bc w))],Aa⟩ (Yi ⟨Z2,Z1,Fh,Tv⟩ ?_)
  refine Yi (Ii i (by omega)) ?_;refine Xi ⟨i+1,n1,fun j hj GA=>if e:j<i then i2 j hj e else by
    have e:j=i:=by omega
    subst e;exact Int.not_lt.1 h2⟩ ?_
  exact⟨Dl w.exc.length i (by omega),Z2,Z1,Fh,Tv⟩
 have h1:¬((i:Int)<((w.exc.map Ae).length:Int)):=h1;have n1:=H4 h1;refine Xi {q:Nat // q≤w.pin.length∧∀j (hj:j<w.pin.length),j<q→(w.pin[j].path.size:Int)≤100} (Xi (fun q=>⟨[(1,.ref 1 0),(4,vi q.1)],[(1,.ro (Bc w))],Aa⟩) (Xi (fun q=>w.pin.length-q.1) (Yi (Xi ⟨0,AG _,fun _ _ h=>absurd h (Cu _)⟩ ?_) ?_)))
 ·exact⟨Z2,Z1,Fh,Tv⟩
 intro⟨k,k1,k2⟩;have k1:k≤w.pin.length:=k1;have k2:∀j (hj:j<w.pin.length),j<k→(w.pin[j].path.size:Int)≤100:=k2;refine Yi (fun h5=>?_) (fun h5=>?_)
 ·have h5:(k:Int)<((w.pin.map Ae).length:Int):=h5;have n5:=H5 h5;refine Xi (Ae w.pin[k]) (Yi (Jp n5) (Yi rfl ?_));refine Yi (fun h6=>?_) (fun h6=>?_)
  ·have h6:(100:Int)<(w.pin[k].path.size:Int):=h6;refine Xi ⟨[],[],Aa⟩ (Yi ⟨Tv,Tv,Fh,Tv⟩ ?_)
   exact .of_eq (show vb false=vb (Gj w) by unfold Gj;rw[fM (l:=w.pin) n5 (UM.2 h6),Cz,Bool.false_and])
  have h6:¬((100:Int)<(w.pin[k].path.size:Int)):=h6;refine Xi ⟨[(1,.ref 1 0),(4,vi k)],[(1,.ro (Bc w))],Aa⟩ (Yi ⟨Z2,Z1,Fh,Tv⟩ ?_)
  refine Yi (Ii k (by omega)) ?_;refine Xi ⟨k+1,n5,fun j hj GA=>if e:j<k then k2 j hj e else by
    have e:j=k:=by omega
    subst e;exact Int.not_lt.1 h6⟩ ?_
  exact⟨Dl w.pin.length k (by omega),Z2,Z1,Fh,Tv⟩
 have h5:¬((k:Int)<((w.pin.map Ae).length:Int)):=h5;have n5:=H4 h5;refine Bq (Bt (JX w.rep 8)) (fun h9=>?_) (fun h9=>?_)
 ·have h9:(JX w.rep 8)=true:=h9;refine Xi .pure (Xi _ (Yi (cb h9 (y8 w.rep 8 (A3 hW.rep (by decide)) hW.rq)) ?_));refine Yi (fun M3=>?_) (fun M3=>?_)
  ·have M3:((w.exc.map Ae).length:Int)≤(12:Int):=M3;refine Yi (fun J3=>?_) (fun J3=>?_)
   ·have J3:((w.pin.map Ae).length:Int)≤(8:Int):=J3;have e1:=Mb fun j hj=>i2 j hj (by have q:=h1;rw[Lm]at q;omega);have e2:=Mb fun j hj=>k2 j hj (by have q:=h5;rw[Lm]at q;omega);exact .of_eq (show vb true=vb (Gj w) by unfold Gj;rw[e1,e2,h9,At (by have q:=M3;rw[Lm]at q;omega),At (by have q:=J3;rw[Lm]at q;omega)];rfl)
   have J3:¬(((w.pin.map Ae).length:Int)≤(8:Int)):=J3;have e1:=Mb fun j hj=>i2 j hj (by have q:=h1;rw[Lm]at q;omega);have e2:=Mb fun j hj=>k2 j hj (by have q:=h5;rw[Lm]at q;omega);exact .of_eq (show vb false=vb (Gj w) by unfold Gj;rw[e1,e2,h9,At (by have q:=M3;rw[Lm]at q;omega),Aj (by have q:=J3;rw[Lm]at q;omega)];simp)
  have M3:¬(((w.exc.map Ae).length:Int)≤(12:Int)):=M3;have e1:=Mb fun j hj=>i2 j hj (by have q:=h1;rw[Lm]at q;omega);have e2:=Mb fun j hj=>k2 j hj (by have q:=h5;rw[Lm]at q;omega);exact .of_eq (show vb false=vb (Gj w) by unfold Gj;rw[e1,e2,h9,Aj (by have q:=M3;rw[Lm]at q;omega)];simp)
 have h9:(JX w.rep 8)=false:=h9;refine Xi .pure (Xi _ (Yi (cb h9 (y8 w.rep 8 (A3 hW.rep (by decide)) hW.rq)) ?_));have e1:=Mb fun j hj=>i2 j hj (by have q:=h1;rw[Lm]at q;omega);have e2:=Mb fun j hj=>k2 j hj (by have q:=h5;rw[Lm]at q;omega);exact .of_eq (show vb false=vb (Gj w) by unfold Gj;rw[e1,e2,h9];simp)
theorem o34(x y:List Rl)(ifs uA:List (List AV))(roots:List Rq)(w:Wk)(a b:List Sl)(ms:List Mv)(J3:PC 11 [RF x ifs,.agg (Bc w)] (.tup [RF y uA,vi 0]))(h1:PC 30 [RF x ifs,sl AN roots] (.tup [sl Ae a,vi 0]))(h2:PC 30 [RF y uA,sl AN roots] (.tup [sl Ae b,vi 0]))(ud:PC 75 [sl Ae a,sl Ae b] (.tup [sl E3 ms,vi 0])):PC 34 [RF x ifs,sl AN roots,.agg (Bc w)] (.tup [sl E3 ms,vi 0]):=by
 refine Ps ⟨[3,5,8],[],[],[],[],[],[],[],[],[],[2,5,8]⟩ Tryz.func34 rfl (Nz rfl) ?_;refine Yi (Nz rfl) ?_;refine Yi (Nz rfl) ?_;refine Xi .pure (Xi _ (Yi J3 ?_));refine Yi (Nz rfl) ?_;refine Xi ⟨[(1,sl AN roots),(3,.ref 3 0),(8,.ref 8 0),(9,vi 0)],[(3,.ro (Ic x ifs)),(8,.ro [sl Ai y,.slice .none uA])],Aa⟩ (Yi ⟨Z4,Z2,Fh,Tv⟩ ?_)
 refine Yi (fun h=>absurd h (by decide)) (fun _=>?_);refine Yi (Nz rfl) ?_;refine Xi .pure (Xi _ (Yi h1 ?_));refine Xi ⟨[(1,sl AN roots),(8,.ref 8 0),(9,vi 0),(10,sl Ae a)],[(8,.ro [sl Ai y,.slice .none uA])],Aa⟩ (Yi ⟨Z4,Z1,Fh,Tv⟩ ?_)
 refine Yi (fun h=>absurd h (by decide)) (fun _=>?_);refine Yi (Nz rfl) ?_;refine Xi .pure (Xi _ (Yi h2 ?_));refine Xi ⟨[(9,vi 0),(10,sl Ae a),(11,sl Ae b)],[],Aa⟩ (Yi ⟨Z3,Tv,Fh,Tv⟩ ?_)
 refine Yi (fun h=>absurd h (by decide)) (fun _=>?_);refine Xi .pure (Xi _ (Yi ud ?_));exact .refl _
end Go.Eng
namespace Go.Proofs
open Go.Shelf Go.RowKit Go.Lib Go.Sort
abbrev OneC:Type:={v:Value // v.oneCell'=true}
def SlA:Type:=ByteArray×OneC×OneC×OneC
instance:Inhabited SlA:=⟨⟨ByteArray.empty,⟨.bool false,rfl⟩,⟨.bool false,rfl⟩,⟨.bool false,rfl⟩⟩⟩
def encSlA(x:SlA):List Value:=[.string x.1,x.2.1.1,x.2.2.1.1,x.2.2.2.1]
def cfSlA(x y:SlA):Int:=Lib.compareBytes x.1.data.toList y.1.data.toList
abbrev CmpSlA(k:Nat):Prop:=∀(x y:SlA) (W:World),Calls Tryz.prog k #[.agg #[.string x.1,x.2.1.1,x.2.2.1.1,x.2.2.2.1],.agg #[.string y.1,y.2.1.1,y.2.2.1.1,y.2.2.2.1]] W fun e w'=>e=.returned (.int .i64 (cfSlA x y))∧∃q os',w'=grow (W.drewN q) os'
theorem Tryz.closure99:CmpSlA 99:=fun x y W=>by
 have hcon:=fun W'=>Any.strings_Compare Tryz.layCompare x.1 y.1 W';obtain⟨a,⟨b,hb⟩,⟨c,hc⟩,⟨d,hd⟩⟩:=x;obtain⟨a',⟨b',oZ⟩,⟨c',ql⟩,⟨d',lz⟩⟩:=y;dsimp only at hcon
 change ∀W',Calls Tryz.prog 100 _ _ _ at hcon
 unfold cfSlA;dsimp only;generalize Lib.compareBytes a.data.toList a'.data.toList=r at hcon⊢
 go_enter Tryz.func99,Tryz.ntmps99
 go_wp2_with (go_at_call 100;refine(hcon _).mono ?_;rintro e w' ⟨rfl,rfl⟩)
 go_ret
 exact⟨rfl,0,_,by rw[alloc_eq_grow,alloc_eq_grow,grow_grow];rfl⟩
end Go.Proofs
namespace Go.Eng
open Go.Proofs Go.Shelf Go.RowKit Go.Lib Go.Sort
theorem bI(x y:SlA):ltOf cfSlA x y=EM x.1 y.1:=T1 _ _
theorem jV:SWO (ltOf cfSlA) where
 irrefl x:=by rw[bI];exact CW _
 trans x y z h1 h2:=by rw[bI]at *;exact Ep h1 h2
 ntrans x y z h1 h2:=by
  rw[bI]at *
  rw[AF];intro h;cases qD:EM y.1 x.1 with
  |true=>have:=Ep qD h;rw[h2]at this;cases this
  |false =>
   have e:=HT h1 qD;rw[e]at h;rw[h2]at h;cases h
theorem s92(k:Nat)(hc:CmpSlA k)(eg:∀args w,(callFunc k args).run Tryz.prog w=.ok (.enter k args) w)(l:List Sl)(hl:Co l)(lim:Nat)(Ym:lim<100) :
  Bm Tryz.prog 129 [.msl 1000 l.length,vi 0,vi l.length,vi lim,.v (UU k)] (Aq [(1000,.arr 4 (l.map Ae))] Aa) fun r h' =>
   r=.tup []∧∃l' : List Sl,l'.Perm l∧l'.Pairwise (fun x y=>EM y.path x.path=false)∧h'=Aq [(1000,.arr 4 (l'.map Ae))] Aa:=by
 have hl:l.length≤1073741824:=hl;have hE:Gs Tryz.prog 129:=fp 129 Tryz.func129 (by kernel_rfl) rfl;have HB:=JF (P:=Tryz.prog) (f:=129) (α:=SlA) (rest:=[.int .i64 0,.int .i64 l.length,.int .i64 lim,UU k]) hE Ae encSlA (k:=4) (fun _=>rfl) (fun _=>rfl) (ltOf cfSlA) (fun x a=>a.1=x.path) l (by omega) ?_ ?_ ?_
 ·refine⟨hE,fun g w vals q1 q2 q3=>(HB.2 g w vals q1 q2 q3).mono fun _ _ ⟨v,r,h',g',e1,⟨e2,l',p1,⟨al,a1,a2,a3⟩,p2⟩,rest⟩=>⟨v,r,h',g',e1,⟨e2,l',p1,?_,p2⟩,rest⟩⟩;rw[A7]at a3⊢;intro i j hi hj VF
  have:=a3 i j (by omega) (by omega) VF
  rw[bI]at this;have e1:=a2 i _ _ (Ge hi) (Ge (by omega));have e2:=a2 j _ _ (Ge hj) (Ge (by omega));rw[←e1,←e2];exact this
 ·intro x hx g w vs hr
  match vs,hr with
  | [a,b,c,d],hr =>
   have h1:=(hr.2.2 0 (Go.Eng.vs x.path) a rfl rfl).v_eq;subst h1;exact⟨⟨x.path,⟨b,hr.2.1 b (by simp)⟩,⟨c,hr.2.1 c (by simp)⟩,⟨d,hr.2.1 d (by simp)⟩⟩,rfl,rfl⟩
  | [],hr=>have:=hr.1;simp at this
  | [_],hr=>have:=hr.1;simp at this
  | [_,_],hr=>have:=hr.1;simp at this
  | [_,_,_],hr=>have:=hr.1;simp at this
  |_::_::_::_::_::_,hr=>have:=hr.1;simp at this
 ·intro w b cap d hH hb Ek hdl;have gX:CmpLays Tryz.prog k #[] encSlA 4 cfSlA b 0 d.size w:=fun _ _ _ _ x y=>hc x y _;have hp:=AnyQ.pdqsortCmpFunc_all Tryz.layPdqSel 4 Tryz.isAgg51 Tryz.sizeOf51 encSlA cfSlA k #[] jV b 0 cap d w eg gX ⟨fun _=>rfl,fun x v hv=>by
    simp only[encSlA,Av,LZ,or_false]at hv;rcases hv with rfl | rfl | rfl | rfl
    ·rfl
    ·exact x.2.1.2
    ·exact x.2.2.1.2
    ·exact x.2.2.2.2,hH,hb⟩ (d.size+1) 0 d.size lim d w (by omega) rfl (SWK.start hH) (AG _) (Al _) Ek (by omega) (Or.inl rfl)
  rw[hdl]at hp⊢;refine hp.mono ?_
  rintro e w' ⟨rfl,n,os,rfl⟩
  have h:=pdq_sorts (ltOf cfSlA) jV d 0 d.size lim true true (AG _) (Al _) (Or.inl rfl);rw[hdl]at h;exact⟨rfl,_,n,os,h.1,h.2,rfl⟩
 ·intro e w;subst e;exact AnyF.pdqsortCmpFunc_none Tryz.layPdqSel none 0 lim (UU k) w
theorem U8{l l' : List Sl}(h1:Ws l)(h2:Ws l')(hm:∀y,y∈l↔y∈l'):l=l':=by
 induction l generalizing l' with
 |nil =>
  cases l' with
  |nil=>rfl
  |cons y l'=>have:=(hm y).2 (Ac ..);cases this
 |cons x l ih =>
  cases l' with
  |nil=>have:=(hm x).1 (Ac ..);cases this
  |cons y l' =>
   obtain⟨a1,a2⟩:=BP.1 h1;obtain⟨b1,b2⟩:=BP.1 h2;have e:x=y:=by
    rcases Av.1 ((hm x).1 (Ac ..))with e | e
    ·exact e
    ·rcases Av.1 ((hm y).2 (Ac ..))with e2 | e2
     ·exact e2.symm
     ·have c1:=b1 x e;have c2:=a1 y e2
      have:=Ep c1 c2
      rw[CW]at this;cases this
   subst e
   congr 1
   refine ih a2 b2 fun z=>⟨fun hz=>?_,fun hz=>?_⟩
   ·rcases Av.1 ((hm z).1 (Af _ hz))with e | e
    ·subst e
     have:=a1 z hz
     rw[CW]at this;cases this
    ·exact e
   ·rcases Av.1 ((hm z).2 (Af _ hz))with e | e
    ·subst e
     have:=b1 z hz
     rw[CW]at this;cases this
    ·exact e
theorem jS{l l' : List Sl}(hn:(l.map (·.path)).Nodup)(hp:l'.Perm l)(hs:l'.Pairwise fun x y=>EM y.path x.path=false):l'=Gm l:=by
 refine U8 ?_ (QY hn) fun y=>by rw[hp.mem_iff,IF]
 have Yo : (l'.map (·.path)).Nodup:=(hp.map (·.path)).nodup_iff.2 hn;show l'.Pairwise _;rw[A7]at hs⊢;intro i j hi hj VF;cases hb:EM l'[i].path l'[j].path with
 |true=>rfl
 |false =>
  have e:=HT hb (hs i j hi hj VF)
  have:=(A7.1 Yo) i j (by simpa using hi) (by simpa using hj) VF
  simp at this;exact absurd e this
theorem s47(k:Nat)(hc:CmpSlA k)(eg:∀args w,(callFunc k args).run Tryz.prog w=.ok (.enter k args) w)(l:List Sl)(hl:Co l)(hn:(l.map (·.path)).Nodup) :
  Bm Tryz.prog 98 [.msl 1000 l.length,.v (UU k)] (Aq [(1000,.arr 4 (l.map Ae))] Aa) fun r h' =>
   r=.tup []∧h'=Aq [(1000,.arr 4 ((Gm l).map Ae))] Aa:=by
 obtain⟨lim,Ym,hb⟩:=ol l.length hl;refine Ct (MZ E8) [(1000,1000)] rfl CY hm rfl Tryz.func98 (by kernel_rfl) rfl (Nz rfl) (by kernel_rfl) rfl ?_;refine Xi .pure (Xi _ (Yi (hb) ?_));refine Xi (.gen [(1000,1000)] 0) (Yi rfl ((s92 k hc eg l hl lim Ym).imp ?_));intro r h' hq;refine BN hq.2 (fun l' Qu=>?_);have e:=jS hn Qu.1 Qu.2.1;refine Xi (.tup []) (Yi ?_ (Yi rfl ?_))
 ·exact .refl _
 ·rw[Qu.2.2,e];rfl
end Go.Eng
namespace Go.Eng
open Go.Proofs
abbrev AI(c:Cd):List AV:=vi c.place::Ai c.rel
abbrev Bf(n:Nd):List AV:=[vs n.rq.path,sl Ag n.rq.set,vs n.path,vi n.place,vi n.number]
abbrev AX(l:List Sk):List AV:=[sl B3 l]
abbrev BV(i:Nat):List AV:=[vi (i:Nat)]
def D3:EX:=⟨true,[.int .i64,.str,.int .i64,.int .i64,.int .i64,.int .i64]⟩
def JP(i:Nf):Value:=.agg [.int .i64 i.kind,.string i.path,.int .i64 i.place,.int .i64 i.number,.int .i64 i.left,.int .i64 i.right].toArray
def D5:Nat→List Nf→List (Value×AV)
 |_,[]=>[]
 |k,i::l=>(JP i,vi (k:Nat))::D5 (k+1) l
abbrev uU(roots:List Rq)(C A:List (Value×AV))(s:SS)(dec:List Cd)(n:Nat):List AV :=
 [sl AN roots,.cmap Dm C,.cmap Dm A,.slice (.id 1001 6) (s.infs.map B7),.slice (.id 1002 1) (s.drv.map Cm),.mref 1003,vb s.full,sl AI dec,sl Ae (AO dec),.msl 1004 n]
abbrev srM(roots:List Rq)(C A:List (Value×AV))(s:SS)(dec:List Cd)(k n:Nat):List AV :=
 [sl AN roots,.cmap Dm C,.cmap Dm A,.slice (.id 1001 6) (s.infs.map B7),.slice (.id 1002 1) (s.drv.map Cm),.mref 1003,vb s.full,sl AI dec,sl Ae (AO dec),.msl k n]
abbrev Js(roots:List Rq)(C A:List (Value×AV))(s:SS)(dec:List Cd)(st:List (List Sk)):List (Nat×HO) :=
 [(1000,.cells (uU roots C A s dec st.length)),(1001,.tok 6 s.infs.length),(1002,.tok 1 s.drv.length),(1003,.map D3 (D5 0 s.infs)),(1004,.arr 1 (st.map AX))]
theorem yN{fF:Nat}{caps:List AV}(hs:EZ caps)(l:List (Cd))(p:Cd→Bool)(hF:∀x∈l,PC fF ([.agg (AI x)]++caps) (vb (p x)))(hl:l.length<9223372036854775807) :
  PC 224 [sl AI l,.clo fF caps] (vi (Iw p l 0)):=by
 refine Ps E8 Tryz.func224 rfl (Nz rfl) ?_;refine Xi {i:Nat // i≤l.length∧∀j (hj:j<l.length),j<i→p l[j]=false} (Xi (fun i=>⟨[(0,sl AI l),(1,.clo fF caps),(7,vi (l.map AI).length),(8,vi i.1)],[],Aa⟩) (Xi (fun i=>l.length-i.1) (Yi (Xi ⟨0,by simp⟩ ?_) ?_)))
 ·exact⟨⟨Zr,⟨rfl,hs.ids _⟩,Zr,Zr,Tv⟩,Tv,Fh,Tv⟩
 ·intro⟨i,h1,h2⟩;refine Yi ?_ ?_
  ·intro h;have h:(i:Int)<(l.map AI).length:=h;have h:i<l.length:=by simpa using h
   have hg:l[i]?=some l[i]:=Ge h;refine Xi (AI l[i]) (Yi (Yi (Nn i) (by simp[hg])) (Yi rfl (Yi (Nz rfl) ?_)));have DM:∀h,PC fF ([.agg (AI l[i])]++caps.map (str0 h)) (vb (p l[i])):=fun h=>by rw[hs.map];exact hF l[i] (Ak _)
   cases hp:p l[i]with
   |true =>
    rw[hp]at DM;refine Xi .pure (Xi (vb true) (Yi (DM _) ?_));rw[JN h (fun j hj GA=>h2 j hj GA) hp,Fl];exact .refl _
   |false =>
    rw[hp]at DM;refine Xi .pure (Xi (vb false) (Yi (DM _) ?_));refine Yi (Ii i (by omega)) ?_;refine Xi ⟨i+1,by omega,fun j hj GA=>?_⟩ ?_
    ·by_cases e:j=i
     ·subst e;exact hp
     ·exact h2 j hj (by omega)
    ·exact⟨Dl l.length i (by omega),⟨Zr,⟨rfl,hs.ids _⟩,Zr,Zr,Tv⟩,Tv,Fh,Tv⟩
  ·intro h;have h:¬(i:Int)<(l.map AI).length:=h;have h:¬i<l.length:=by simpa using h
   rw[GI fun j hj=>h2 j hj (by omega)];exact .refl _
theorem s86{fF:Nat}{caps:List AV}(hs:EZ caps)(l:List (Nd))(p:Nd→Bool)(hF:∀x∈l,PC fF ([.agg (Bf x)]++caps) (vb (p x)))(hl:l.length<9223372036854775807) :
  PC 120 [sl Bf l,.clo fF caps] (vi (Iw p l 0)):=by
 refine Ps E8 Tryz.func120 rfl (Nz rfl) ?_;refine Xi {i:Nat // i≤l.length∧∀j (hj:j<l.length),j<i→p l[j]=false} (Xi (fun i=>⟨[(0,sl Bf l),(1,.clo fF caps),(7,vi (l.map Bf).length),(8,vi i.1)],[],Aa⟩) (Xi (fun i=>l.length-i.1) (Yi (Xi ⟨0,by simp⟩ ?_) ?_)))
 ·exact⟨⟨Zr,⟨rfl,hs.ids _⟩,Zr,Zr,Tv⟩,Tv,Fh,Tv⟩
 ·intro⟨i,h1,h2⟩;refine Yi ?_ ?_
  ·intro h;have h:(i:Int)<(l.map Bf).length:=h;have h:i<l.length:=by simpa using h
   have hg:l[i]?=some l[i]:=Ge h;refine Xi (Bf l[i]) (Yi (Yi (Nn i) (by simp[hg])) (Yi rfl (Yi (Nz rfl) ?_)));have DM:∀h,PC fF ([.agg (Bf l[i])]++caps.map (str0 h)) (vb (p l[i])):=fun h=>by rw[hs.map];exact hF l[i] (Ak _)
   cases hp:p l[i]with
   |true =>
    rw[hp]at DM;refine Xi .pure (Xi (vb true) (Yi (DM _) ?_));rw[JN h (fun j hj GA=>h2 j hj GA) hp,Fl];exact .refl _
   |false =>
    rw[hp]at DM;refine Xi .pure (Xi (vb false) (Yi (DM _) ?_));refine Yi (Ii i (by omega)) ?_;refine Xi ⟨i+1,by omega,fun j hj GA=>?_⟩ ?_
    ·by_cases e:j=i
     ·subst e;exact hp
     ·exact h2 j hj (by omega)
    ·exact⟨Dl l.length i (by omega),⟨Zr,⟨rfl,hs.ids _⟩,Zr,Zr,Tv⟩,Tv,Fh,Tv⟩
  ·intro h;have h:¬(i:Int)<(l.map Bf).length:=h;have h:¬i<l.length:=by simpa using h
   rw[GI fun j hj=>h2 j hj (by omega)];exact .refl _
theorem tO{fF:Nat}{caps:List AV}(hs:EZ caps)(l:List (Cd))(p:Cd→Bool)(hF:∀x∈l,PC fF ([.agg (AI x)]++caps) (vb (p x)))(hl:Co l) :
  PC 193 [sl AI l,.clo fF caps] (vb (l.any p)):=by
 refine Ps E8 Tryz.func193 rfl (Nz rfl) ?_;have hi:=yN hs l p hF (by unfold Co at hl;omega);have DM:∀h,PC 224 [sl AI l,.clo fF (caps.map (str0 h))] (vi (Iw p l 0)):=fun h=>by rw[hs.map];exact hi
 refine Xi .pure (Xi _ (Yi (DM _) ?_));have ha:=Lz (p:=p) l 0 (AZ 0);refine Yi ?_ ?_
 ·intro h;have h:(0:Int)≤Iw p l 0:=h;rw[←ha,At h];exact .refl _
 ·intro h;have h:¬(0:Int)≤Iw p l 0:=h;rw[←ha,Aj h];exact .refl _
theorem tU(l:List Cd)(hl:Co l):Bm Tryz.prog 126 [sl AI l] (Aq [] Aa) fun r h'=>r=.slice (.id 2000 10) (l.map AI)∧h'=Aq [(2000,.tok 10 (l.map AI).length)] Aa:=by
 refine Ct (MZ (x6 10)) [(2,2000)] rfl CY hm rfl Tryz.func126 (by kernel_rfl) rfl (Nz rfl) (by kernel_rfl) rfl ?_;have F8:CT 10 (l.map AI)∧([]:List (List AV)).length=0∧(([]:List (List AV)).length+(l.map AI).length)*128≤140737488355328∧([]:List (List AV)).length+(l.map AI).length≤9223372036854775807:=by
  refine⟨Ea (enc:=AI) (n:=10) (fun _=>rfl) l,rfl,?_,?_⟩<;>simp only[Ay,Lm]<;>unfold Co at hl<;>omega
 have e2:HO.tok 10 (([]:List (List AV)).length+(l.map AI).length)=.tok 10 (l.map AI).length:=by rw[Ay,Bk]
 have e3:AV.slice (.id 2000 10) ([]++l.map AI)=.slice (.id 2000 10) (l.map AI):=rfl;have full:∀st:St,(∃s:LS,St.le (MZ (x6 10)) st s∧True)→True:=fun _ _=>trivial;refine Xi 0 ?_;refine Xi 0 ?_;refine Yi ?_ ?_
 ·intro _;refine Xi ⟨[(0,sl AI l)],[],Aa⟩ (Yi ⟨Z1,Tv,Fh,AD (by kernel_rfl)⟩ ?_)
  refine Xi 2 ?_;refine Yi F8 ?_;exact Xi _ (Yi (.refl _) (Yi e3 (Ab (fun o=>Aq [(2000,o)] Aa) e2)))
 ·intro h;have h:l.map AI=[]:=h;refine Yi ?_ ?_
  ·refine Xi ⟨[],[],Aa⟩ (Yi ⟨trivial,trivial,fun _=>.inl rfl,AD (by kernel_rfl)⟩ ?_)
   refine Xi 0 ?_;exact Xi _ (Yi (.refl _) (Yi (show AV.slice (.id 2000 10) []=_ by rw[h]) (show Aq [(2000,HO.tok 10 0)] Aa=_ by rw[h];rfl)))
  ·refine Xi ⟨[(0,sl AI l)],[],Aa⟩ (Yi ⟨Z1,Tv,Fh,AD (by kernel_rfl)⟩ ?_)
   refine Xi 2 ?_;refine Yi F8 ?_;exact Xi _ (Yi (.refl _) (Yi e3 (Ab (fun o=>Aq [(2000,o)] Aa) e2)))
end Go.Eng
