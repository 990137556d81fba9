/- Lemmas 27. -/
import Derived.Test.YtkjhcikodmiceaaGreatDoorVA26
set_option maxHeartbeats 4000000
namespace Go.Eng
variable (x:List Rl)
structure Lo where
 path:CS
 ver:Ver
 arch:CS
 ifc:CS
variable (e:Lo)
structure Lk where
 roots:List Rq
 ents:List Lo
 infs:List Nf
 skips:List Sk
variable (l:Lk)
abbrev DA:Sl:=⟨e.path,e.ver⟩
abbrev Hl:List Sl:=l.ents.map DA
abbrev KD:An:=⟨true,Hl l,l.infs,l.skips⟩
def HP:Bool:=decide (AT e.path=some e.ver.a)&&By e.ver&&CI e.arch&&CI e.ifc
def OK(i:Nf):Bool:=decide (0<=i.kind/\i.kind<=3/\i.path.size<=64/\0<=i.place/\0<=i.number/\0<=i.left/\0<=i.right)
def OO(s:Sk):Bool:=decide (s.path.size<=64/\0<=s.place/\0<=s.inf)
def CH:Bool:=decide (AH l.roots=0)&&(decide (l.ents.length<=1024)&&(decide (l.infs.length<=65536)&&(decide (l.skips.length<=65536)&&(Bb (Hl l)&&(l.ents.all HP&&(l.infs.all OK&&l.skips.all OO))))))
def JF:Bool:=match AY x (DA e)with
 |none=>false
 |some r=>decide (e.arch=r.arch)&&decide (e.ifc=r.ifc)
def VV:Int:=
 if At x≠0\/CH l=false then 1
 else if l.ents.all (fun e=>(AY x (DA e)).isSome)=false then 6
 else if l.ents.all (JF x)=false then 9
 else if Dk x l.roots (KD l)≠0 then 18 else 0
section
variable {x:List Rl}{l m:Lk}
def Ja(x:List Rl)(y:Sl):Lo:=match AY x y with
 |none=>⟨y.path,y.ver,⟨#[]⟩,⟨#[]⟩⟩
 |some r=>⟨y.path,y.ver,r.arch,r.ifc⟩
def mkL(x:List Rl)(roots:List Rq)(a:An):Lk:=⟨roots,a.sel.map (Ja x),a.infs,a.skips⟩
end
end Go.Eng
namespace Go.Eng
open Go.Proofs Go.Proofs.Tryz
variable {caps:List AV}{x:List Rl}{fF i k:Nat}(l:Lk)(s p:CS)
abbrev Cz(e:Lo):List AV:=[vs e.path,vi e.ver.a,vi e.ver.b,vi e.ver.c,vs e.arch,vs e.ifc]
abbrev Do:List AV:=[sl Ad l.roots,sl Cz l.ents,sl AG l.infs,sl AB l.skips]
theorem SM{l:List Lo}(h:i<l.length):(l.take (i+1)).map DA=(l.take i).map DA++[DA l[i]]:=by rw[EQ h,Bk];rfl
theorem oG(hl:l.ents.length<=1000000):PC 20 [.agg (Do l)] (sl Ae (Hl l)):=by
 refine Ps (pT [1] [(3,4)] []) func20 rfl (Nz rfl) (Xi {q:Nat // q<=l.ents.length} (Xi (fun q=>⟨[(3,.slice (.id 3 4) (((l.ents.take q.1).map DA).map Ae)),(7,sl Cz l.ents),(8,vi (l.ents.map Cz).length),(9,vi q.1)],[(3,.tok 4 ((l.ents.take q.1).map DA).length)],Af⟩) (Xi (fun q=>l.ents.length-q.1) (Yi (Xi ⟨0,Al _⟩ ?_) ?_))))
 .exact⟨Z4,Z1,Fh,Tv⟩
 intro⟨i,i1⟩;have i1:i<=l.ents.length:=i1;have hT:((l.ents.take i).map DA).length<=1073741824:=(by rw[Lm,BW];omega);refine Yi (fun h1=>?_) (fun h1=>?_)
 .have h1:(i:Int)<((l.ents.map Cz).length:Int):=h1;have n1:=Ha h1;refine Xi (Cz l.ents[i]) (Yi (I0 n1) (Yi rfl (yN (yN (yN (Yi (YG rfl (show((l.ents.take i).map DA).length<=2147483647 by omega) aa1) (Yi (Ii i Wk) (Xi ⟨i+1,n1⟩ ?_))))))));exact⟨Dl l.ents.length i Wk,⟨⟨(show AV.slice (.id 3 4) (((l.ents.take i).map DA).map Ae++[[vs l.ents[i].path,vi l.ents[i].ver.a,vi l.ents[i].ver.b,vi l.ents[i].ver.c]])=.slice (.id 3 4) (((l.ents.take (i+1)).map DA).map Ae) by rw[SM n1,Bk];rfl),rfl⟩,Zr,Zr,Zr,Tv⟩,⟨⟨(show HO.tok 4 ((((l.ents.take i).map DA).map Ae).length+([[vs l.ents[i].path,vi l.ents[i].ver.a,vi l.ents[i].ver.b,vi l.ents[i].ver.c]]:C0).length)=.tok 4 ((l.ents.take (i+1)).map DA).length by rw[SM n1];simp),rfl⟩,Tv⟩,Fh,Tv⟩
 have h1:¬((i:Int)<((l.ents.map Cz).length:Int)):=h1;have n1:=Et h1;exact Cj.of_eq (show sl Ae ((l.ents.take i).map DA)=sl Ae (Hl l) by rw[A5 (BF (Et h1))])
theorem dT(hl:l.ents.length<=1000000):PC 15 [.agg (Do l)] (sl Ae (Hl l)):=by
 refine Ps (pC [1] []) func15 rfl (Nz rfl) (Xi {q:Nat // q<=l.ents.length} (Xi (fun q=>⟨[(1,.ref 1 0),(3,.slice (.id 5 4) (((l.ents.take q.1).map DA).map Ae)),(4,vi q.1)],[(1,.ro (Do l)),(5,.tok 4 ((l.ents.take q.1).map DA).length)],Af⟩) (Xi (fun q=>l.ents.length-q.1) (Yi (Xi ⟨0,Al _⟩ ?_) ?_))))
 .exact⟨Z3,Z2,Fh,Tv⟩
 intro⟨i,i1⟩;have i1:i<=l.ents.length:=i1;have hT:((l.ents.take i).map DA).length<=1073741824:=(by rw[Lm,BW];omega);refine Yi (fun h1=>?_) (fun h1=>?_)
 .have h1:(i:Int)<((l.ents.map Cz).length:Int):=h1;have n1:=Ha h1;refine Xi (Cz l.ents[i]) (Yi (I0 n1) (Yi rfl (Xi (Cz l.ents[i]) (Yi (I0 n1) (Yi rfl (yN (Yi (YG rfl (show((l.ents.take i).map DA).length<=2147483647 by omega) aa1) (Yi aa2 (Yi (Ii i Wk) (Xi ⟨i+1,n1⟩ ?_))))))))));exact⟨Dl l.ents.length i Wk,⟨Zr,⟨(show AV.slice (.id 5 4) (((l.ents.take i).map DA).map Ae++[[vs l.ents[i].path,vi l.ents[i].ver.a,vi l.ents[i].ver.b,vi l.ents[i].ver.c]])=.slice (.id 5 4) (((l.ents.take (i+1)).map DA).map Ae) by rw[SM n1,Bk];rfl),rfl⟩,Zr,Tv⟩,⟨Zr,⟨(show HO.tok 4 ((((l.ents.take i).map DA).map Ae).length+([[vs l.ents[i].path,vi l.ents[i].ver.a,vi l.ents[i].ver.b,vi l.ents[i].ver.c]]:C0).length)=.tok 4 ((l.ents.take (i+1)).map DA).length by rw[SM n1];simp),rfl⟩,Tv⟩,Fh,Tv⟩
 have h1:¬((i:Int)<((l.ents.map Cz).length:Int)):=h1;have n1:=Et h1;exact Cj.of_eq (show sl Ae ((l.ents.take i).map DA)=sl Ae (Hl l) by rw[A5 (BF (Et h1))])
theorem Aa1(hl:l.ents.length<=1000000):PC 50 [.agg (Do l)] (.agg [vb true,sl Ae (Hl l),sl AG l.infs,sl AB l.skips]):=by
 refine Ps (pC [1] []) func50 rfl (Nz rfl) (yN (C2 (oG l hl) (yN (Yi aa2 (yN ?_)))));exact .refl _
theorem r6:PC 102 [vs s] (vb (CI s)):=by
 refine Ps CX func102 rfl (Nz rfl) (Yi (fun h1=>?_) (fun h1=>?_))
 .have h1:(s.size:Int)=(0:Int):=h1;exact Cj.of_eq (Aa vb (show true=CI s by unfold CI;rw[Av (show s.size=0 by have q:=h1;omega)];rfl))
 have h1:¬((s.size:Int)=(0:Int)):=h1;refine Yi (fun h3=>?_) (fun h3=>?_)
 .have h3:(s.size:Int)=(32:Int):=h3;exact Cj.of_eq (Aa vb (show true=CI s by unfold CI;rw[Aq (show ¬s.size=0 by have q:=h1;omega)];rw[Av (show s.size=32 by have q:=h3;omega)];rfl))
 have h3:¬((s.size:Int)=(32:Int)):=h3;exact Cj.of_eq (Aa vb (show false=CI s by unfold CI;rw[Aq (show ¬s.size=0 by have q:=h1;omega)];rw[Aq (show ¬s.size=32 by have q:=h3;omega)];rfl))
theorem gv:PC 62 [vs s] (vb (CI s)):=by
 refine Ps CX func62 rfl (Nz rfl) (Yi (fun h1=>?_) (fun h1=>?_))
 .have h1:(s.size:Int)=(0:Int):=h1;exact Cj.of_eq (Aa vb (show true=CI s by unfold CI;rw[Av (show s.size=0 by have q:=h1;omega)];rfl))
 have h1:¬((s.size:Int)=(0:Int)):=h1;refine Yi (fun h3=>?_) (fun h3=>?_)
 .have h3:(s.size:Int)=(32:Int):=h3;exact Cj.of_eq (Aa vb (show true=CI s by unfold CI;rw[Aq (show ¬s.size=0 by have q:=h1;omega)];rw[Av (show s.size=32 by have q:=h3;omega)];rfl))
 have h3:¬((s.size:Int)=(32:Int)):=h3;exact Cj.of_eq (Aa vb (show false=CI s by unfold CI;rw[Aq (show ¬s.size=0 by have q:=h1;omega)];rw[Aq (show ¬s.size=32 by have q:=h3;omega)];rfl))
theorem AeN(hs:C3 caps)(l:List (Int))(p:Int->Bool)(hF:∀x∈l,PC fF ([vi x]++caps) (vb (p x)))(hl:l.length<9223372036854775807) :
  PC 255 [sl Du l,.clo fF caps] (vi (J0 p l 0)):=by
 refine Ps CX func255 rfl (Nz rfl) (Xi {i:Nat // i<=l.length/\∀j (hj:j<l.length),j<i->p l[j]=false} (Xi (fun i=>⟨[(0,sl Du l),(1,.clo fF caps),(7,vi (l.map Du).length),(8,vi i.1)],[],Af⟩) (Xi (fun i=>l.length-i.1) (Yi (Xi ⟨0,by simp⟩ ?_) ?_))))
 .exact⟨⟨Zr,⟨rfl,hs.ids _⟩,Zr,Zr,Tv⟩,Tv,Fh,Tv⟩
 .intro⟨i,h1,h2⟩;refine Yi ?_ ?_
  .intro h;have h:(i:Int)<(l.map Du).length:=h;have h:i<l.length:=by simpa using h
   have hg:l[i]?=some l[i]:=Ge h;refine Xi (Du l[i]) (Yi (Yi (Nn i) (by simp[hg])) (Yi rfl ?_));have Co:∀h,PC fF ([vi l[i]]++caps.map (str0 h)) (vb (p l[i])):=fun h=>by rw[hs.map];exact hF l[i] (Ah _)
   cases hp:p l[i]with
   |true=>
    rw[hp]at Co;refine Xi .pure (Xi (vb true) (Yi (Co _) ?_));rw[Lu h (fun j hj GC=>h2 j hj GC) hp,GH];exact .refl _
   |false=>
    rw[hp]at Co;refine Xi .pure (Xi (vb false) (Yi (Co _) (Yi (Ii i Wk) (Xi ⟨i+1,by omega,fun j hj GC=>?_⟩ ?_))))
    .by_cases e:j=i
     .subst e;exact hp
     .exact h2 j hj Wk
    .exact⟨Dl l.length i Wk,⟨Zr,⟨rfl,hs.ids _⟩,Zr,Zr,Tv⟩,Tv,Fh,Tv⟩
  .intro h;have h:¬(i:Int)<(l.map Du).length:=h;have h:¬i<l.length:=by simpa using h
   rw[H9 fun j hj=>h2 j hj Wk];exact .refl _
theorem AeL(hs:C3 caps)(l:List (Int))(p:Int->Bool)(hF:∀x∈l,PC fF ([vi x]++caps) (vb (p x)))(hl:BO l) :
  PC 179 [sl Du l,.clo fF caps] (vb (l.any p)):=by
 refine Ps CX func179 rfl (Nz rfl) ?_;have hi:=AeN hs l p hF (by unfold BO at hl;omega);have Co:∀h,PC 255 [sl Du l,.clo fF (caps.map (str0 h))] (vi (J0 p l 0)):=fun h=>by rw[hs.map];exact hi
 refine C1 (C2 (Co _) ?_);have ha:=Ke (p:=p) l 0 (Cb 0);refine Yi ?_ ?_
 .intro h;have h:(0:Int)<=J0 p l 0:=h;rw[<-ha,Av h];exact .refl _
 .intro h;have h:¬(0:Int)<=J0 p l 0:=h;rw[<-ha,Aq h];exact .refl _
theorem AeM(hs:C3 caps)(l:List (Sk))(p:Sk->Bool)(hF:∀x∈l,PC fF ([.agg (AB x)]++caps) (vb (p x)))(hl:l.length<9223372036854775807) :
  PC 181 [sl AB l,.clo fF caps] (vi (J0 p l 0)):=by
 refine Ps CX func181 rfl (Nz rfl) (Xi {i:Nat // i<=l.length/\∀j (hj:j<l.length),j<i->p l[j]=false} (Xi (fun i=>⟨[(0,sl AB l),(1,.clo fF caps),(7,vi (l.map AB).length),(8,vi i.1)],[],Af⟩) (Xi (fun i=>l.length-i.1) (Yi (Xi ⟨0,by simp⟩ ?_) ?_))))
 .exact⟨⟨Zr,⟨rfl,hs.ids _⟩,Zr,Zr,Tv⟩,Tv,Fh,Tv⟩
 .intro⟨i,h1,h2⟩;refine Yi ?_ ?_
  .intro h;have h:(i:Int)<(l.map AB).length:=h;have h:i<l.length:=by simpa using h
   have hg:l[i]?=some l[i]:=Ge h;refine Xi (AB l[i]) (Yi (Yi (Nn i) (by simp[hg])) (Yi rfl (yN ?_)));have Co:∀h,PC fF ([.agg (AB l[i])]++caps.map (str0 h)) (vb (p l[i])):=fun h=>by rw[hs.map];exact hF l[i] (Ah _)
   cases hp:p l[i]with
   |true=>
    rw[hp]at Co;refine Xi .pure (Xi (vb true) (Yi (Co _) ?_));rw[Lu h (fun j hj GC=>h2 j hj GC) hp,GH];exact .refl _
   |false=>
    rw[hp]at Co;refine Xi .pure (Xi (vb false) (Yi (Co _) (Yi (Ii i Wk) (Xi ⟨i+1,by omega,fun j hj GC=>?_⟩ ?_))))
    .by_cases e:j=i
     .subst e;exact hp
     .exact h2 j hj Wk
    .exact⟨Dl l.length i Wk,⟨Zr,⟨rfl,hs.ids _⟩,Zr,Zr,Tv⟩,Tv,Fh,Tv⟩
  .intro h;have h:¬(i:Int)<(l.map AB).length:=h;have h:¬i<l.length:=by simpa using h
   rw[H9 fun j hj=>h2 j hj Wk];exact .refl _
theorem AeK(hs:C3 caps)(l:List (Sk))(p:Sk->Bool)(hF:∀x∈l,PC fF ([.agg (AB x)]++caps) (vb (p x)))(hl:BO l) :
  PC 104 [sl AB l,.clo fF caps] (vb (l.any p)):=by
 refine Ps CX func104 rfl (Nz rfl) ?_;have hi:=AeM hs l p hF (by unfold BO at hl;omega);have Co:∀h,PC 181 [sl AB l,.clo fF (caps.map (str0 h))] (vi (J0 p l 0)):=fun h=>by rw[hs.map];exact hi
 refine C1 (C2 (Co _) ?_);have ha:=Ke (p:=p) l 0 (Cb 0);refine Yi ?_ ?_
 .intro h;have h:(0:Int)<=J0 p l 0:=h;rw[<-ha,Av h];exact .refl _
 .intro h;have h:¬(0:Int)<=J0 p l 0:=h;rw[<-ha,Aq h];exact .refl _
theorem Cj.fn(f:Nat):Cj (.v (.func (.func f) #[] #[])) (.clo f []):=fun _ _ _ _ h=>by cases h;exact .clo _ f [] #[] rfl (fun i av x h=>by cases h)
theorem C3.nil:C3 []:=fun _ hc=>absurd hc List.not_mem_nil
def VO(l:List Int):Bool:=decide (p.size<=64)&&!(l.any fun n=>decide (n<0))
theorem Aa6(n:Int):PC 180 [vi n] (vb (decide (n<0))):=by
 refine Ps CX func180 rfl (Nz rfl) (Yi (fun h1=>?_) (fun h1=>?_))
 .have h1:(n:Int)<(0:Int):=h1;exact Cj.of_eq (Aa vb (show true=decide (n<0)from(Av h1).symm))
 have h1:¬((n:Int)<(0:Int)):=h1;exact Cj.of_eq (Aa vb (show false=decide (n<0)from(Aq h1).symm))
theorem sZ(l:List Int)(hl:BO l):PC 179 [sl Du l,.v (.func (.func 180) #[] #[])] (vb (l.any fun n=>decide (n<0))):=
 (AeL (fF:=180) C3.nil l (fun n=>decide (n<0)) (fun n _=>Aa6 n) hl).args ⟨.refl _,Cj.fn 180,trivial⟩
theorem r7(l:List Int)(hl:BO l):PC 103 [vs p,sl Du l] (vb (VO p l)):=by
 refine Ps CX func103 rfl (Nz rfl) (Yi (fun h1=>?_) (fun h1=>?_))
 .have h1:(p.size:Int)<=(64:Int):=h1;refine Ax (Bt (l.any fun n=>decide (n<0))) (fun h2=>?_) (fun h2=>?_)
  .have h2:(l.any fun n=>decide (n<0))=true:=h2;refine C1 (C2 (cb h2 (sZ l hl)) ?_);exact Cj.of_eq (Aa vb (show false=VO p l by rw[VO,Av (show p.size<=64 by have q:=h1;omega),h2];rfl))
  have h2:(l.any fun n=>decide (n<0))=false:=h2;refine C1 (C2 (cb h2 (sZ l hl)) ?_);exact Cj.of_eq (Aa vb (show true=VO p l by rw[VO,Av (show p.size<=64 by have q:=h1;omega),h2];rfl))
 have h1:¬((p.size:Int)<=(64:Int)):=h1;exact Cj.of_eq (Aa vb (show false=VO p l by rw[VO,Aq (show ¬p.size<=64 by have q:=h1;omega)];rfl))
theorem sU(s:Sk):VO s.path [s.place,s.inf]=OO s:=by unfold VO OO;rw[Cy];simp
theorem sT(i:Nf)(h0:¬i.kind<0)(h3:¬3<i.kind):VO i.path [i.place,i.number,i.left,i.right]=OK i:=by unfold VO OK;rw[Cy];simp;omega
theorem Aa4(s:Sk):PC 105 [.agg (AB s)] (vb (!OO s)):=by
 refine Ps (pC [1] []) func105 rfl (Nz rfl) (Ax (Bt (VO s.path [s.place,s.inf])) (fun h1=>?_) (fun h1=>?_))
 .have h1:(VO s.path [s.place,s.inf])=true:=h1;refine C1 (C2 (cb h1 (show PC 103 [vs s.path,.slice .none [[vi s.place],[vi s.inf]]] (vb (VO s.path [s.place,s.inf]))from r7 s.path [s.place,s.inf] (show 2<=1073741824 by decide))) ?_);exact Cj.of_eq (Aa vb (show false=!OO s by rw[<-sU,h1];rfl))
 have h1:(VO s.path [s.place,s.inf])=false:=h1;refine C1 (C2 (cb h1 (show PC 103 [vs s.path,.slice .none [[vi s.place],[vi s.inf]]] (vb (VO s.path [s.place,s.inf]))from r7 s.path [s.place,s.inf] (show 2<=1073741824 by decide))) ?_);exact Cj.of_eq (Aa vb (show true=!OO s by rw[<-sU,h1];rfl))
theorem dY{l:List Sk}:(l.any fun s=>!OO s)=!l.all OO:=List.not_all_eq_any_not.symm
theorem s5(l:List Sk)(hl:BO l):PC 104 [sl AB l,.v (.func (.func 105) #[] #[])] (vb (l.any fun s=>!OO s)):=
 (AeK (fF:=105) C3.nil l (fun s=>!OO s) (fun s _=>Aa4 s) hl).args ⟨.refl _,Cj.fn 105,trivial⟩
def Pr(l:List Lo)(i:Nat):Bool:=match l[i]? with
 |none=>true
 |some e=>HP e&&(decide (i=0)||Ez (l[i-1]?.getD e).path e.path)
section
variable {l:List Lo}{i:Nat}
theorem IA(h:i<l.length):Pr l i=(HP l[i]&&(decide (i=0)||Ez (l[i-1]' Wk).path l[i].path)):=by
 rw[Pr,Ge h];simp only;rw[Ge (show i-1<l.length by omega)];rfl
theorem eP(h:∀j,j<l.length->Pr l j=true):Bb (l.map DA)=true/\l.all HP=true:=by
 have hk:∀j (hj:j<l.length),HP l[j]=true/\(0<j->Ez (l[j-1]' Wk).path l[j].path=true):=fun j hj=>by
  have q:=h j hj;rw[IA hj]at q;obtain⟨q1,q2⟩:=Bool.and_eq_true_iff.1 q;exact⟨q1,fun h0=>by simpa[show j≠0 by omega]using q2⟩
 refine⟨mI ?_,A0.2 fun e he=>?_⟩
 .have go:∀j i (hi:i<l.length) (hj:j<l.length),i<j->Ez l[i].path l[j].path=true:=by
   intro j
   induction j with
   |zero=>intro i _ _ h;omega
   |succ j ih=>
    intro i hi hj bD;have q:=(hk (j+1) hj).2 Wk
    by_cases e:i=j
    .subst e;exact q
    .exact Ei (ih i hi Wk Wk) q
  show(l.map DA).Pairwise _;rw[Im,Cs];exact fun i j hi hj bD=>go j i hi hj bD
 .obtain⟨j,hj,rfl⟩:=Dn.1 he;exact(hk j hj).1
theorem Nc(h:i<l.length)(k:Pr l i=false):¬(Bb (l.map DA)=true/\l.all HP=true):=by
 rintro⟨h1,h2⟩
 have h1:(l.map DA).Pairwise (fun a b=>Ez a.path b.path=true):=(Iq h1).1;rw[IA h,A0.1 h2 _ (Ah h),Sn]at k;obtain⟨k1,k2⟩:=Bool.or_eq_false_iff.1 k;have k1:i≠0:=of_decide_eq_false k1;rw[Im,Cs]at h1
 have:=h1 (i-1) i Wk h Wk
 rw[k2]at this;cases this
end
theorem CK{l:Lk}(h:¬(AH l.roots=0/\l.ents.length<=1024/\l.infs.length<=65536/\l.skips.length<=65536/\(Bb (Hl l)=true/\l.ents.all HP=true)/\l.infs.all OK=true/\l.skips.all OO=true)):CH l=false:=by
 cases e:CH l with
 |false=>rfl
 |true=>
  refine absurd ?_ h;unfold CH at e;simp only[Ak,A4]at e;obtain⟨a1,a2,a3,a4,a5,a6,a7,a8⟩:=e;exact⟨a1,a2,a3,a4,⟨a5,a6⟩,a7,a8⟩
theorem TZ{l:Lk}(a1:AH l.roots=0)(a2:l.ents.length<=1024)(a3:l.infs.length<=65536)(a4:l.skips.length<=65536)(a5:Bb (Hl l)=true/\l.ents.all HP=true)(a7:l.infs.all OK=true):CH l=l.skips.all OO:=by
 unfold CH;rw[Av a1,Av a2,Av a3,Av a4,a5.1,a5.2,a7];simp
theorem oF(hp:Fl p):PC 66 [vs p] (match AT p with | none=>.tup [vs ⟨#[]⟩,vi 0,vi 4] | some m=>.tup [vs (UA p),vi m,vi 0]):=by
 cases e:AT p with
 |none=>exact VC.none hp e
 |some m=>exact VC.some hp e
theorem YE(Sw:∀q∈l.roots,IE q)(qm:∀e∈l.ents,Fl e.path)(ki:l.ents.length<=1000000)(sA:l.infs.length<=1000000)(Uh:l.skips.length<=1000000):PC 48 [.agg (Do l)] (vb (CH l)):=by
 refine Ps (pC [1] [10,16]) func48 rfl (Nz rfl) (C1 (C2 (c65 VC l.roots Sw) (Yi (fun h1=>?_) (fun h1=>?_))))
 .have h1:((AH l.roots):Int)≠(0:Int):=h1;exact Cj.of_eq (Aa vb (CK (fun c=>h1 c.1)).symm)
 have h1:((AH l.roots):Int)=(0:Int):=Aw h1;refine Yi (fun h3=>?_) (fun h3=>?_)
 .have h3:(1024:Int)<((l.ents.map Cz).length:Int):=h3;have n3:1024<l.ents.length:=by have q:=h3;rw[Lm]at q;omega
  exact Cj.of_eq (Aa vb (CK (fun c=>absurd c.2.1 (by have q:=h3;rw[Lm]at q;omega))).symm)
 have h3:¬((1024:Int)<((l.ents.map Cz).length:Int)):=h3;have n3:¬1024<l.ents.length:=by have q:=h3;rw[Lm]at q;omega
 refine Yi (fun h5=>?_) (fun h5=>?_)
 .have h5:(65536:Int)<((l.infs.map AG).length:Int):=h5;have n5:65536<l.infs.length:=by have q:=h5;rw[Lm]at q;omega
  exact Cj.of_eq (Aa vb (CK (fun c=>absurd c.2.2.1 (by have q:=h5;rw[Lm]at q;omega))).symm)
 have h5:¬((65536:Int)<((l.infs.map AG).length:Int)):=h5;have n5:¬65536<l.infs.length:=by have q:=h5;rw[Lm]at q;omega
 refine Yi (fun h7=>?_) (fun h7=>?_)
 .have h7:(65536:Int)<((l.skips.map AB).length:Int):=h7;have n7:65536<l.skips.length:=by have q:=h7;rw[Lm]at q;omega
  exact Cj.of_eq (Aa vb (CK (fun c=>absurd c.2.2.2.1 (by have q:=h7;rw[Lm]at q;omega))).symm)
 have h7:¬((65536:Int)<((l.skips.map AB).length:Int)):=h7;have n7:¬65536<l.skips.length:=by have q:=h7;rw[Lm]at q;omega
 refine Xi {q:Nat // q<=l.ents.length/\∀j,j<q->Pr l.ents j=true} (Xi (fun q=>⟨[(1,.ref 1 0),(33,sl Cz l.ents),(34,vi (l.ents.map Cz).length),(35,vi q.1)],[(1,.ro (Do l))],Af⟩) (Xi (fun q=>l.ents.length-q.1) (Yi (Xi ⟨0,Al _,fun j h=>absurd h (Cf _)⟩ ?_) ?_)))
 .exact⟨Z4,Z1,Fh,Tv⟩
 intro⟨i,i1,i2⟩;have i1:i<=l.ents.length:=i1;have i2:∀j,j<i->Pr l.ents j=true:=i2;refine Yi (fun h9=>?_) (fun h9=>?_)
 .have h9:(i:Int)<((l.ents.map Cz).length:Int):=h9;have n9:=Ha h9;refine Xi (Cz l.ents[i]) (Yi (I0 n9) (Yi rfl (yN (yN (Ax (CO (AT l.ents[i].path)) (fun HQ=>?_) (fun HQ=>?_))))))
  .refine Ao HQ (fun mj HQ=>?_);have MA:=(oF l.ents[i].path (qm _ (Ah n9)));rw[HQ]at MA;refine C1 (C2 MA (Yi (fun h=>absurd h aa1) (fun _=>?_)));refine yN (Ax (Bt (By l.ents[i].ver)) (fun F2=>?_) (fun F2=>?_))
   .have F2:(By l.ents[i].ver)=true:=F2;refine C2 (cb F2 (po l.ents[i].ver)) (Yi (fun Hr=>?_) (fun Hr=>?_))
    .have Hr:(l.ents[i].ver.a:Int)≠(mj:Int):=Hr;refine Yi aa2 ?_;have eK:Pr l.ents i=false:=by rw[IA n9,HP,show AT l.ents[i].path=some mj from HQ,Aq (fun e=>Hr (DU e).symm)];rfl
     exact Cj.of_eq (Aa vb (CK (fun c=>Nc n9 eK c.2.2.2.2.1)).symm)
    have Hr:(l.ents[i].ver.a:Int)=(mj:Int):=Aw Hr;refine Ax (Bt (CI l.ents[i].arch)) (fun IR=>?_) (fun IR=>?_)
    .have IR:(CI l.ents[i].arch)=true:=IR;refine C2 (cb IR (r6 l.ents[i].arch)) (Ax (Bt (CI l.ents[i].ifc)) (fun Hi=>?_) (fun Hi=>?_))
     .have Hi:(CI l.ents[i].ifc)=true:=Hi;refine C2 (cb Hi (r6 l.ents[i].ifc)) (Yi (fun Mx=>?_) (fun Mx=>?_))
      .have Mx:(0:Int)<(i:Int):=Mx;refine Yi (by show Au ((i:Int)-(1:Int));unfold Au;omega) (Xi (Cz (l.ents[i-1]' Wk)) (Yi (Yi (show(0:Int)<=(i:Int)-1 by omega) (by rw[show((i:Int)-1).toNat=i-1 by omega];exact Bq (Ge Wk))) (Yi rfl ?_)));refine Yi (fun Om=>?_) (fun Om=>?_)
       .have Om:Ez (l.ents[i-1]' Wk).path l.ents[i].path=false:=(D1 _ _).trans Om;refine Yi aa2 ?_;have eK:Pr l.ents i=false:=by rw[IA n9,HP,show AT l.ents[i].path=some mj from HQ,Av (Aa some (show mj=l.ents[i].ver.a from Hr.symm)),F2,IR,Hi,Aq (show ¬i=0 by omega),Om];rfl
        exact Cj.of_eq (Aa vb (CK (fun c=>Nc n9 eK c.2.2.2.2.1)).symm)
       have Om:Ez (l.ents[i-1]' Wk).path l.ents[i].path=true:=(D1 _ _).trans (by simpa using Om);refine Yi aa2 (Yi (Ii i Wk) ?_);have eK:Pr l.ents i=true:=by rw[IA n9,HP,show AT l.ents[i].path=some mj from HQ,Av (Aa some (show mj=l.ents[i].ver.a from Hr.symm)),F2,IR,Hi,Aq (show ¬i=0 by omega),Om];rfl
       refine Xi ⟨i+1,n9,fun j h=>by rcases BR j i with h2 | h2;exact i2 j h2;have e:j=i:=Wk;subst e;exact eK⟩ ?_;exact⟨Dl l.ents.length i Wk,Z4,Z1,Fh,Tv⟩
      have Mx:¬((0:Int)<(i:Int)):=Mx;refine Yi aa2 (Yi (Ii i Wk) ?_);have eK:Pr l.ents i=true:=by rw[IA n9,HP,show AT l.ents[i].path=some mj from HQ,Av (Aa some (show mj=l.ents[i].ver.a from Hr.symm)),F2,IR,Hi,Av (show i=0 by omega)];rfl
      refine Xi ⟨i+1,n9,fun j h=>by rcases BR j i with h2 | h2;exact i2 j h2;have e:j=i:=Wk;subst e;exact eK⟩ ?_;exact⟨Dl l.ents.length i Wk,Z4,Z1,Fh,Tv⟩
     have Hi:(CI l.ents[i].ifc)=false:=Hi;refine C2 (cb Hi (r6 l.ents[i].ifc)) (Yi aa2 ?_);have eK:Pr l.ents i=false:=by rw[IA n9,HP,show AT l.ents[i].path=some mj from HQ,Av (Aa some (show mj=l.ents[i].ver.a from Hr.symm)),F2,IR,Hi];rfl
     exact Cj.of_eq (Aa vb (CK (fun c=>Nc n9 eK c.2.2.2.2.1)).symm)
    have IR:(CI l.ents[i].arch)=false:=IR;refine C2 (cb IR (r6 l.ents[i].arch)) (Yi aa2 ?_);have eK:Pr l.ents i=false:=by rw[IA n9,HP,show AT l.ents[i].path=some mj from HQ,Av (Aa some (show mj=l.ents[i].ver.a from Hr.symm)),F2,IR];rfl
    exact Cj.of_eq (Aa vb (CK (fun c=>Nc n9 eK c.2.2.2.2.1)).symm)
   have F2:(By l.ents[i].ver)=false:=F2;refine C2 (cb F2 (po l.ents[i].ver)) (Yi aa2 ?_);have eK:Pr l.ents i=false:=by rw[IA n9,HP,F2];simp
   exact Cj.of_eq (Aa vb (CK (fun c=>Nc n9 eK c.2.2.2.2.1)).symm)
  have MA:=(oF l.ents[i].path (qm _ (Ah n9)));rw[HQ]at MA;refine C1 (C2 MA (Yi (fun _=>?_) (fun h=>absurd aa1 h)));refine Yi aa2 ?_;have eK:Pr l.ents i=false:=by rw[IA n9,HP,show AT l.ents[i].path=none from HQ];rfl
  exact Cj.of_eq (Aa vb (CK (fun c=>Nc n9 eK c.2.2.2.2.1)).symm)
 have h9:¬((i:Int)<((l.ents.map Cz).length:Int)):=h9;have n9:=Et h9;refine cU [(1,.ref 1 0)] [(1,.ro (Do l))] Z1 Z1 (Xi {q:Nat // q<=l.infs.length/\∀j (h:j<l.infs.length),j<q->OK l.infs[j]=true} (Xi (fun q=>⟨[(1,.ref 1 0),(92,sl AG l.infs),(93,vi (l.infs.map AG).length),(94,vi q.1)],[(1,.ro (Do l))],Af⟩) (Xi (fun q=>l.infs.length-q.1) (Yi (Xi ⟨0,Al _,fun j _ h=>absurd h (Cf _)⟩ ?_) ?_))))
 .exact⟨Z4,Z1,Fh,Tv⟩
 intro⟨k,k1,k2⟩;have k1:k<=l.infs.length:=k1;have k2:∀j (h:j<l.infs.length),j<k->OK l.infs[j]=true:=k2;refine Yi (fun RS=>?_) (fun RS=>?_)
 .have RS:(k:Int)<((l.infs.map AG).length:Int):=RS;have n25:=Ha RS;refine Xi (AG l.infs[k]) (Yi (I0 n25) (Yi rfl (yN (yN (Yi (fun bC=>?_) (fun bC=>?_))))))
  .have bC:(l.infs[k].kind:Int)<(0:Int):=bC;have eN:OK l.infs[k]=false:=by unfold OK;exact Aq (fun c=>absurd c.1 (by have q:=bC;omega))
   exact Cj.of_eq (Aa vb (CK (fun c=>by have q:=A0.1 c.2.2.2.2.2.1 _ (Ah n25);rw[eN]at q;cases q)).symm)
  have bC:¬((l.infs[k].kind:Int)<(0:Int)):=bC;refine Yi (fun Wy=>?_) (fun Wy=>?_)
  .have Wy:(3:Int)<(l.infs[k].kind:Int):=Wy;have eN:OK l.infs[k]=false:=by unfold OK;exact Aq (fun c=>absurd c.2.1 (by have q:=Wy;omega))
   exact Cj.of_eq (Aa vb (CK (fun c=>by have q:=A0.1 c.2.2.2.2.2.1 _ (Ah n25);rw[eN]at q;cases q)).symm)
  have Wy:¬((3:Int)<(l.infs[k].kind:Int)):=Wy;refine Ax (Bt (VO l.infs[k].path [l.infs[k].place,l.infs[k].number,l.infs[k].left,l.infs[k].right])) (fun cJ=>?_) (fun cJ=>?_)
  .have cJ:(VO l.infs[k].path [l.infs[k].place,l.infs[k].number,l.infs[k].left,l.infs[k].right])=true:=cJ;refine C1 (C2 (cb cJ (show PC 103 [vs l.infs[k].path,.slice .none [[vi l.infs[k].place],[vi l.infs[k].number],[vi l.infs[k].left],[vi l.infs[k].right]]] (vb (VO l.infs[k].path [l.infs[k].place,l.infs[k].number,l.infs[k].left,l.infs[k].right]))from r7 l.infs[k].path [l.infs[k].place,l.infs[k].number,l.infs[k].left,l.infs[k].right] (show 4<=1073741824 by decide))) (Yi (Ii k Wk) ?_));have eN:OK l.infs[k]=true:=(sT l.infs[k] bC Wy).symm.trans cJ;refine Xi ⟨k+1,n25,fun j hj h=>by rcases BR j k with h2 | h2;exact k2 j hj h2;have e:j=k:=Wk;subst e;exact eN⟩ ?_;exact⟨Dl l.infs.length k Wk,Z4,Z1,Fh,Tv⟩
  have cJ:(VO l.infs[k].path [l.infs[k].place,l.infs[k].number,l.infs[k].left,l.infs[k].right])=false:=cJ;refine C1 (C2 (cb cJ (show PC 103 [vs l.infs[k].path,.slice .none [[vi l.infs[k].place],[vi l.infs[k].number],[vi l.infs[k].left],[vi l.infs[k].right]]] (vb (VO l.infs[k].path [l.infs[k].place,l.infs[k].number,l.infs[k].left,l.infs[k].right]))from r7 l.infs[k].path [l.infs[k].place,l.infs[k].number,l.infs[k].left,l.infs[k].right] (show 4<=1073741824 by decide))) ?_);have eN:OK l.infs[k]=false:=(sT l.infs[k] bC Wy).symm.trans cJ;exact Cj.of_eq (Aa vb (CK (fun c=>by have q:=A0.1 c.2.2.2.2.2.1 _ (Ah n25);rw[eN]at q;cases q)).symm)
 have RS:¬((k:Int)<((l.infs.map AG).length:Int)):=RS;have n25:=Et RS;refine cU [(1,.ref 1 0)] [(1,.ro (Do l))] Z1 Z1 (Ax (Bt (l.skips.any fun s=>!OO s)) (fun SI=>?_) (fun SI=>?_))
 .have SI:(l.skips.any fun s=>!OO s)=true:=SI;refine C1 (C2 (cb SI (s5 l.skips (AS Uh aa1))) ?_);have eF:CH l=l.skips.all OO:=TZ h1 (by have q:=h3;rw[Lm]at q;omega) (by have q:=h5;rw[Lm]at q;omega) (by have q:=h7;rw[Lm]at q;omega) (eP fun j hj=>i2 j (AM hj (BF (Et h9)))) (A0.2 fun z hz=>by obtain⟨j,hj,rfl⟩:=Dn.1 hz;exact k2 j hj (AM hj (BF (Et RS))));have eS:(l.skips.any fun s=>!OO s)=true:=SI;rw[dY]at eS;exact Cj.of_eq (Aa vb (show false=CH l by rw[eF,<-Bool.not_not (l.skips.all OO),eS];rfl))
 have SI:(l.skips.any fun s=>!OO s)=false:=SI;refine C1 (C2 (cb SI (s5 l.skips (AS Uh aa1))) ?_);have eF:CH l=l.skips.all OO:=TZ h1 (by have q:=h3;rw[Lm]at q;omega) (by have q:=h5;rw[Lm]at q;omega) (by have q:=h7;rw[Lm]at q;omega) (eP fun j hj=>i2 j (AM hj (BF (Et h9)))) (A0.2 fun z hz=>by obtain⟨j,hj,rfl⟩:=Dn.1 hz;exact k2 j hj (AM hj (BF (Et RS))));have eS:(l.skips.any fun s=>!OO s)=false:=SI;rw[dY]at eS;exact Cj.of_eq (Aa vb (show true=CH l by rw[eF,<-Bool.not_not (l.skips.all OO),eS];rfl))
theorem Aa2(Sw:∀q∈l.roots,IE q)(qm:∀e∈l.ents,Fl e.path)(ki:l.ents.length<=1000000)(sA:l.infs.length<=1000000)(Uh:l.skips.length<=1000000):PC 25 [.agg (Do l)] (vi (if CH l=true then 0 else 1)):=by
 refine Ps (pC [1] []) func25 rfl (Nz rfl) (yN (Ax (Bt (CH l)) (fun h1=>?_) (fun h1=>?_)))
 .have h1:(CH l)=true:=h1;refine C1 (C2 (cb h1 (YE l Sw qm ki sA Uh)) ?_);exact Cj.of_eq (Aa vi (show 0=if CH l=true then 0 else 1 by rw[h1];rfl))
 have h1:(CH l)=false:=h1;refine C1 (C2 (cb h1 (YE l Sw qm ki sA Uh)) ?_);exact Cj.of_eq (Aa vi (show 1=if CH l=true then 0 else 1 by rw[h1];rfl))
abbrev zrR:Rl:=⟨⟨#[]⟩,⟨0,0,0⟩,[],⟨#[]⟩,⟨#[]⟩,⟨#[]⟩,false⟩
def MX(x:List Rl)(e:Lo):Rl:=(AY x (DA e)).getD zrR
theorem Yt{e:Lo}{r:Rl}(h:AY x (DA e)=some r):MX x e=r:=by rw[MX,h];rfl
theorem sY{l:List Lo}(h:k<l.length):(0:Int)<=(k:Int)/\((l.map (MX x)).map Am)[((k:Nat):Int).toNat]?=some (Am (MX x l[k])):=by
 have q:=I0 (f:=Am) (l:=l.map (MX x)) (i:=k) (by rw[Lm];exact h);rw[List.getElem_map]at q;exact q
theorem rn{l:List Lo}(h:i<l.length):(l.take (i+1)).map (MX x)=(l.take i).map (MX x)++[MX x l[i]]:=by rw[EQ h,Bk];rfl
section
variable {x:List Rl}{l:Lk}
theorem rY(h:¬(At x=0/\CH l=true)):1=VV x l:=by
 unfold VV;rw[A3]
 by_cases h1:At x=0
 .right;cases e:CH l with
  |false=>rfl
  |true=>exact absurd ⟨h1,e⟩ h
 .exact .inl h1
theorem Aa0(h1:At x=0)(h2:CH l=true)(hi:i<l.ents.length)(h:AY x (DA l.ents[i])=none):6=VV x l:=by
 unfold VV;rw[AN (by rw[h2];simp[h1]),A3];refine List.all_eq_false.2 ⟨_,Ah hi,?_⟩;rw[h];decide
theorem oD(h:∀j (hj:j<l.ents.length),(AY x (DA l.ents[j])).isSome=true):l.ents.all (fun e=>(AY x (DA e)).isSome)=true:=A0.2 fun e he=>by
 obtain⟨j,hj,rfl⟩:=Dn.1 he;exact h j hj
theorem V5{e:Lo}(h:(AY x (DA e)).isSome=true):JF x e=(decide (e.arch=(MX x e).arch)&&decide (e.ifc=(MX x e).ifc)):=by
 unfold JF MX;cases q:AY x (DA e)with
 |none=>rw[q]at h;cases h
 |some r=>rfl
theorem rZ(h1:At x=0)(h2:CH l=true)(h3:∀j (hj:j<l.ents.length),(AY x (DA l.ents[j])).isSome=true)(hk:k<l.ents.length)(h:JF x l.ents[k]=false):9=VV x l:=by
 unfold VV;rw[AN (by rw[h2];simp[h1]),AN (by rw[oD h3];decide),A3];exact List.all_eq_false.2 ⟨_,Ah hk,by rw[h];decide⟩
theorem rX(h1:At x=0)(h2:CH l=true)(h3:∀j (hj:j<l.ents.length),(AY x (DA l.ents[j])).isSome=true)(h:∀k (hk:k<l.ents.length),JF x l.ents[k]=true):VV x l=if Dk x l.roots (KD l)≠0 then 18 else 0:=by
 unfold VV;rw[AN (by rw[h2];simp[h1]),AN (by rw[oD h3];decide),AN];rw[A0.2 fun e he=>by obtain⟨j,hj,rfl⟩:=Dn.1 he;exact h j hj];decide
end
theorem Aa7(x:List Rl)(ifs:C0)(l:Lk)(_:∀r∈x,Fk r)(_:BO x)(h47:PC 47 [.agg (Ic x ifs)] (vi (At x)))(sf:∀p v,PC 40 [.agg (Ic x ifs),vs p,.agg (Ej v)] (G5 (AY x ⟨p,v⟩)))(h48:PC 48 [.agg (Do l)] (vb (CH l)))(qa:PC 49 [.agg (Ic x ifs),sl Ad l.roots,.agg [vb true,sl Ae (Hl l),sl AG l.infs,sl AB l.skips]] (vi (Dk x l.roots (KD l))))(ki:l.ents.length<=1000000):PC 18 [.agg (Ic x ifs),.agg (Do l)] (vi (VV x l)):=by
 refine Ps (pT [2,3] [(5,9)] [12]) func18 rfl (Nz rfl) (yN (C1 (C2 h47 (Yi (fun h1=>?_) (fun h1=>?_)))))
 .have h1:((At x):Int)≠(0:Int):=h1;exact Cj.of_eq (Aa vi (rY (fun c=>h1 c.1)))
 have h1:((At x):Int)=(0:Int):=Aw h1;refine yN (Ax (Bt (CH l)) (fun h3=>?_) (fun h3=>?_))
 .have h3:(CH l)=true:=h3;refine C1 (C2 (cb h3 h48) (Xi {q:Nat // q<=l.ents.length/\(∀j (hj:j<l.ents.length),j<q->(AY x (DA l.ents[j])).isSome=true)} (Xi (fun q=>⟨[(2,.ref 2 0),(3,.ref 3 0),(5,.slice (.id 5 9) (((l.ents.take q.1).map (MX x)).map Am)),(21,sl Cz l.ents),(22,vi (l.ents.map Cz).length),(23,vi q.1)],[(2,.ro (Ic x ifs)),(3,.ro (Do l)),(5,.tok 9 ((l.ents.take q.1).map (MX x)).length)],Af⟩) (Xi (fun q=>l.ents.length-q.1) (Yi (Xi ⟨0,Al _,fun j _ h=>absurd h (Cf _)⟩ ?_) ?_)))))
  .exact⟨Z6,Z3,Fh,Tv⟩
  intro⟨i,i1,i2⟩;have i1:i<=l.ents.length:=i1;have i2:∀j (hj:j<l.ents.length),j<i->(AY x (DA l.ents[j])).isSome=true:=i2;have hT:((l.ents.take i).map (MX x)).length<=1000000:=(by rw[Lm,BW];omega);refine Yi (fun h4=>?_) (fun h4=>?_)
  .have h4:(i:Int)<((l.ents.map Cz).length:Int):=h4;have n4:=Ha h4;refine Xi (Cz l.ents[i]) (Yi (I0 n4) (Yi rfl (yN (yN (yN (yN (Ax (CO (AY x ⟨l.ents[i].path,l.ents[i].ver⟩)) (fun h5=>?_) (fun h5=>?_))))))))
   .refine Ao h5 (fun r h5=>?_);have Ua:=(sf l.ents[i].path l.ents[i].ver);rw[h5]at Ua;refine C1 (C2 Ua (yN (yN (Yi (YG rfl (show((l.ents.take i).map (MX x)).length<=2147483647 by omega) aa1) (Yi (Ii i Wk) ?_)))));have er:((l.ents.take i).map (MX x))++[r]=((l.ents.take (i+1)).map (MX x)):=by rw[rn n4,Yt h5]
    refine Xi ⟨i+1,n4,fun j hj h=>by rcases BR j i with h2 | h2;exact i2 j hj h2;have e:j=i:=Wk;subst e;rw[h5];rfl⟩ ?_;exact⟨Dl l.ents.length i Wk,⟨Zr,Zr,⟨(show AV.slice (.id 5 9) ((((l.ents.take i).map (MX x)).map Am)++[(Am r)])=.slice (.id 5 9) (((l.ents.take (i+1)).map (MX x)).map Am) by rw[<-er,Bk];rfl),rfl⟩,Zr,Zr,Zr,Tv⟩,⟨Zr,Zr,⟨(show HO.tok 9 ((((l.ents.take i).map (MX x)).map Am).length+([(Am r)]:C0).length)=.tok 9 ((l.ents.take (i+1)).map (MX x)).length by rw[<-er];simp),rfl⟩,Tv⟩,Fh,Tv⟩
   have Ua:=(sf l.ents[i].path l.ents[i].ver);rw[h5]at Ua;refine C1 (C2 Ua (yN ?_));exact Cj.of_eq (Aa vi (Aa0 h1 h3 n4 h5))
  have h4:¬((i:Int)<((l.ents.map Cz).length:Int)):=h4;have n4:=Et h4;have ei:l.ents.take i=l.ents:=A5 (BF (Et h4));have i3:∀j (hj:j<l.ents.length),(AY x (DA l.ents[j])).isSome=true:=fun j hj=>i2 j hj (AM hj (BF (Et h4)));refine cU [(2,.ref 2 0),(3,.ref 3 0),(5,.slice (.id 5 9) ((l.ents.map (MX x)).map Am))] [(2,.ro (Ic x ifs)),(3,.ro (Do l)),(5,.tok 9 (l.ents.map (MX x)).length)] ⟨Zr,Zr,⟨(show AV.slice (.id 5 9) (((l.ents.take i).map (MX x)).map Am)=AV.slice (.id 5 9) ((l.ents.map (MX x)).map Am) by rw[ei]),rfl⟩,Tv⟩ ⟨Zr,Zr,⟨(show HO.tok 9 ((l.ents.take i).map (MX x)).length=HO.tok 9 (l.ents.map (MX x)).length by rw[ei]),rfl⟩,Tv⟩ ?_
  refine Xi {q:Nat // q<=l.ents.length/\(∀j (hj:j<l.ents.length),j<q->JF x l.ents[j]=true)} (Xi (fun q=>⟨[(2,.ref 2 0),(3,.ref 3 0),(5,.slice (.id 5 9) ((l.ents.map (MX x)).map Am)),(44,sl Cz l.ents),(45,vi (l.ents.map Cz).length),(46,vi q.1)],[(2,.ro (Ic x ifs)),(3,.ro (Do l)),(5,.tok 9 (l.ents.map (MX x)).length)],Af⟩) (Xi (fun q=>l.ents.length-q.1) (Yi (Xi ⟨0,Al _,fun j _ h=>absurd h (Cf _)⟩ ?_) ?_)))
  .exact⟨Z6,Z3,Fh,Tv⟩
  intro⟨k,k1,k2⟩;have k1:k<=l.ents.length:=k1;have k2:∀j (hj:j<l.ents.length),j<k->JF x l.ents[j]=true:=k2;refine Yi (fun h9=>?_) (fun h9=>?_)
  .have h9:(k:Int)<((l.ents.map Cz).length:Int):=h9;have n9:=Ha h9;refine Xi (Cz l.ents[k]) (Yi (I0 n9) (Yi rfl (yN (yN (Xi (Am (MX x l.ents[k])) (Yi (sY n9) (Yi rfl (Yi (fun F2=>?_) (fun F2=>?_)))))))))
   .have F2:(l.ents[k].arch:CS)≠(MX x l.ents[k]).arch:=F2;refine Yi aa2 ?_;have eA:JF x l.ents[k]=false:=by rw[V5 (i3 k n9),Aq F2];rfl
    exact Cj.of_eq (Aa vi (rZ h1 h3 i3 n9 eA))
   have F2:(l.ents[k].arch:CS)=(MX x l.ents[k]).arch:=Aw F2;refine Xi (Am (MX x l.ents[k])) (Yi (sY n9) (Yi rfl (Yi (fun IR=>?_) (fun IR=>?_))))
   .have IR:(l.ents[k].ifc:CS)≠(MX x l.ents[k]).ifc:=IR;refine Yi aa2 ?_;have eA:JF x l.ents[k]=false:=by rw[V5 (i3 k n9),Av F2,Aq IR];rfl
    exact Cj.of_eq (Aa vi (rZ h1 h3 i3 n9 eA))
   have IR:(l.ents[k].ifc:CS)=(MX x l.ents[k]).ifc:=Aw IR;refine Yi aa2 (Yi (Ii k Wk) ?_);have eA:JF x l.ents[k]=true:=by rw[V5 (i3 k n9),Av F2,Av IR];rfl
   refine Xi ⟨k+1,n9,fun j hj h=>by rcases BR j k with h2 | h2;exact k2 j hj h2;have e:j=k:=Wk;subst e;exact eA⟩ ?_;exact⟨Dl l.ents.length k Wk,Z6,Z3,Fh,Tv⟩
  have h9:¬((k:Int)<((l.ents.map Cz).length:Int)):=h9;have n9:=Et h9;refine yN (yN (C2 (Aa1 l ki) (C2 qa (Yi (fun Om=>?_) (fun Om=>?_)))))
  .have Om:((Dk x l.roots (KD l)):Int)≠(0:Int):=Om;refine Yi aa2 ?_;exact Cj.of_eq (Aa vi (show 18=VV x l by rw[rX h1 h3 i3 (fun j hj=>k2 j hj (AM hj (BF (Et h9)))),A3 Om]))
  have Om:((Dk x l.roots (KD l)):Int)=(0:Int):=Aw Om;refine Yi aa2 ?_;exact Cj.of_eq (Aa vi (show 0=VV x l by rw[rX h1 h3 i3 (fun j hj=>k2 j hj (AM hj (BF (Et h9)))),AN (fun h=>h Om)]))
 have h3:(CH l)=false:=h3;refine C1 (C2 (cb h3 h48) ?_);exact Cj.of_eq (Aa vi (rY (fun c=>by have q:=h3;rw[c.2]at q;cases q)))
end Go.Eng
