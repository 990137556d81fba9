/- Lemmas 32. -/
import Derived.Test.YtkjhcikodmiceaaGreatDoorCA31
import Derived.Shelf.Sort.Plain
import Derived.Shelf.Slices.CompactS
import Derived.Ground.NamesProg
set_option maxHeartbeats 4000000
namespace Go.Eng
open Go.Proofs
abbrev Au8:=List F
abbrev Au9:=List Rq
abbrev Av0:=List (List Sk)
abbrev Av1:=List (List V)
variable {p:CS}{l:List CS}{h:Nat->HO}{n k:Nat}{a:AV}(y x:Au8)(j:Nat)(r:F)
abbrev Tx:List AV:=A2 ⟨plc r.ver,r⟩
abbrev GA(p:CS):C0:=(y.filter fun r=>decide (r.path=p)).map Tx
abbrev dg(q:CS×Nat):Value×AV:=(.string q.1,.slice (.id (q.2+100) 10) (GA y q.1))
abbrev Jm:List (Value×AV):=(AL y []).zipIdx.map (dg y)
def Gi(l:Nat):HO:=match(AL y [])[l]? with
 |some q=>.tok 10 (GA y q).length
 |none=>.free
def Jn:HO:=bif Nat.ble 100 j&&Nat.blt j 1000 then Gi y (j-100)else .free
theorem EW(hy:y.length<=256)(l:Nat):Jn y (l+100)=Gi y l:=by
 unfold Jn;rw[show Nat.ble 100 (l+100)=true by rw[PP];omega,Bool.true_and,Nat.add_sub_cancel]
 by_cases h:l+100<1000
 .rw[show Nat.blt (l+100) 1000=true by rw[FS];exact h];rfl
 .rw[show Nat.blt (l+100) 1000=false by rw[Bg];intro hc;rw[FS]at hc;omega]
  have:=Hv y []
  rw[A4]at this;unfold Gi;rw[EP I];rfl
theorem wI{j:Nat}(h:j<100):Jn y j=.free:=by
 unfold Jn;rw[show Nat.ble 100 j=false by rw[Bg];intro hc;rw[PP]at hc;omega];rfl
theorem Hu(q:CS):GA (y++[r]) q=if r.path=q then GA y q++[Tx r]else GA y q:=by
 unfold GA;rw[PM]
 by_cases h:r.path=q
 .rw[AO h,List.filter_cons_of_pos (by simpa using h)];simp
 .rw[AB h,List.filter_cons_of_neg (by simpa using h)];simp
section
variable {y:Au8}{r:F}{k:Nat}
open Classical in
theorem re(h:(AL y [])[k]?=some r.path):EN (Jm y) (.string r.path) (.slice (.id (k+100) 10) (GA y r.path++[Tx r]))=Jm (y++[r]):=by
 have hd:=EM y [] GX;have hm:dg y (r.path,k)∈Jm y:=Ap.2 ⟨_,HJ.2 h,rfl⟩;rw[dZ (a':=.slice (.id (k+100) 10) (GA y r.path)) hm];unfold Jm;rw[Lp h,Bo];refine Ca fun q hq=>?_;have hg:=Rr hq;obtain⟨q,j⟩:=q;show(if Value.string q=Value.string r.path then _ else _)=dg (y++[r]) (q,j)
 by_cases he:q=r.path
 .subst he
  have:j=k:=Jw hd hg h
  subst this;rw[AO rfl];show _=(Value.string r.path,AV.slice (.id (j+100) 10) (GA (y++[r]) r.path));rw[Hu,AO rfl]
 .rw[AB (fun e=>he (by simpa using e))];show(Value.string q,AV.slice (.id (j+100) 10) (GA y q))=(Value.string q,AV.slice (.id (j+100) 10) (GA (y++[r]) q));rw[Hu,AB (fun e=>he e.symm)]
theorem eT(h:r.path∉AL y []):GA y r.path=[]:=by
 have:y.filter (fun s=>decide (s.path=r.path))=[]:=by
  rw[KN];intro s hs he;exact h ((Hw y [] r.path).2 (.inr ⟨s,hs,B7 he⟩))
 unfold GA;rw[this];rfl
theorem Ye(h:r.path∉AL y [])(a:AV):(Value.string r.path,a)∉Jm y:=by
 intro hc;obtain⟨q,h1,h2⟩:=Ap.1 hc;simp only[dg,Uc,Value.string.injEq]at h2;exact h (by rw[<-h2.1];exact Ax (Rr h1))
theorem q8(h:r.path∉AL y []):EN (Jm y) (.string r.path) (.slice (.id ((AL y []).length+100) 10) [Tx r])=Jm (y++[r]):=by
 rw[IN (fun a=>Ye h a)];unfold Jm;rw[Ln h,List.zipIdx_append,Au]
 congr 1
 .refine Ca fun q hq=>?_;have hg:=Rr hq
  have:q.1≠r.path:=fun e=>h (by rw[<-e];exact Ax hg)
  show(Value.string q.1,AV.slice (.id (q.2+100) 10) (GA y q.1))=(Value.string q.1,AV.slice (.id (q.2+100) 10) (GA (y++[r]) q.1));rw[Hu,AB (fun e=>this e.symm)]
 .show [_]=[(Value.string r.path,AV.slice (.id (0+(AL y []).length+100) 10) (GA (y++[r]) r.path))];rw[Hu,AO rfl,eT h,Dp];rfl
theorem nw{j:Nat}(h:(AL y [])[j]?=some p):(Value.string p,AV.slice (.id (j+100) 10) (GA y p))∈Jm y/\∀b,(Value.string p,b)∈Jm y->b=AV.slice (.id (j+100) 10) (GA y p):=by
 refine⟨Ap.2 ⟨(p,j),HJ.2 h,rfl⟩,fun b hb=>?_⟩;obtain⟨q,h1,h2⟩:=Ap.1 hb;simp only[dg,Uc,Value.string.injEq]at h2;have hg:=Rr h1;rw[h2.1]at hg
 have:=Jw (EM y [] GX) hg h
 rw[<-h2.2,h2.1,this]
theorem mh{j:Nat}(h:(AL y [])[j]?=some p):Gi y j=.tok 10 (GA y p).length:=by
 unfold Gi;rw[h]
theorem uw(h:(AL y [])[k]?=some r.path)(l:Nat):(bif Nat.beq (l+100) (k+100)then HO.tok 10 ((GA y r.path).length+1)else Gi y l)=Gi (y++[r]) l:=by
 by_cases he:l=k
 .subst he;rw[show Nat.beq (l+100) (l+100)=true from Xl _];unfold Gi;rw[Lp h,h];show HO.tok 10 _=HO.tok 10 (GA (y++[r]) r.path).length;rw[Hu,AO rfl,Ac];rfl
 .rw[show Nat.beq (l+100) (k+100)=false by rw[Bg];intro hc;have:=A5 hc;omega];show Gi y l=_;unfold Gi;rw[Lp h];cases hq:(AL y [])[l]? with
  |none=>rfl
  |some q=>
   show HO.tok 10 (GA y q).length=HO.tok 10 (GA (y++[r]) q).length;rw[Hu,AB];intro e;subst e;exact he (Jw (EM y [] GX) hq h)
theorem uv(h:r.path∉AL y [])(l:Nat):(bif Nat.beq (l+100) ((AL y []).length+100)then HO.tok 10 1 else Gi y l)=Gi (y++[r]) l:=by
 by_cases he:l=(AL y []).length
 .subst he;rw[show Nat.beq ((AL y []).length+100) ((AL y []).length+100)=true from Xl _];unfold Gi;rw[Ln h];simp only[Ba (Af _),IW,GT];show HO.tok 10 1=HO.tok 10 (GA (y++[r]) r.path).length;rw[Hu,AO rfl,eT h];rfl
 .rw[show Nat.beq (l+100) ((AL y []).length+100)=false by rw[Bg];intro hc;have:=A5 hc;omega];show Gi y l=_;unfold Gi;rw[Ln h]
  by_cases hl:l<(AL y []).length
  .rw[Cm hl,Ge hl];show HO.tok 10 (GA y (AL y [])[l]).length=HO.tok 10 (GA (y++[r]) (AL y [])[l]).length;rw[Hu,AB];intro e;exact h (by rw[e];exact Am hl)
  .rw[EP I,EP (by rw[Ac];simp;omega)]
end
theorem HZ(hh:∀l,h (l+100)=Gi y l):TM h (Jm y)=true:=by
 refine RX fun p hp=>?_;obtain⟨q,h1,rfl⟩:=Ap.1 hp;show Ui h (q.2+100)=true;unfold Ui;rw[hh,mh (Rr h1)]
theorem GJ{y:Au8}(hy:y.length<=256){h':Nat->HO}(hh:∀l,h (l+100)=Gi y l)(j:Nat):Jn y j=.free\/(h j=Jn y j/\Uj h' (Jn y j)=true):=by
 by_cases hj:j<100
 .exact .inl (wI y hj)
 .obtain⟨l,rfl⟩:∃l,j=l+100:=⟨j-100,by omega⟩
  right
  rw[EW y hy];refine⟨hh l,?_⟩;unfold Gi;cases (AL y [])[l]?<;>rfl
abbrev yR:Au8:=x.filter fun r=>!r.yanked
theorem iM(p:CS):GA (yR x) p=(Bl x p).map A2:=by
 unfold GA Bl;rw[List.filter_filter,Bo]
 rfl
def mC:List (Value×AV):=(AL (yR x) []).map fun p=>(.string p,sl A2 (Bl x p))
theorem sf{x:Au8}:(Value.string p,a)∈mC x↔p∈AL (yR x) []/\a=sl A2 (Bl x p):=by
 unfold mC;rw[Ap];constructor
 .rintro⟨q,hq,e⟩
  injection e with e1 e2
  injection e1 with e1
  subst e1;exact⟨hq,e2.symm⟩
 .rintro⟨h1,h2⟩
  exact⟨p,h1,by rw[h2]⟩
theorem X0{x:Au8}:Bl x p=[]↔p∉AL (yR x) []:=by
 rw[Hw];unfold Bl;rw[DR,KN];constructor
 .rintro h (h1 | ⟨r,h1,h2⟩)
  .cases h1
  .obtain⟨h3,h4⟩:=C3.1 h1;exact h r h3 (by rw[Aq h2,h4];rfl)
 .intro h r hr hc;rw[Ao,AP]at hc;exact h (.inr ⟨r,C3.2 ⟨hr,hc.2⟩,hc.1⟩)
theorem AfN:∀(p:CS) (a:AV),(Value.string p,a)∈mC x->a=sl A2 (Bl x p):=fun _ _ h=>(sf.1 h).2
theorem AfO:∀p:CS,(∀a,(Value.string p,a)∉mC x)->Bl x p=[]:=fun _ h=>X0.2 fun hp=>h _ (sf.2 ⟨hp,rfl⟩)
theorem AfP:∀p:CS,Bl x p=[]->∀a,(Value.string p,a)∉mC x:=fun _ h _ ha=>X0.1 h (sf.1 ha).1
abbrev plN:Of:=⟨[2],[],[],[(52,[12])],[],[12],[50],[(53,(16,3,90,6)),(54,(16,4,91,1)),(55,(16,7,93,10)),(56,(16,8,94,4))],[],[(850013,13),(800013,10016),(810013,20016),(900013,10000000000+92000000+90016)],[5,7,8,9,11,12,13]⟩
abbrev kC(p:CS):Value×AV:=(.string p,sl A2 (Bl x p))
abbrev kA(p:CS):Value×AV:=(.string p,sl Y (BA x p))
theorem xC{x:Au8}{kv:Value×AV}{QW : List (Value×AV)}(h:(l.map (kC x)).Perm (kv::QW)):∃t r,kv=kC x t/\QW=r.map (kC x)/\l.Perm (t::r):=by
 obtain⟨ps,h1,h2⟩:=Nt h l rfl;cases ps with
 |nil=>cases h2
 |cons t r=>
  rw[A7,JX]at h2;exact⟨t,r,h2.1.symm,h2.2.symm,h1.symm⟩
abbrev srN(roots:Au9)(C A:List (Value×AV)):List (Nat×HO):=
 [(2000,.cells [sl Ak roots,.cmap CU C,.cmap CU A,.slice (.id 2001 6) [],.slice (.id 2002 1) [],.mref 2003,Q false,.slice .none [],.slice .none [],.msl 2004 0]),(2001,.tok 6 0),(2002,.tok 1 0),(2003,.map Hb []),(2004,.arr 1 [])]
theorem aI{x:Au8}:(Value.string p,a)∈l.map (kA x)↔p∈l/\a=sl Y (BA x p):=by
 rw[Ap];constructor
 .rintro⟨q,hq,e⟩
  injection e with e1 e2
  injection e1 with e1
  subst e1;exact⟨hq,e2.symm⟩
 .rintro⟨h1,h2⟩
  exact⟨p,h1,by rw[h2]⟩
theorem kB(n:Nat):Jn y (n+1000)=.free:=by
 unfold Jn;rw[show Nat.blt (n+1000) 1000=false by rw[Bg];intro hc;rw[FS]at hc;omega,Bool.and_false];rfl
theorem aa{s:Nat->HO}(H:∀n,h (n+1000)=.free):∀j,1000<=j->j<2000->h j≠.free->s j≠.free:=fun j h1 _ hn=>by
 refine absurd (H (j-1000)) ?_;rw[show j-1000+1000=j by omega];exact hn
theorem vN(h:k<1000):Nat.beq (n+1000) k=false:=by
 rw[Bg];intro hc;have:=A5 hc;omega
theorem jS{y:Au8}{o:HO}(h:k<1000):(bif Nat.beq (n+1000) k then o else Jn y (n+1000))=.free:=by
 rw[vN h,kB];rfl
abbrev qq22:=fun(roots:Au9)=>((16,.cells [sl Ak roots,.mref 12,.mref 13,nzA,nzA,.mref 14,Q false,nzA,nzA,nzA]):Nat×HO)
abbrev qq23:=fun(roots:Au9)=>((16,.cells [sl Ak roots,.mref 12,.mref 13,.slice (.id 90 6) [],.slice (.id 91 1) [],.mref 14,Q false,.slice (.id 93 10) [],.slice (.id 94 4) [],nzA]):Nat×HO)
abbrev qq24:=fun(x:Au8) (ifs:C0) (i:Nat) (roots:Au9)=>([(2,.ro (Ic x ifs)),(12,.mapU CU (Jm (yR (x.take (i+1))))),(13,.map CU []),(14,.map Hb []),(qq22 roots)]:List (Nat×HO))
abbrev qq25:=fun(x:Au8) (i:Nat)=>([(2,.ref 2 0),(5,.ref 16 0),(18,sl Ay x),(19,G (x.map Ay).length),(20,G i)]:List (Nat×AV))
attribute [local irreducible] Iy
set_option maxRecDepth 30000 in
theorem s29(ifs:C0)(roots:Au9)(hx:∀r∈x,Jz r)(h0:AU x=0):A1 Tryz.prog 81 [Sa x ifs,sl Ak roots] (Ah [] Ab) fun r h'=>∃l:List CS,l.Perm (AL (yR x) [])/\r=.ref 2000 0/\h'=Ah (srN roots (mC x) (l.map (kA x))) Ab:=by
 have rP:x.length<=256:=(JM h0).1;refine Bv (Ky plN) [(16,2000),(90,2001),(91,2002),(14,2003),(92,2004)] rfl BO hm rfl Tryz.func81 aa5 rfl C4 aa5 rfl (M 0 (M 0 (M 0 (M {i:Nat // i<=x.length} (M (fun i=>⟨[(2,.ref 2 0),(5,.ref 16 0),(18,sl Ay x),(19,G (x.map Ay).length),(20,G i.1)],[(2,.ro (Ic x ifs)),(12,.mapU CU (Jm (yR (x.take i.1)))),(13,.map CU []),(14,.map Hb []),(qq22 roots)],Jn (yR (x.take i.1))⟩) (M (fun i=>x.length-i.1) (J (M ⟨0,Ai _⟩ ?_) ?_)))))))
 .refine⟨Z5,Z5,fun j=>.inl ?_,AX aa5⟩;show Jn [] j=.free;unfold Jn;cases (Nat.ble 100 j&&Nat.blt j 1000)<;>rfl
 intro⟨i,i1⟩;have hq:∀k,(yR (x.take k)).length<=256:=fun k=>by
  have:=CW (fun r:F=>!r.yanked) (x.take k)
  rw[Bf]at this;show(List.filter _ _).length<=256;omega
 refine M 0 (J ?_ ?_)
 .intro h;have h:i<x.length:=by simpa using h
  have hg:x[i]?=some x[i]:=Ge h;have Mp:x.take (i+1)=x.take i++[x[i]]:=by rw[DV,hg];rfl
  refine M 0 (M (Ay x[i]) (J (J (Nn i) (by simp[hg])) (J rfl ?_)));refine J C4 (U (M ⟨[(2,.ref 2 0),(5,.ref 16 0),(7,.ref 7 0),(18,sl Ay x),(19,G (x.map Ay).length),(20,G i)],[(2,.ro (Ic x ifs)),(7,.cells (Ay x[i])),(12,.mapU CU (Jm (yR (x.take i)))),(13,.map CU []),(14,.map Hb []),(qq22 roots)],Jn (yR (x.take i))⟩ (J ?_ ?_)))
  .exact⟨Z6,⟨Z,Z,⟨rfl,HZ _ (EW _ (hq _))⟩,Z,Z,Z,X⟩,GJ (hq _) (EW _ (hq _)),AX aa5⟩
  refine M 0 (J (fun hy=>?_) (fun hy=>?_))
  .have ey:yR (x.take (i+1))=yR (x.take i):=by
    unfold yR;rw[Mp,PM,List.filter_cons_of_neg (by rw[hy];decide)];simp
   refine M ⟨(qq25 x i),[(2,.ro (Ic x ifs)),(12,.mapU CU (Jm (yR (x.take (i+1))))),(13,.map CU []),(14,.map Hb []),(qq22 roots)],Jn (yR (x.take (i+1)))⟩ (J ?_ ?_)
   .rw[ey];exact⟨Z5,⟨Z,⟨rfl,HZ _ (EW _ (hq _))⟩,Z,Z,Z,X⟩,GJ (hq _) (EW _ (hq _)),AX aa5⟩
   refine M 0 (J (Ii i I) (M ⟨i+1,by omega⟩ ?_));exact⟨Dl x.length i I,Z5,⟨Z,⟨rfl,HZ _ (EW _ (hq _))⟩,Z,Z,Z,X⟩,GJ (hq _) (EW _ (hq _)),AX aa5⟩
  refine M 0 (U (C1 (H (c56 x[i].ver) (M ⟨[(2,.ref 2 0),(5,.ref 16 0),(7,.ref 7 0),(8,G (plc x[i].ver)),(18,sl Ay x),(19,G (x.map Ay).length),(20,G i)],[(2,.ro (Ic x ifs)),(7,.cells (Ay x[i])),(12,.mapU CU (Jm (yR (x.take i)))),(13,.map CU []),(14,.map Hb []),(qq22 roots)],Jn (yR (x.take i))⟩ (J ?_ ?_)))))
  .exact⟨Z7,⟨Z,Z,⟨rfl,HZ _ (EW _ (hq _))⟩,Z,Z,Z,X⟩,GJ (hq _) (EW _ (hq _)),AX aa5⟩
  have ey:yR (x.take (i+1))=yR (x.take i)++[x[i]]:=by
   unfold yR;rw[Mp,PM,List.filter_cons_of_pos (by rw[hy];decide)];rfl
  have hyl:(yR (x.take i)).length<=256:=by
   have:=CW (fun r:F=>!r.yanked) (x.take i)
   rw[Bf]at this;show(List.filter _ _).length<=256;omega
  have hP:∀l,Jn (yR (x.take i)) (l+100)=Gi (yR (x.take i)) l:=EW _ (hq _);refine Be (Classical.em (x[i].path∈AL (yR (x.take i)) [])) (fun hp=>?_) (fun hp=>?_)
  .refine AE (B4.1 hp) (fun k hk=>?_);have hu:=nw hk;have hl:(GA (yR (x.take i)) x[i].path).length<=256:=by
    rw[Lm];exact Az (CW _ _) hyl
   have Afc:k<256:=by
    have:=(AN.1 hk).1
    have:=Hv (yR (x.take i)) []
    simp only[A4]at this;omega
   have hr:Jn (yR (x.take i)) (k+100)=.tok 10 (GA (yR (x.take i)) x[i].path).length:=by rw[hP,mh hk]
   refine M 0 ?_;refine Or.inl (M (.slice (.id (k+100) 10) (GA (yR (x.take i)) x[i].path)) (J hu ?_));refine U (Tl (e:=242) (m:=9) (es2:=[Tx x[i]]) rfl rfl rfl (fun _ h=>h) hr ⟨rfl,trivial⟩ (by show(_+1)*128<=_;omega) (by show _+1<=_;omega) (J (Jj ⟨AQ _,AQ _,AQ _,AQ _,AQ _,AQ _,AQ _,AQ _,AQ _,AQ _,AQ _,AQ _,AQ _,AQ _,AQ _,AQ _,DX (show 49<10000000 by decide),DX (by show _+100<10000000;omega),DX (show 12<10000000 by decide),trivial⟩ aa5) ?_));have e9:EN (Jm (yR (x.take i))) (.string x[i].path) (.slice (.id (k+100) 10) (GA (yR (x.take i)) x[i].path++[Tx x[i]]))=Jm (yR (x.take (i+1))):=by rw[ey];exact re hk
   have hG:∀l,(bif Nat.beq (l+100) (k+100)then HO.tok 10 ((GA (yR (x.take i)) x[i].path).length+1)else Gi (yR (x.take i)) l)=Gi (yR (x.take (i+1))) l:=by rw[ey];exact uw hk
   refine M ⟨(qq25 x i),(qq24 x ifs i roots),Jn (yR (x.take (i+1)))⟩ (J ?_ ?_)
   .refine⟨Z5,⟨Z,⟨Aa (HO.mapU CU) e9,HZ _ (EW _ (hq _))⟩,Z,Z,Z,X⟩,GJ (hq _) (fun l=>?_),aa (fun n=>?_)⟩
    .show(bif Nat.beq (l+100) (k+100)then HO.tok 10 ((GA (yR (x.take i)) x[i].path).length+1)else Jn (yR (x.take i)) (l+100))=_;rw[hP];exact hG l
    .exact jS (y:=yR (x.take i)) (show k+100<1000 by omega)
   refine M 0 (J (Ii i I) (M ⟨i+1,by omega⟩ ?_));exact⟨Dl x.length i I,Z5,⟨Z,⟨rfl,HZ _ (EW _ (hq _))⟩,Z,Z,Z,X⟩,GJ (hq _) (EW _ (hq _)),AX aa5⟩
  .have du:(AL (yR (x.take i)) []).length<=256:=by
    have:=Hv (yR (x.take i)) []
    simp only[A4]at this;omega
   have hn:=Ye hp;have hr:Jn (yR (x.take i)) ((AL (yR (x.take i)) []).length+100)=.free:=by
    rw[hP];unfold Gi;rw[EP (Af _)]
   refine M ((AL (yR (x.take i)) []).length+100) ?_;refine Or.inr (J hn ?_);refine U (Tj (e:=242) (m:=9) (es2:=[Tx x[i]]) rfl rfl rfl (fun _ h=>h) hr rfl ⟨rfl,trivial⟩ (by show 1*128<=_;omega) (by show 1<=_;omega) (J (Jj ⟨AQ _,AQ _,AQ _,AQ _,AQ _,AQ _,AQ _,AQ _,AQ _,AQ _,AQ _,AQ _,AQ _,AQ _,AQ _,AQ _,DX (show 49<10000000 by decide),DX (by show _+100<10000000;omega),DX (show 12<10000000 by decide),trivial⟩ aa5) ?_));have e9:EN (Jm (yR (x.take i))) (.string x[i].path) (.slice (.id ((AL (yR (x.take i)) []).length+100) 10) [Tx x[i]])=Jm (yR (x.take (i+1))):=by rw[ey];exact q8 hp
   have hG:∀l,(bif Nat.beq (l+100) ((AL (yR (x.take i)) []).length+100)then HO.tok 10 1 else Gi (yR (x.take i)) l)=Gi (yR (x.take (i+1))) l:=by rw[ey];exact uv hp
   refine M ⟨(qq25 x i),(qq24 x ifs i roots),Jn (yR (x.take (i+1)))⟩ (J ?_ ?_)
   .refine⟨Z5,⟨Z,⟨Aa (HO.mapU CU) e9,HZ _ (EW _ (hq _))⟩,Z,Z,Z,X⟩,GJ (hq _) (fun l=>?_),aa (fun n=>?_)⟩
    .show(bif Nat.beq (l+100) ((AL (yR (x.take i)) []).length+100)then HO.tok 10 1 else Jn (yR (x.take i)) (l+100))=_;rw[hP];exact hG l
    .exact jS (y:=yR (x.take i)) (show(AL (yR (x.take i)) []).length+100<1000 by omega)
   refine M 0 (J (Ii i I) (M ⟨i+1,by omega⟩ ?_));exact⟨Dl x.length i I,Z5,⟨Z,⟨rfl,HZ _ (EW _ (hq _))⟩,Z,Z,Z,X⟩,GJ (hq _) (EW _ (hq _)),AX aa5⟩
 .intro h;have h:¬i<x.length:=by simpa using h
  have et:x.take i=x:=AD I;have eM:∀hh:Nat->HO,Up hh (Jm (yR (x.take i)))=(AL (yR x) []).map (kC x):=fun hh=>by
   rw[et];unfold Up Jm;rw[Bo];refine Cu fun j=>?_;rw[BC,BC,List.getElem?_zipIdx];cases (AL (yR x) [])[j]? with
   |none=>rfl
   |some q=>show some (Value.string q,AV.slice .none (GA (yR x) q))=_;rw[iM];rfl
  refine M ⟨[(2,.ref 2 0),(5,.ref 16 0)],[(2,.ro (Ic x ifs)),(12,.mapU CU (Jm (yR (x.take i)))),(13,.map CU []),(14,.map Hb []),(qq22 roots)],Jn (yR (x.take i))⟩ (J ?_ ?_)
  .exact⟨Z2,⟨Z,⟨rfl,HZ _ (EW _ (hq _))⟩,Z,Z,Z,X⟩,GJ (hq _) (EW _ (hq _)),AX aa5⟩
  refine M 0 (M {p:List CS×List CS×Option (Value×AV) // (p.1++p.2.1).Perm (AL (yR x) [])} (M (fun p=>⟨[(2,.ref 2 0),(5,.ref 16 0),(56,.ref 56 0)],[(2,.ro (Ic x ifs)),(12,.rom CU ((AL (yR x) []).map (kC x))),(13,.map CU (p.1.1.map (kA x))),(14,.map Hb []),(qq23 roots),(56,.iter ((AL (yR x) []).map (kC x)) (p.1.2.1.map (kC x)) p.1.2.2),(90,.tok 6 0),(91,.tok 1 0),(93,.tok 10 0),(94,.tok 4 0)],Ab⟩) (M (fun p=>p.1.2.1.length) (J (M ⟨([],AL (yR x) [],none),.refl _⟩ ?_) ?_))))
  .refine⟨Z3,⟨Z,⟨Aa (HO.rom CU) (eM _),rfl⟩,Z,Z,Z,⟨?_,rfl⟩,Z,Z,Z,Z,X⟩,Fh,aa (fun n=>?_)⟩
   .show HO.iter (Up _ (Jm (yR (x.take i)))) (Up _ (Jm (yR (x.take i)))) none=_;rw[eM]
   .exact kB (yR (x.take i)) n
  intro⟨⟨done,rem,DU⟩,r1⟩;refine M 0 (J ?_ ?_)
  .intro hr;have hr:rem=[]:=DR.1 hr;subst hr;rw[B9]at r1;refine cU [(5,.ref 16 0)] [(14,.map Hb []),(16,.cells [sl Ak roots,.cmap CU (mC x),.cmap CU (done.map (kA x)),.slice (.id 90 6) [],.slice (.id 91 1) [],.mref 14,Q false,.slice (.id 93 10) [],.slice (.id 94 4) [],.msl 92 0]),(90,.tok 6 0),(91,.tok 1 0),(92,.arr 1 []),(93,.tok 10 0),(94,.tok 4 0)] Z1 Z7 (M 0 ?_);exact H (.refl _) (M done (J r1 (J rfl rfl)))
  .intro kv QW hp;refine AE (xC hp) (fun t hp=>AE hp (fun r hp=>?_));have e1:=hp.1;have e2:=hp.2.1;subst e1;subst e2;have hp:=hp.2.2;refine cU [(2,.ref 2 0),(5,.ref 16 0),(56,.ref 56 0)] [(2,.ro (Ic x ifs)),(12,.rom CU ((AL (yR x) []).map (kC x))),(13,.map CU (done.map (kA x))),(14,.map Hb []),(qq23 roots),(56,.iter ((AL (yR x) []).map (kC x)) (r.map (kC x)) (some (kC x t))),(90,.tok 6 0),(91,.tok 1 0),(93,.tok 10 0),(94,.tok 4 0)] Z3 Z10 (M 0 (cU [(2,.ref 2 0),(5,.ref 16 0),(10,vs t),(56,.ref 56 0)] [(2,.ro (Ic x ifs)),(12,.rom CU ((AL (yR x) []).map (kC x))),(13,.map CU (done.map (kA x))),(14,.map Hb []),(qq23 roots),(56,.iter ((AL (yR x) []).map (kC x)) (r.map (kC x)) (some (kC x t))),(90,.tok 6 0),(91,.tok 1 0),(93,.tok 10 0),(94,.tok 4 0)] Z4 Z10 (M 0 ?_)));have VN:(done++rem).Nodup:=r1.nodup_iff.2 (EM _ [] GX);have htn:t∉done:=fun hc=>(List.nodup_append.1 VN).2.2 t hc t (hp.mem_iff.2 (Ad ..)) rfl;have em:EN (done.map (kA x)) (.string t) (sl Y (BA x t))=(done++[t]).map (kA x):=by
    rw[IN (fun a ha=>htn (aI.1 ha).1),Au];rfl
   have kM:((done++[t])++r).Perm (AL (yR x) []):=by
    rw[Ct];exact(List.Perm.append_left _ hp.symm).trans r1
   refine U (H (Aeg x ifs t (c84 x ifs hx)) (J aa5 (M ⟨(done++[t],r,some (kC x t)),kM⟩ ?_)));exact⟨by show r.length<rem.length;rw[hp.length_eq,AK];omega,Z3,⟨Z,Z,⟨Aa (HO.map CU) em,rfl⟩,Z,Z,Z,Z,Z,Z,Z,X⟩,Fh,AX aa5⟩
end Go.Eng
namespace Go.Eng
open Go.Proofs Go.Proofs.Tryz
variable {i:Nat}(x:Au8)(ifs:C0)(roots:Au9)(a:An)
theorem gI{x:Au8}(h0:AU x=0){p:CS}(h:p∉AL (yR x) []):BA x p=[]:=by
 rw[mQ h0]
 have:x.filter (kn p)=[]:=by
  rw[KN];intro r hr hc;unfold kn at hc;rw[Ao,AP]at hc;exact h ((Hw _ _ _).2 (.inr ⟨r,C3.2 ⟨hr,hc.2⟩,hc.1⟩))
 rw[this];rfl
theorem Ab6{x:Au8}{roots:Au9}(hx:∀r∈x,Jz r)(hr:∀q∈roots,J5 q)(h0:AU x=0)(h1:Bb roots=0){l:List CS}(hl:l.Perm (AL (yR x) [])):Env x roots (mC x) (l.map (kA x)) where
 hx:=h0
 hr:=h1
 fx:=hx
 fr:=hr
 c1:=AfN x
 c2:=AfO x
 c3:=AfP x
 av p:=by
  by_cases hp:p∈l
  .exact⟨sl Y (BA x p),fun a ha=>(aI.1 ha).2,fun hn=>(hn _ (aI.2 ⟨hp,rfl⟩)).elim,fun h=>AaK p (BA x p) (OW x p)⟩
  .refine⟨nzA,fun a ha=>(hp (aI.1 ha).1).elim,fun _=>rfl,fun h=>?_⟩;have e:=gI h0 (fun hc=>hp (hl.mem_iff.2 hc));have hc:=AaK p (BA x p) (OW x p);rw[e]at hc⊢;exact Mj.args hc ⟨.refl _,.nil,trivial⟩
abbrev xW:Of:=⟨[2],[],[],[],[],[],[],[(50,(9,3,95,3))],[(44,0)],[(100016,1009)],[3,4,5,6,7,8,9,10,11,14,15,16]⟩
abbrev an0:An:=⟨false,[],[],[]⟩
def Ej:An:=if FP x roots=true/\(ET x roots).ss.full=false then qb x roots else an0
def I5:Int:=if FP x roots=true then if(ET x roots).ss.full=true then 7 else 0 else 1
abbrev jl:AV:=.tup [.agg (KU (Ej x roots)),G (I5 x roots)]
theorem Da.an0{v:AV}:Da (.tup [.agg [Q false,nzA,nzA,nzA],v]) (.tup [.agg (KU an0),v]):=
 Da.tup ⟨Da.agg ⟨.refl _,.nil,.nil,.nil,trivial⟩,.refl _,trivial⟩
theorem WO{x:Au8}{roots:Au9}(hx:∀r∈x,Jz r)(hr:∀q∈roots,J5 q)(h0:AU x=0)(h1:Bb roots=0){L:List CS}(hl:L.Perm (AL (yR x) [])){o:JB}(ho:ET x roots=o) :
  A1 prog 82 [.ref 1000 0] (Ah (Jr roots (mC x) (L.map (kA x)) ss0 [] []) Ab) (gx roots (mC x) (L.map (kA x)) o):=by
 rw[<-ho];exact AlM (Ab6 hx hr h0 h1 hl) (x.length+1) (.nil x) (I8.nil roots) ⟨⟨rfl,Ai _⟩,GX⟩ rfl (Nat.lt_succ_of_le (CW _ _)) rfl
theorem fT{x:Au8}{roots:Au9}(h:FP x roots=true):AU x=0/\Bb roots=0:=by
 unfold FP at h;rw[Ao,AP,AP]at h;exact h
theorem ym(hx:∀r∈x,Jz r)(hr:∀q∈roots,J5 q)(hv:FP x roots=false):PC 38 [Sa x ifs,sl Ak roots] (.tup [.agg (KU an0),G 1]):=by
 have VI:=s28 x ifs roots hx hr;rw[hv]at VI;refine Ps xW func38 rfl C4 (J ?_ ?_)
 .exact Nz rfl
 refine C1 (H VI (J ?_ ?_))
 .exact Nz rfl
 refine J ?_ ?_
 .exact Nz rfl
 exact Da.an0
abbrev Nv:Nat×HO:=(4,.cells [Q false,nzA,nzA,nzA])
abbrev qq29:=fun Nv (roots:Au9) (x:Au8) (L:List CS)=>([Nv,(11900,.cells [sl Ak roots,.cmap CU (mC x),.cmap CU (L.map (kA x)),.slice (.id 11901 6) [],.slice (.id 11902 1) [],.mref 11903,Q false,.slice .none [],.slice .none [],.msl 11904 0]),(11901,.tok 6 0),(11902,.tok 1 0),(11903,.map Hb []),(11904,.arr 1 [])]:List (Nat×HO))
abbrev qq30:=fun(k:Nat)=>([(4,.ref 4 0),(6,.ref 11900 0),(7,G (k:Nat)),(8,Q false)]:List (Nat×AV))
theorem t6(hx:∀r∈x,Jz r)(hr:∀q∈roots,J5 q)(hv:FP x roots=true)(h0:AU x=0)(h1:Bb roots=0)(k:Nat)(infs:List Nf)(drv:Av1)(dec:List Cd)(st:Av0)(ho:ET x roots=⟨k,false,⟨infs,drv,true⟩,dec,st⟩):PC 38 [Sa x ifs,sl Ak roots] (.tup [.agg (KU an0),G 7]):=by
 have VI:=s28 x ifs roots hx hr;rw[hv]at VI;refine Ps xW func38 rfl C4 (J ?_ ?_)
 .exact Nz rfl
 refine C1 (H VI (cU [(1,sl Ak roots),(2,.ref 2 0),(4,.ref 4 0)] [(2,.ro (Ic x ifs)),Nv] Z3 Z2 (J ?_ ?_)))
 .exact Nz rfl
 refine M (.gen [] 5) (J rfl ((s29 x ifs roots hx h0).imp ?_));intro v g q;refine AE q (fun L q=>?_);have q1:=q.2.1;have q2:=q.2.2;have qp:=q.1;subst q1;subst q2;refine cU [(4,.ref 4 0),(6,.ref 11900 0)] (qq29 Nv roots x L) Z2 Z6 (M (.gen [(11900,1000),(11901,1001),(11902,1002),(11903,1003),(11904,1004)] 1) (J rfl ((WO hx hr h0 h1 qp ho).imp ?_)));intro v g q;have q1:=q.1;have q2:=q.2;subst q1;subst q2;refine M ⟨(qq30 k),[Nv,(11900,.cells [sl Ak roots,.cmap CU (mC x),.cmap CU (L.map (kA x)),.slice (.id 11901 6) (infs.map A8),.slice (.id 11902 1) (drv.map BD),.mref 11903,Q true,sl A2 dec,sl Ar (AM dec),.msl 12200 st.length]),(11901,.tok 6 infs.length),(11902,.tok 1 drv.length),(11903,.map Hb (GQ 0 infs)),(12200,.arr 1 (st.map Bp))],Ab⟩ (J ⟨Z4,Z6,Fh,X⟩ (J (fun _=>?_) (fun h=>by cases h)));refine cU [(4,.ref 4 0)] [Nv] Z1 Z1 (J ?_ ?_)
 .exact Nz rfl
 refine J ?_ ?_
 .exact Nz rfl
 exact Da.an0
abbrev qq28:=fun(roots:Au9) (x:Au8) (L:List CS) (infs:List Nf) (drv:Av1) (dec:List Cd) (st:Av0)=>((11900,.cells [sl Ak roots,.cmap CU (mC x),.cmap CU (L.map (kA x)),.slice (.id 11901 6) (infs.map A8),.slice (.id 11902 1) (drv.map BD),.mref 11903,Q false,sl A2 dec,sl Ar (AM dec),.msl 12200 st.length]):Nat×HO)
abbrev qq26:=fun(roots:Au9) (x:Au8) (L:List CS) (infs:List Nf) (drv:Av1) (dec:List Cd) (st:Av0)=>([Nv,(qq28 roots x L infs drv dec st),(11901,.tok 6 infs.length),(11902,.tok 1 drv.length),(11903,.map Hb (GQ 0 infs)),(12200,.arr 1 (st.map Bp))]:List (Nat×HO))
theorem AcD(hx:∀r∈x,Jz r)(hr:∀q∈roots,J5 q)(hv:FP x roots=true)(h0:AU x=0)(h1:Bb roots=0)(k:Nat)(infs:List Nf)(drv:Av1)(dec:List Cd)(st:Av0)(ho:ET x roots=⟨k,false,⟨infs,drv,false⟩,dec,st⟩)(hk:k<infs.length)(hl:infs.length<=65536):PC 38 [Sa x ifs,sl Ak roots] (.tup [.agg (KU ⟨false,[],infs.take (k+1),[]⟩),G 0]):=by
 have VI:=s28 x ifs roots hx hr;rw[hv]at VI;refine Ps xW func38 rfl C4 (J ?_ ?_)
 .exact Nz rfl
 refine C1 (H VI (cU [(1,sl Ak roots),(2,.ref 2 0),(4,.ref 4 0)] [(2,.ro (Ic x ifs)),Nv] Z3 Z2 (J ?_ ?_)))
 .exact Nz rfl
 refine M (.gen [] 5) (J rfl ((s29 x ifs roots hx h0).imp ?_));intro v g q;refine AE q (fun L q=>?_);have q1:=q.2.1;have q2:=q.2.2;have qp:=q.1;subst q1;subst q2;refine cU [(4,.ref 4 0),(6,.ref 11900 0)] (qq29 Nv roots x L) Z2 Z6 (M (.gen [(11900,1000),(11901,1001),(11902,1002),(11903,1003),(11904,1004)] 1) (J rfl ((WO hx hr h0 h1 qp ho).imp ?_)));intro v g q;have q1:=q.1;have q2:=q.2;subst q1;subst q2;refine M ⟨(qq30 k),(qq26 roots x L infs drv dec st),Ab⟩ (J ⟨Z4,Z6,Fh,X⟩ (J (fun h=>by cases h) (fun _=>?_)));refine M ⟨(qq30 k),(qq26 roots x L infs drv dec st),Ab⟩ (J ⟨Z4,Z6,Fh,X⟩ (cU [(4,.ref 4 0),(6,.ref 11900 0),(7,G (k:Nat))] (qq26 roots x L infs drv dec st) Z3 Z6 (J (Ii k I) ?_)));have el:(infs.map A8).length=infs.length:=Lm ..;refine J ⟨B6 _,by show(0:Int)<=(k:Int)+1;omega,by show(k:Int)+1<=((infs.map A8).length:Int);rw[el];omega⟩ ?_;refine J (fun cs hcs=>by obtain⟨i,_,rfl⟩:=Ap.1 hcs;rfl) (J ?_ ?_)
 .exact Nz rfl
 refine J ?_ ?_
 .exact Nz rfl
 have et:((infs.map A8).take ((k:Int)+1).toNat).drop (0:Int).toNat=(infs.take (k+1)).map A8:=by
  rw[show((k:Int)+1).toNat=k+1 by omega];simp
 exact Da.tup ⟨Da.agg ⟨.refl _,.nil,.of_eq (show AV.slice .none (((infs.map A8).take ((k:Int)+1).toNat).drop (0:Int).toNat)=_ by rw[et]),.nil,trivial⟩,.refl _,trivial⟩
theorem Yp(y:Sl):∀l:List Sl,(Xw y l).Perm (y::l)
 | []=>.refl _
 |z::l=>by
  unfold Xw;split
  .exact .refl _
  .exact((Yp y l).cons z).trans (List.Perm.swap y z l)
theorem WQ:∀l:List Sl,(E1 l).Perm l
 | []=>.refl _
 |y::l=>(Yp y _).trans ((WQ l).cons y)
theorem M4{b:Nat}:∀{st:Av0},(∀s∈st,s.length<=b)->st.flatten.length<=b*st.length
 | [],_=>by simp
 |s::st,h=>by
  rw[BQ,Ac,AK,Nat.mul_succ]
  have:=h s (Ad ..)
  have:=M4 (st:=st) fun t ht=>h t (Aj _ ht)
  omega
theorem ug{st:Av0}(h:st.length<=256)(hs:∀s∈st,s.length<=256)(i:Nat):((st.take i).flatten).length<=65536:=by
 have h1:=M4 (b:=256) (st:=st.take i) fun s iw=>hs s (Fe iw)
 have:(st.take i).length<=256:=by rw[Bf];omega
 omega
abbrev qq31:=fun(dec:List Cd)=>((14400,.arr 4 ((E1 (AM dec)).map Ar)):Nat×HO)
theorem yo(hx:∀r∈x,Jz r)(hr:∀q∈roots,J5 q)(hv:FP x roots=true)(h0:AU x=0)(h1:Bb roots=0)(k:Nat)(infs:List Nf)(drv:Av1)(dec:List Cd)(st:Av0)(ho:ET x roots=⟨k,true,⟨infs,drv,false⟩,dec,st⟩)(hd:dec.length<=256)(hn:((AM dec).map (·.path)).Nodup)(Jp:st.length<=256)(hsk:∀s∈st,s.length<=256):PC 38 [Sa x ifs,sl Ak roots] (.tup [.agg (KU ⟨true,E1 (AM dec),infs,st.flatten⟩),G 0]):=by
 have VI:=s28 x ifs roots hx hr;rw[hv]at VI;refine Ps xW func38 rfl C4 (J ?_ ?_)
 .exact Nz rfl
 refine C1 (H VI (cU [(1,sl Ak roots),(2,.ref 2 0),(4,.ref 4 0)] [(2,.ro (Ic x ifs)),Nv] Z3 Z2 (J ?_ ?_)))
 .exact Nz rfl
 refine M (.gen [] 5) (J rfl ((s29 x ifs roots hx h0).imp ?_));intro v g q;refine AE q (fun L q=>?_);have q1:=q.2.1;have q2:=q.2.2;have qp:=q.1;subst q1;subst q2;refine cU [(4,.ref 4 0),(6,.ref 11900 0)] (qq29 Nv roots x L) Z2 Z6 (M (.gen [(11900,1000),(11901,1001),(11902,1002),(11903,1003),(11904,1004)] 1) (J rfl ((WO hx hr h0 h1 qp ho).imp ?_)));intro v g q;have q1:=q.1;have q2:=q.2;subst q1;subst q2;refine cU [(4,.ref 4 0),(6,.ref 11900 0),(7,G (k:Nat)),(8,Q true)] (qq26 roots x L infs drv dec st) Z4 Z6 (J (fun h=>by cases h) (fun _=>?_));refine cU [(4,.ref 4 0),(6,.ref 11900 0),(8,Q true)] (qq26 roots x L infs drv dec st) Z3 Z6 (cU [(4,.ref 4 0),(6,.ref 11900 0)] (qq26 roots x L infs drv dec st) Z2 Z6 ?_)
 have hkl:(AM dec).length<=256:=by rw[Lm];exact hd
 have kJ:CC (AM dec):=Az hkl aa3;refine M (AM dec).length (M 4 (M ((AM dec).map Ar) (J rfl (J (AlO (AM dec) kJ) (J ?_ ?_)))))
 .exact Nz rfl
 refine J aa5 (cU [(4,.ref 4 0),(6,.ref 11900 0),(9,.ref 9 0)] [Nv,(9,.cells [Q true,.msl 14400 (AM dec).length,.slice (.id 11901 6) (infs.map A8),nzA]),(qq28 roots x L infs drv dec st),(11901,.tok 6 infs.length),(11902,.tok 1 drv.length),(11903,.map Hb (GQ 0 infs)),(12200,.arr 1 (st.map Bp)),(14400,.arr 4 ((AM dec).map Ar))] Z3 Z8 (M (.gen [(14400,1000)] 0) (J rfl ((s47 84 Tryz.closure84 (enters_of func84 aa5 rfl) (AM dec) kJ hn).imp ?_))));intro v g q;have q1:=q.1;have q2:=q.2;subst q1;subst q2;refine cU [(4,.ref 4 0),(6,.ref 11900 0),(9,.ref 9 0)] [Nv,(9,.cells [Q true,.msl 14400 (AM dec).length,.slice (.id 11901 6) (infs.map A8),.slice (.id 95 3) []]),(95,.tok 3 0),(qq28 roots x L infs drv dec st),(11901,.tok 6 infs.length),(11902,.tok 1 drv.length),(11903,.map Hb (GQ 0 infs)),(12200,.arr 1 (st.map Bp)),(qq31 dec)] Z3 Z9 (M {i:Nat // i<=st.length} (M (fun i=>⟨[(4,.ref 4 0),(6,.ref 11900 0),(9,.ref 9 0),(56,.msl 12200 st.length),(57,G (st.length:Nat)),(58,G i.1)],[Nv,(9,.cells [Q true,.msl 14400 (AM dec).length,.slice (.id 11901 6) (infs.map A8),.slice (.id 95 3) ((st.take i.1).flatten.map AT)]),(95,.tok 3 ((st.take i.1).flatten.map AT).length),(qq28 roots x L infs drv dec st),(11901,.tok 6 infs.length),(11902,.tok 1 drv.length),(11903,.map Hb (GQ 0 infs)),(12200,.arr 1 (st.map Bp)),(qq31 dec)],Ab⟩) (M (fun i=>st.length-i.1) (J (M ⟨0,Ai _⟩ ?_) ?_))))
 .exact⟨Z6,Z9,Fh,X⟩
 intro⟨i,i1⟩;refine J ?_ ?_
 .intro h;have h:(i:Int)<(st.length:Nat):=h;have h:i<st.length:=I
  have hg:st[i]?=some st[i]:=Ge h;have Mp:st.take (i+1)=st.take i++[st[i]]:=by rw[DV,hg];rfl
  refine J (J (Nn i) (by show(i:Int)<(st.length:Nat);omega)) (J (by rw[Lm]) (M (Bp st[i]) (J (by show(st.map Bp)[((i:Nat):Int).toNat]?=_;rw[Gp,BC,hg];rfl) ?_)));refine cU [(4,.ref 4 0),(6,.ref 11900 0),(9,.ref 9 0),(11,sl AT st[i]),(56,.msl 12200 st.length),(57,G (st.length:Nat)),(58,G i)] [Nv,(9,.cells [Q true,.msl 14400 (AM dec).length,.slice (.id 11901 6) (infs.map A8),.slice (.id 95 3) ((st.take i).flatten.map AT)]),(95,.tok 3 ((st.take i).flatten.map AT).length),(qq28 roots x L infs drv dec st),(11901,.tok 6 infs.length),(11902,.tok 1 drv.length),(11903,.map Hb (GQ 0 infs)),(12200,.arr 1 (st.map Bp)),(qq31 dec)] Z7 Z9 ?_
  have hfl:((st.take i).flatten).length<=65536/\st[i].length<=256:=⟨ug Jp hsk i,hsk _ (Am _)⟩;have El:Cq 3 (st[i].map AT)/\((st.take i).flatten.map AT).length=((st.take i).flatten.map AT).length/\(((st.take i).flatten.map AT).length+(st[i].map AT).length)*32<=2^47/\((st.take i).flatten.map AT).length+(st[i].map AT).length<=2^63-1:=by
   refine⟨DK (enc:=AT) (n:=3) (fun _=>rfl) _,rfl,?_,?_⟩<;>simp only[Lm]<;>omega
  refine J El (J ?_ ?_)
  .exact Nz rfl
  have ef:((st.take i).flatten.map AT)++st[i].map AT=((st.take (i+1)).flatten.map AT):=by rw[Mp,DQ,Au];simp
  have en:((st.take i).flatten.map AT).length+(st[i].map AT).length=((st.take (i+1)).flatten.map AT).length:=by rw[<-ef,Ac]
  refine cU [(4,.ref 4 0),(6,.ref 11900 0),(9,.ref 9 0),(56,.msl 12200 st.length),(57,G (st.length:Nat)),(58,G i)] [Nv,(9,.cells [Q true,.msl 14400 (AM dec).length,.slice (.id 11901 6) (infs.map A8),.slice (.id 95 3) ((st.take (i+1)).flatten.map AT)]),(95,.tok 3 ((st.take (i+1)).flatten.map AT).length),(qq28 roots x L infs drv dec st),(11901,.tok 6 infs.length),(11902,.tok 1 drv.length),(11903,.map Hb (GQ 0 infs)),(12200,.arr 1 (st.map Bp)),(qq31 dec)] Z6 ⟨Z,⟨Aa (fun z=>HO.cells [Q true,.msl 14400 (AM dec).length,.slice (.id 11901 6) (infs.map A8),.slice (.id 95 3) z]) ef,rfl⟩,⟨Aa (HO.tok 3) en,rfl⟩,Z,Z,Z,Z,Z,Z,X⟩ (J (Ii i I) (M ⟨i+1,by omega⟩ ?_));exact⟨Dl st.length i I,Z6,Z9,Fh,X⟩
 .intro h;have h:¬(i:Int)<(st.length:Nat):=h;have et:st.take i=st:=AD I;have VO:(AM dec).length=((E1 (AM dec)).map Ar).length:=(WQ (AM dec)).length_eq.symm.trans (Lm ..).symm;refine J VO (cU [(4,.ref 4 0),(9,.ref 9 0)] [Nv,(9,.cells [Q true,.slice (.id 14400 4) ((E1 (AM dec)).map Ar),.slice (.id 11901 6) (infs.map A8),.slice (.id 95 3) (st.flatten.map AT)]),(95,.tok 3 (st.flatten.map AT).length),(11901,.tok 6 infs.length),(14400,.tok 4 ((E1 (AM dec)).map Ar).length)] Z2 ⟨Z,⟨Aa (fun z:Av0=>HO.cells [Q true,.slice (.id 14400 4) ((E1 (AM dec)).map Ar),.slice (.id 11901 6) (infs.map A8),.slice (.id 95 3) (z.flatten.map AT)]) et,rfl⟩,⟨Aa (fun z:Av0=>HO.tok 3 (z.flatten.map AT).length) et,rfl⟩,Z,Z,X⟩ (J ?_ ?_))
  .exact Nz rfl
  refine J ?_ ?_
  .exact Nz rfl
  refine J ?_ ?_
  .exact Nz rfl
  exact .refl _
theorem SG{s:SS}{b:List Cd}{p:CS}{needs:List Nd}:∀{cs:List Cd} {sk:List Sk},Gg s b p needs cs sk->sk.length<=cs.length
 | [],sk,h=>by
  have h:sk=[]:=h;rw[h];exact Af _
 |c::cs,sk,h=>by
  have h:if(needs.all fun n=>has n.rq.set c.place)=true then _ else _:=h
  by_cases hc:(needs.all fun n=>has n.rq.set c.place)=true
  .rw[AO hc]at h;obtain⟨k,rest,rfl,_,h3⟩:=h
   have:=SG h3
   simp only[AK];omega
  .rw[AB hc]at h
   have:=SG h
   simp only[AK];omega
theorem X3{x:Au8}{roots:Au9}{s:SS}:∀{t:List Cd} {sl:Av0} {b:List Cd},Jy x roots s b t sl->sl.length=t.length/\∀k∈sl,k.length<=x.length
 | [],[],_,_=>⟨rfl,fun _ h=>by cases h⟩
 | [],_::_,_,h=>h.elim
 |_::_,[],_,h=>h.elim
 |c::t,sk::sl,b,⟨⟨p,needs,pre,post,hs⟩,h⟩=>by
  obtain⟨h1,h2⟩:=X3 h;refine⟨by simp[h1],fun k hk=>?_⟩;rcases AJ.1 hk with rfl | hk
  .have e1:=SG hs.skips;have e2:=XZ x p;rw[hs.cands,Ac]at e2;omega
  .exact h2 k hk
theorem s21(hx:∀r∈x,Jz r)(hr:∀q∈roots,J5 q):PC 38 [Sa x ifs,sl Ak roots] (jl x roots):=by
 unfold jl Ej I5;cases hv:FP x roots with
 |false=>simpa using ym x ifs roots hx hr hv
 |true=>
  obtain⟨h0,h1⟩:=fT hv;have hR:=Zp h0 h1;have rP:=(JM h0).1;have hA:qb x roots=if(ET x roots).found=true then⟨true,E1 (AM (ET x roots).dec),(ET x roots).ss.infs,(ET x roots).stack.flatten⟩else⟨false,[],(ET x roots).ss.infs.take ((ET x roots).res+1),[]⟩:=rfl
  rw[hA];generalize ho:ET x roots=o at hR⊢;obtain⟨k,b,⟨infs,drv,full⟩,dec,st⟩:=o;have hl:infs.length<=65536:=hR.der.len;have hdl:drv.length=infs.length:=hR.der.dlen;cases b with
  |false=>
   cases full with
   |true=>simpa using t6 x ifs roots hx hr hv h0 h1 k infs drv dec st ho
   |false=>
    have hk:k<drv.length:=((hR.no rfl).2.2 rfl).1;simpa using AcD x ifs roots hx hr hv h0 h1 k infs drv dec st ho I hl
  |true=>
   obtain⟨hf,t,sl,e1,e2,hC,_⟩:=hR.yes rfl;subst hf;have e1:dec=[]++t:=e1;have e2:st=[]++sl:=e2;rw[HL]at e1 e2;subst e1;subst e2;have hD:Dy x ([]++dec):=(Jy.ok (.nil x) (.nil roots) hC).1;rw[HL]at hD;have hdx:=cH hD;obtain⟨c1,c2⟩:=X3 hC;have hn:((AM dec).map (·.path)).Nodup:=by rw[LZ];exact hD.nodup
   simpa using yo x ifs roots hx hr hv h0 h1 k infs drv dec st ho I hn I (fun s hs=>Az (c2 s hs) rP)
def fE:Int:=if I5 x roots≠0 then I5 x roots else if(Ej x roots).found=true then 0 else 17
def ub:List Sl:=if fE x roots=0 then(Ej x roots).sel else []
abbrev Al1:Of:=(pC [2] [])
theorem AcC(e:Int)(h:PC 38 [Sa x ifs,sl Ak roots] (.tup [.agg (KU a),G e])) :
  PC 19 [Sa x ifs,sl Ak roots] (.tup [if e≠0 then sl Ar []else if a.found=true then sl Ar a.sel else sl Ar [],G (if e≠0 then e else if a.found=true then 0 else 17)]):=by
 refine Ps Al1 func19 rfl C4 (J ?_ ?_)
 .exact Nz rfl
 refine C1 (H h (J ?_ ?_))
 .exact Nz rfl
 refine J (fun he=>?_) (fun he=>?_)
 .have e1:AV.tup [sl Ar [],G e]=.tup [if e≠0 then sl Ar []else if a.found=true then sl Ar a.sel else sl Ar [],G (if e≠0 then e else if a.found=true then 0 else 17)]:=by rw[AO he,AO he]
  exact(show Da (.tup [nzA,G e]) (.tup [sl Ar ([]:List Sl),G e])from Da.tup ⟨.nil,.refl _,trivial⟩).trans (.of_eq e1)
 .have he:e=0:=BP.1 he;have Ec:¬e≠0:=fun h=>h he;refine J (fun hb=>?_) (fun hb=>?_)
  .have e1:AV.tup [sl Ar a.sel,G 0]=.tup [if e≠0 then sl Ar []else if a.found=true then sl Ar a.sel else sl Ar [],G (if e≠0 then e else if a.found=true then 0 else 17)]:=by rw[AB Ec,AB Ec,AO hb,AO hb]
   exact .of_eq e1
  .have hb:¬a.found=true:=by rw[hb];decide
   have e1:AV.tup [sl Ar [],G 17]=.tup [if e≠0 then sl Ar []else if a.found=true then sl Ar a.sel else sl Ar [],G (if e≠0 then e else if a.found=true then 0 else 17)]:=by rw[AB Ec,AB Ec,AB hb,AB hb]
   exact(show Da (.tup [nzA,G 17]) (.tup [sl Ar ([]:List Sl),G 17])from Da.tup ⟨.nil,.refl _,trivial⟩).trans (.of_eq e1)
theorem s16(hx:∀r∈x,Jz r)(hr:∀q∈roots,J5 q):PC 19 [Sa x ifs,sl Ak roots] (.tup [sl Ar (ub x roots),G (fE x roots)]):=by
 have h:=AcC x ifs roots _ _ (s21 x ifs roots hx hr);have e1:(if I5 x roots≠0 then sl Ar []else if(Ej x roots).found=true then sl Ar (Ej x roots).sel else sl Ar [])=sl Ar (ub x roots):=by
  unfold ub fE
  by_cases h1:I5 x roots=0
  .by_cases h2:(Ej x roots).found=true
   .simp[h1,h2]
   .simp[h1,h2]
  .simp[h1]
 have e2:(if I5 x roots≠0 then I5 x roots else if(Ej x roots).found=true then 0 else 17)=fE x roots:=rfl;rw[e1,e2]at h;exact h
theorem j8{x:Au8}{s:List Sl}(h:i<s.length):(s.take (i+1)).map (Jb x)=(s.take i).map (Jb x)++[Jb x s[i]]:=by rw[Gr h,Au];rfl
theorem lV{α:Type}{s:List α}(h:i<s.length):s.take (i+1)=s.take i++[s[i]]:=Gr h
abbrev qq55:Nat×HO:=(4,.cells [nzA,nzA,nzA,nzA])
theorem Ah2(s:List Sl)(ig:PC 19 [.agg (Ic x ifs),sl Ak roots] (.tup [sl Ar s,G 0]))(am:PC 38 [.agg (Ic x ifs),sl Ak roots] (.tup [.agg (KU a),G 0]))(h40:∀p v,PC 40 [.agg (Ic x ifs),vs p,.agg (Ir v)] (OK (BG x ⟨p,v⟩)))(hfd:∀y∈a.sel,(BG x y).isSome=true)(hrs:∀q∈roots,CC q.set)(hrl:roots.length<=10^6)(hal:a.sel.length<=10^6):PC 11 [.agg (Ic x ifs),sl Ak roots] (.tup [.agg (Bu (mkL x roots a)),G 0]):=by
 refine Ps ⟨[2,8],[],[],[],[],[],[],[(42,(10,0,60,2)),(43,(10,1,61,6))],[],[],[8]⟩ func11 rfl C4 (U (C1 (H ig (J (fun h=>absurd h aa3) (fun _=>?_)))));refine U (C1 (H am (U (J (fun h=>absurd h aa3) (fun _=>?_)))));refine U (cU [(1,sl Ak roots),(2,.ref 2 0),(4,.ref 4 0),(8,.ref 8 0),(10,.ref 10 0)] [(2,.ro (Ic x ifs)),qq55,(8,.ro (KU a)),(10,.cells [nzA,nzA,sl A8 a.infs,sl AT a.skips])] Z5 Z4 (M {q:Nat // q<=roots.length} (M (fun q=>⟨[(2,.ref 2 0),(4,.ref 4 0),(8,.ref 8 0),(10,.ref 10 0),(42,sl Ak roots),(43,G (roots.map Ak).length),(44,G q.1)],[(2,.ro (Ic x ifs)),qq55,(8,.ro (KU a)),(10,.cells [.slice (.id 60 2) ((roots.take q.1).map Ak),.slice (.id 61 6) [],sl A8 a.infs,sl AT a.skips]),(60,.tok 2 (roots.take q.1).length),(61,.tok 6 0)],Ab⟩) (M (fun q=>roots.length-q.1) (J (M ⟨0,Ai _⟩ ?_) ?_)))))
 .exact⟨Z7,Z6,Fh,X⟩
 intro⟨i,i1⟩;have i1:i<=roots.length:=i1;have iT:(roots.take i).length<=10^6:=(by rw[Bf];omega);refine J (fun h1=>?_) (fun h1=>?_)
 .have n1:i<roots.length:=Gj h1;refine M (Ak roots[i]) (J (IM n1) (J rfl (U (U (C1 (H (Ae8 roots[i].set (hrs _ (Am n1))) (U (U (J (cp rfl (show(roots.take i).length<=2147483647 by omega) aa3) (U (J (Ii i I) ?_)))))))))));have er:(roots.take i).map Ak++[[vs roots[i].path,sl Y roots[i].set]]=(roots.take (i+1)).map Ak:=by rw[lV n1,Au];rfl
  refine M ⟨i+1,n1⟩ ?_;exact⟨Dl roots.length i I,Z7,⟨Z,Z,Z,⟨(Aa (fun E:C0=>HO.cells [.slice (.id 60 2) E,.slice (.id 61 6) [],sl A8 a.infs,sl AT a.skips]) er),rfl⟩,⟨(show HO.tok 2 (((roots.take i).map Ak).length+([[vs roots[i].path,sl Y roots[i].set]]:C0).length)=.tok 2 (roots.take (i+1)).length by rw[lV n1,Ac,Lm];rfl),rfl⟩,Z,X⟩,Fh,X⟩
 have h1:¬((i:Int)<((roots.map Ak).length:Int)):=h1;have n1:=D6 h1;refine M {q:Nat // q<=a.sel.length} (M (fun q=>⟨[(2,.ref 2 0),(4,.ref 4 0),(10,.ref 10 0),(60,sl Ar a.sel),(61,G (a.sel.map Ar).length),(62,G q.1)],[(2,.ro (Ic x ifs)),qq55,(10,.cells [.slice (.id 60 2) ((roots.take i).map Ak),.slice (.id 61 6) (((a.sel.take q.1).map (Jb x)).map Cr),sl A8 a.infs,sl AT a.skips]),(60,.tok 2 (roots.take i).length),(61,.tok 6 ((a.sel.take q.1).map (Jb x)).length)],Ab⟩) (M (fun q=>a.sel.length-q.1) (J (M ⟨0,Ai _⟩ ?_) ?_)))
 .exact⟨Z6,Z5,Fh,X⟩
 intro⟨k,k1⟩;have k1:k<=a.sel.length:=k1;have kT:((a.sel.take k).map (Jb x)).length<=10^6:=(by rw[Lm,Bf];omega);refine J (fun h4=>?_) (fun h4=>?_)
 .have n4:k<a.sel.length:=Gj h4;obtain⟨r,hr⟩:=Option.isSome_iff_exists.1 (hfd _ (Am n4));refine M (Ar a.sel[k]) (J (IM n4) (J rfl (U (U (U (U ?_))))));have ru:=(h40 a.sel[k].path a.sel[k].ver);rw[(show BG x ⟨a.sel[k].path,a.sel[k].ver⟩=some r from hr)]at ru;refine C1 (H ru (U (U (J (cp rfl (show((a.sel.take k).map (Jb x)).length<=2147483647 by omega) aa3) (U (J (Ii k I) ?_))))));have ee:Jb x a.sel[k]=⟨a.sel[k].path,a.sel[k].ver,r.arch,r.ifc⟩:=by unfold Jb;rw[show BG x a.sel[k]=some r from hr]
  have er:((a.sel.take k).map (Jb x)).map Cr++[[vs a.sel[k].path,G a.sel[k].ver.a,G a.sel[k].ver.b,G a.sel[k].ver.c,vs r.arch,vs r.ifc]]=((a.sel.take (k+1)).map (Jb x)).map Cr:=by rw[j8 n4,Au,ee];rfl
  refine M ⟨k+1,n4⟩ ?_;exact⟨Dl a.sel.length k I,Z6,⟨Z,Z,⟨(Aa (fun E:C0=>HO.cells [.slice (.id 60 2) ((roots.take i).map Ak),.slice (.id 61 6) E,sl A8 a.infs,sl AT a.skips]) er),rfl⟩,Z,⟨(show HO.tok 6 ((((a.sel.take k).map (Jb x)).map Cr).length+([[vs a.sel[k].path,G a.sel[k].ver.a,G a.sel[k].ver.b,G a.sel[k].ver.c,vs r.arch,vs r.ifc]]:C0).length)=.tok 6 ((a.sel.take (k+1)).map (Jb x)).length by rw[j8 n4,Ac,Lm (f:=Cr)];rfl),rfl⟩,X⟩,Fh,X⟩
 have h4:¬((k:Int)<((a.sel.map Ar).length:Int)):=h4;have n4:=D6 h4;refine U (U (U ?_));exact Da.of_eq (show AV.tup [.agg [sl Ak (roots.take i),sl Cr ((a.sel.take k).map (Jb x)),sl A8 a.infs,sl AT a.skips],G 0]=.tup [.agg (Bu (mkL x roots a)),G 0] by rw[AD (l:=roots) (BL (D6 h1)),AD (l:=a.sel) (BL (D6 h4))];rfl)
section
variable {x:Au8}{roots:Au9}
theorem fL(hv:FP x roots=true)(hx:x.length<=16):I5 x roots=0:=by
 unfold I5;rw[AO hv,PF hx];rfl
theorem pm(hv:FP x roots=true)(hx:x.length<=16):Ej x roots=qb x roots:=by
 unfold Ej;rw[AO ⟨hv,PF hx⟩]
end
end Go.Eng
namespace Go.Eng
end Go.Eng
namespace Go.Proofs
open Go.Proofs.Tryz
open Go.Shelf
open Go.Eng(A0a)
def Tryz.laySortStr_ren:Go.Shelf.Ren:=⟨fun | 190=>77 | 125=>146 | 258=>145 | 128=>219 | 129=>220 | 302=>210 | 303=>211 | 304=>212 | 305=>213 | 306=>214 | 307=>215 | 308=>216 | 309=>217 | 310=>218 | 333=>282 | 329=>283 | 330=>284 | 334=>285 | 335=>286 | 336=>252 | 344=>338 | n=>n,fun | 31=>144 | 9=>9 | 3=>3 | 46=>240 | 0=>0 | 51=>299 | 53=>229 | 4=>4 | 183=>309 | 182=>308 | 131=>150 | 5=>5 | 218=>372 | 222=>208 | 228=>408 | 229=>409 | n=>n,fun | n=>n⟩
theorem Tryz.laySortStr:Go.Proofs.Lays.n190 prog Tryz.laySortStr_ren:={
 mixed:=by kernel_rfl
 f125:=A0a func146
 f128:=A0a func219
 f129:=A0a func220
 f190:=A0a func77
 f258:=A0a func145
 f302:=A0a func210
 f303:=A0a func211
 f304:=A0a func212
 f305:=A0a func213
 f306:=A0a func214
 f307:=A0a func215
 f308:=A0a func216
 f309:=A0a func217
 f310:=A0a func218
 f329:=A0a func283
 f330:=A0a func284
 f333:=A0a func282
 f334:=A0a func285
 f335:=A0a func286
 f336:=A0a func252
 f344:=A0a func338
 t0:=underlying0
 a0:=isAgg0
 z0:=sizeOf0
 v0:=zeroValue0
 t3:=underlying3
 a3:=isAgg3
 z3:=sizeOf3
 v3:=zeroValue3
 t4:=underlying4
 a4:=isAgg4
 z4:=sizeOf4
 v4:=zeroValue4
 t5:=underlying5
 a5:=isAgg5
 z5:=sizeOf5
 v5:=zeroValue5
 t9:=underlying9
 a9:=isAgg9
 z9:=sizeOf9
 v9:=zeroValue9
 t31:=underlying144
 a31:=isAgg144
 z31:=sizeOf144
 v31:=zeroValue144
 t46:=underlying240
 a46:=isAgg240
 z46:=sizeOf240
 v46:=zeroValue240
 t51:=underlying299
 a51:=isAgg299
 z51:=sizeOf299
 v51:=zeroValue299
 t53:=underlying229
 a53:=isAgg229
 z53:=sizeOf229
 v53:=zeroValue229
 t131:=underlying150
 a131:=isAgg150
 z131:=sizeOf150
 v131:=zeroValue150
 t182:=underlying308
 a182:=isAgg308
 z182:=sizeOf308
 v182:=zeroValue308
 t183:=underlying309
 a183:=isAgg309
 z183:=sizeOf309
 v183:=zeroValue309
 t218:=underlying372
 a218:=isAgg372
 z218:=sizeOf372
 v218:=zeroValue372
 t222:=underlying208
 a222:=isAgg208
 z222:=sizeOf208
 v222:=zeroValue208
 t228:=underlying408
 a228:=isAgg408
 z228:=sizeOf408
 v228:=zeroValue408
 t229:=underlying409
 a229:=isAgg409
 z229:=sizeOf409
 v229:=zeroValue409 }
def Tryz.layCompactStr_ren:Go.Shelf.Ren:=⟨fun | 194=>79 | n=>n,fun | 31=>144 | 9=>9 | 3=>3 | 4=>4 | 0=>0 | n=>n,fun | n=>n⟩
theorem Tryz.layCompactStr:Go.Proofs.Lays.n194 prog Tryz.layCompactStr_ren:={
 mixed:=by kernel_rfl
 f194:=A0a func79
 t0:=underlying0
 a0:=isAgg0
 z0:=sizeOf0
 v0:=zeroValue0
 t3:=underlying3
 a3:=isAgg3
 z3:=sizeOf3
 v3:=zeroValue3
 t4:=underlying4
 a4:=isAgg4
 z4:=sizeOf4
 v4:=zeroValue4
 t9:=underlying9
 a9:=isAgg9
 z9:=sizeOf9
 v9:=zeroValue9
 t31:=underlying144
 a31:=isAgg144
 z31:=sizeOf144
 v31:=zeroValue144 }
end Go.Proofs
