/- Lemmas 25. -/
import Derived.Test.YtjhkbdgingfbaaaGreatDoorGA24
set_option maxHeartbeats 4000000
namespace Go.Eng
open Go.Proofs
variable {l:List Cp}{s:List Sl}{i:Nat}
abbrev mK(l:List Cp)(R:List Sl):List Cp:=l.filter fun c=>!decide (A6 c∈R)
abbrev PL(y:Sl):Cp:=⟨y.path,y.ver,⟨#[]⟩⟩
theorem d6{R:List Sl}(h:i<l.length)(q:decide (A6 l[i]∈R)=true):mK (l.take (i+1)) R=mK (l.take i) R:=by
 rw[GU h,mK,Fw,Nh (by show ¬(!decide (A6 l[i]∈R))=true;rw[q];decide),Pr,BR]
theorem Zy{R:List Sl}(h:i<l.length)(q:decide (A6 l[i]∈R)=false):mK (l.take (i+1)) R=mK (l.take i) R++[l[i]]:=by
 rw[GU h,mK,Fw,Ni (by show(!decide (A6 l[i]∈R))=true;rw[q];rfl),Pr]
abbrev mA(l:List Cp)(s:List Sl):List Cp:=mK l (AT (l.map A6) s)++(AT s (l.map A6)).map PL
theorem fw(l:List Sl):(l.map PL).map A6=l:=by rw[Cw];exact List.map_id _
theorem Tz{l:List Sl}(h:l.Pairwise RM):l.Nodup:=h.imp fun {a b} q e=>by
 subst e;have q:FC a.path a.path=true:=q;rw[Dw]at q;cases q
theorem Zx(l:List Cp)(R:List Sl):(mK l R).map A6=(l.map A6).filter fun y=>!decide (y∈R):=by rw[List.filter_map];rfl
theorem Zn{y:Sl}{a b:List Sl}:y∈AT a b↔y∈a/\¬y∈b:=by
 unfold AT kept;rw[JF,CE,CB]
theorem Lh{l:List Sl}(h:l.Nodup)(p:Sl->Bool):(l.filter p).Nodup:=h.sublist List.filter_sublist
theorem Ny(hl:(l.map A6).Pairwise RM)(hs:s.Pairwise RM):((mA l s).map A6).Perm s:=by
 rw[AK,Zx,fw];refine(List.Perm.append_right _ ?_).trans (List.filter_append_perm (fun x=>decide (x∈l.map A6)) s);rw[List.perm_ext_iff_of_nodup (Lh (Tz hl) _) (Lh (Tz hs) _)];intro y;simp only[JF,CE,CB,decide_eq_true_iff]
 by_cases h1:y∈l.map A6<;>by_cases h2:y∈s<;>simp[h1,h2]
theorem bI(hl:(l.map A6).Pairwise RM)(hs:s.Pairwise RM):(mK l (AT (l.map A6) s)).length+(AT s (l.map A6)).length=s.length/\(mK l (AT (l.map A6) s)).length+(AT (l.map A6) s).length=l.length:=by
 have h1:=(Ny hl hs).length_eq;rw[Lm,Ac,Lm]at h1;refine⟨h1,?_⟩;have h2:=Aa List.length (Zx l (AT (l.map A6) s));rw[Lm]at h2;rw[h2];have h3:=(List.filter_append_perm (fun y=>decide (y∈s)) (l.map A6)).length_eq;rw[Ac,Lm]at h3;rw[<-h3]
 congr 1
 refine Aa List.length (List.filter_congr fun y hy=>?_);rw[Dp,CE,CB,decide_eq_true_iff,Zn]
 by_cases h:y∈s<;>simp[h,hy]
theorem ft{m:List Cp}(hl:(l.map A6).Pairwise RM)(hs:s.Pairwise RM)(hm:m.Perm (mA l s))(ho:m.Pairwise fun x y=>FC y.path x.path=false):m.map A6=s:=by
 refine List.Perm.eq_of_pairwise (le:=fun x y:Sl=>FC y.path x.path=false) (fun a b ha hb h1 h2=>?_) (List.pairwise_map.2 ho) (hs.imp fun {a b} q=>?_) ((hm.map A6).trans (Ny hl hs))
 .have ha:=((hm.map A6).trans (Ny hl hs)).mem_iff.1 ha;have e:=QU h2 h1;obtain⟨i,hi,rfl⟩:=A9.1 ha;obtain⟨j,hj,rfl⟩:=A9.1 hb;rcases EK i j with g | g | g
  .have q:FC s[i].path s[j].path=true:=(A5.1 hs) i j hi hj g;rw[e,Dw]at q;cases q
  .subst g;rfl
  .have q:FC s[j].path s[i].path=true:=(A5.1 hs) j i hj hi g;rw[e,Dw]at q;cases q
 .have q:FC a.path b.path=true:=q;cases h:FC b.path a.path with
  |false=>rfl
  |true=>have:=GO q h;rw[Dw]at this;cases this
theorem YC(h:(GP l s).2.2=0):CD l=0/\Bw s=true/\(GP l s).1=AT s (l.map A6)/\(GP l s).2.1=AT (l.map A6) s:=by
 unfold GP at *
 split at h
 .rename_i c;exact absurd h c
 rename_i c;rw[Aj c];split at h
 .rename_i c2;rw[Av c2];exact⟨Ax c,c2,rfl,rfl⟩
 .cases h
theorem fy(h:(GP l s).2.2≠0):(GP l s).1=[]/\(GP l s).2.1=[]:=by
 unfold GP at *
 split at h
 .rename_i c;rw[Av c];exact Zr
 rename_i c;rw[Aj c];split at h
 .exact absurd rfl h
 .rename_i c2;rw[Aj c2];exact Zr
theorem gK(hl:GF l)(hs:s.length<=20):(mA l s).length<=32:=by
 have:=hl.len
 have h1:(mK l (AT (l.map A6) s)).length<=l.length:=DP _ _;have h2:(AT s (l.map A6)).length<=s.length:=Hi _ _;rw[mA,Ac,Lm];omega
theorem cH(hl:GF l)(hp:∀y∈s,CT y.path):∀c∈mA l s,c.path.size<=1073741824:=fun c hc=>by
 rcases By.1 hc with h | h
 .exact hl.fewS c (JF.1 h).1
 .obtain⟨y,hy,rfl⟩:=AA.1 h;exact hp y (Zn.1 hy).1
theorem fx(h:(GP l s).2.2=0):GP l s=(AT s (l.map A6),AT (l.map A6) s,0):=by
 obtain⟨_,_,h3,h4⟩:=YC h;rw[<-h3,<-h4,<-h]
theorem bP(h:(GP l s).2.2≠0):GP l s=([],[],(GP l s).2.2):=by
 obtain⟨h3,h4⟩:=fy h;exact Prod.ext h3 (Prod.ext h4 rfl)
theorem sf(l:List Cp)(s:List Sl)(hl:CC l)(hs:CC s)(Zf:∀y∈s,CT y.path)(Vh:Gv l=true)(iM:s.length<=20)(hz:(GP l s).2.2=0):PC 7 [sl Aq l,sl Ag s] (vb true):=by
 have hf:=KX Vh;have Ww:l.length<=12:=hf.len;have JL:=YC hz;have dX:=LI JL.1;have kB:s.Pairwise RM:=(F3 JL.2.1).1;have BQ:=bI dX kB;have sG:((AT (l.map A6) s).map Ag).length=(AT (l.map A6) s).length:=by rw[Lm]
 have sH:((AT s (l.map A6)).map Ag).length=(AT s (l.map A6)).length:=by rw[Lm]
 refine Ps ⟨[],[],[(8,5)],[],[],[],[],[],[],[],[4,5,7,8,13,14,15,20,21,23,24,28,29]⟩ Tryz.func7 rfl (Nz rfl) (Xi .pure (Xi _ (Yi Hg (Xi .pure (Xi _ (Yi (show PC 15 [sl Aq l] (vb true)from by have q:=JU l hl;rw[Vh]at q;exact q) (Yi (fun h1=>?_) (fun h1=>?_))))))))
 .have h1:(20:Int)<((s.map Ag).length:Int):=h1;have n1:20<s.length:=by have q:=h1;rw[Lm]at q;omega
  refine cU [] [] Tv Tv ?_
  exact .refl _
 have h1:¬((20:Int)<((s.map Ag).length:Int)):=h1;have n1:¬20<s.length:=by have q:=h1;rw[Lm]at q;omega
 refine cU [(0,sl Aq l),(1,sl Ag s)] [] Z2 Tv (Xi .pure (Xi _ (Yi (show PC 18 [sl Aq l,sl Ag s] (.tup [sl Ag (AT s (l.map A6)),sl Ag (AT (l.map A6) s),vi 0])from by have q:=QP l s hl hs hf.fewS;rw[fx hz]at q;exact q) ?_)));refine Yi (fun h=>absurd h sR) (fun _=>?_);refine cU [(0,sl Aq l),(1,sl Ag s),(5,sl Ag (AT s (l.map A6))),(6,sl Ag (AT (l.map A6) s))] [] Z4 Tv (Xi {q:Nat // q<=l.length} (Xi (fun q=>⟨[(0,sl Aq l),(1,sl Ag s),(5,sl Ag (AT s (l.map A6))),(6,sl Ag (AT (l.map A6) s)),(8,.msl 8 (mK (l.take q.1) (AT (l.map A6) s)).length),(41,sl Aq l),(42,vi (l.map Aq).length),(43,vi q.1)],[(8,.arr 5 ((mK (l.take q.1) (AT (l.map A6) s)).map Aq))],Ao⟩) (Xi (fun q=>l.length-q.1) (Yi (Xi ⟨0,Ar _⟩ ?_) ?_))))
 .exact⟨Z8,Z1,Fh,Tv⟩
 intro⟨i,i1⟩;have i1:i<=l.length:=i1;have i2:(mK (l.take i) (AT (l.map A6) s)).length<=l.length:=AP (DP _ _) (by rw[Al];omega);refine Yi (fun h3=>?_) (fun h3=>?_)
 .have h3:(i:Int)<((l.map Aq).length:Int):=h3;have n3:=FL h3;refine Xi (Aq l[i]) (Yi (GR n3) (Yi rfl (yN (yN (yN (Bn (Bt (decide (A6 l[i]∈(AT (l.map A6) s)))) (fun h4=>?_) (fun h4=>?_)))))))
  .have h4:(decide (A6 l[i]∈(AT (l.map A6) s)))=true:=h4;refine Xi .pure (Xi _ (Yi (cb h4 (iU (AT (l.map A6) s) (A6 l[i]) (AP (Hi _ _) (by rw[Lm];exact hl)))) ?_));refine cU [(0,sl Aq l),(1,sl Ag s),(5,sl Ag (AT s (l.map A6))),(6,sl Ag (AT (l.map A6) s)),(8,.msl 8 (mK (l.take i) (AT (l.map A6) s)).length),(41,sl Aq l),(42,vi (l.map Aq).length),(43,vi i)] [(8,.arr 5 ((mK (l.take i) (AT (l.map A6) s)).map Aq))] Z8 Z1 (Yi (Ii i sP) (Xi ⟨i+1,n3⟩ ?_));exact⟨Dl l.length i sP,⟨Zr,Zr,Zr,Zr,⟨(show AV.msl 8 (mK (l.take i) (AT (l.map A6) s)).length=.msl 8 (mK (l.take (i+1)) (AT (l.map A6) s)).length by rw[d6 n3 h4]),rfl⟩,Zr,Zr,Zr,Tv⟩,⟨⟨(show HO.arr 5 ((mK (l.take i) (AT (l.map A6) s)).map Aq)=.arr 5 ((mK (l.take (i+1)) (AT (l.map A6) s)).map Aq) by rw[d6 n3 h4]),rfl⟩,Tv⟩,Fh,Tv⟩
  have h4:(decide (A6 l[i]∈(AT (l.map A6) s)))=false:=h4;refine Xi .pure (Xi _ (Yi (cb h4 (iU (AT (l.map A6) s) (A6 l[i]) (AP (Hi _ _) (by rw[Lm];exact hl)))) ?_));refine cU [(0,sl Aq l),(1,sl Ag s),(5,sl Ag (AT s (l.map A6))),(6,sl Ag (AT (l.map A6) s)),(8,.msl 8 (mK (l.take i) (AT (l.map A6) s)).length),(10,.ref 10 0),(41,sl Aq l),(42,vi (l.map Aq).length),(43,vi i)] [(8,.arr 5 ((mK (l.take i) (AT (l.map A6) s)).map Aq)),(10,.cells (Aq l[i]))] Z9 Z2 (yN ?_);have b6:Cn 5 [(Aq l[i])]/\((mK (l.take i) (AT (l.map A6) s)).map Aq).length=(mK (l.take i) (AT (l.map A6) s)).length/\(((mK (l.take i) (AT (l.map A6) s)).map Aq).length+([(Aq l[i])]:List (List AV)).length)*56<=140737488355328/\((mK (l.take i) (AT (l.map A6) s)).map Aq).length+([(Aq l[i])]:List (List AV)).length<=9223372036854775807:=⟨⟨rfl,trivial⟩,(by rw[Lm]),(by simp only[Lm,Am,Aw];omega),(by simp only[Lm,Am,Aw];omega)⟩;refine Yi b6 (cU [(0,sl Aq l),(1,sl Ag s),(5,sl Ag (AT s (l.map A6))),(6,sl Ag (AT (l.map A6) s)),(8,.msl 8 (((mK (l.take i) (AT (l.map A6) s)).map Aq).length+([(Aq l[i])]:List (List AV)).length)),(41,sl Aq l),(42,vi (l.map Aq).length),(43,vi i)] [(8,.arr 5 (((mK (l.take i) (AT (l.map A6) s)).map Aq)++[(Aq l[i])]))] Z8 Z1 (Yi (Ii i sP) (Xi ⟨i+1,n3⟩ ?_)));exact⟨Dl l.length i sP,⟨Zr,Zr,Zr,Zr,⟨(show AV.msl 8 (((mK (l.take i) (AT (l.map A6) s)).map Aq).length+([(Aq l[i])]:List (List AV)).length)=.msl 8 (mK (l.take (i+1)) (AT (l.map A6) s)).length by rw[Zy n3 h4,Ac,Lm];rfl),rfl⟩,Zr,Zr,Zr,Tv⟩,⟨⟨(show HO.arr 5 (((mK (l.take i) (AT (l.map A6) s)).map Aq)++[(Aq l[i])])=.arr 5 ((mK (l.take (i+1)) (AT (l.map A6) s)).map Aq) by rw[Zy n3 h4,AK];rfl),rfl⟩,Tv⟩,Fh,Tv⟩
 have h3:¬((i:Int)<((l.map Aq).length:Int)):=h3;have n3:=DC h3;have ei:l.take i=l:=As (BI (DC h3));refine cU [(0,sl Aq l),(1,sl Ag s),(5,sl Ag (AT s (l.map A6))),(6,sl Ag (AT (l.map A6) s)),(8,.msl 8 (mK l (AT (l.map A6) s)).length)] [(8,.arr 5 ((mK l (AT (l.map A6) s)).map Aq))] ⟨Zr,Zr,Zr,Zr,⟨(Aa (fun z:List Cp=>AV.msl 8 (mK z (AT (l.map A6) s)).length) ei),rfl⟩,Tv⟩ ⟨⟨(Aa (fun z:List Cp=>HO.arr 5 ((mK z (AT (l.map A6) s)).map Aq)) ei),rfl⟩,Tv⟩ (Xi {q:Nat // q<=(AT s (l.map A6)).length} (Xi (fun q=>⟨[(0,sl Aq l),(1,sl Ag s),(5,sl Ag (AT s (l.map A6))),(6,sl Ag (AT (l.map A6) s)),(8,.msl 8 (mK l (AT (l.map A6) s)++((AT s (l.map A6)).take q.1).map PL).length),(11,vi (mK l (AT (l.map A6) s)).length),(62,sl Ag (AT s (l.map A6))),(63,vi ((AT s (l.map A6)).map Ag).length),(64,vi q.1)],[(8,.arr 5 ((mK l (AT (l.map A6) s)++((AT s (l.map A6)).take q.1).map PL).map Aq))],Ao⟩) (Xi (fun q=>(AT s (l.map A6)).length-q.1) (Yi (Xi ⟨0,Ar _⟩ ?_) ?_))))
 .exact⟨⟨Zr,Zr,Zr,Zr,⟨(Aa (fun z:List Cp=>AV.msl 8 z.length) (BR (mK l (AT (l.map A6) s))).symm),rfl⟩,Zr,Zr,Zr,Zr,Tv⟩,⟨⟨(Aa (fun z:List Cp=>HO.arr 5 (z.map Aq)) (BR (mK l (AT (l.map A6) s))).symm),rfl⟩,Tv⟩,Fh,Tv⟩
 intro⟨j,j1⟩;have j1:j<=(AT s (l.map A6)).length:=j1;have j2:(mK l (AT (l.map A6) s)++((AT s (l.map A6)).take j).map PL).length<=32:=by rw[Ac,Lm,Al];have:=hf.len;have h1:(mK l (AT (l.map A6) s)).length<=l.length:=DP _ _;have h2:(AT s (l.map A6)).length<=s.length:=Hi _ _;omega
 have j3:((AT s (l.map A6)).take j).length=j:=by rw[Al];omega
 have j4:(mK l (AT (l.map A6) s)).length<=l.length:=DP _ _;have j5:(AT s (l.map A6)).length<=s.length:=Hi _ _;refine Yi (fun h8=>?_) (fun h8=>?_)
 .have h8:(j:Int)<(((AT s (l.map A6)).map Ag).length:Int):=h8;have n8:=FL h8;refine Xi (Ag ((AT s (l.map A6))[j])) (Yi (GR n8) (Yi rfl (yN (yN (yN ?_)))));have b9:Cn 5 [[vs ((AT s (l.map A6))[j]).path,vi ((AT s (l.map A6))[j]).ver.a,vi ((AT s (l.map A6))[j]).ver.b,vi ((AT s (l.map A6))[j]).ver.c,vs ⟨#[]⟩]]/\((mK l (AT (l.map A6) s)++((AT s (l.map A6)).take j).map PL).map Aq).length=(mK l (AT (l.map A6) s)++((AT s (l.map A6)).take j).map PL).length/\(((mK l (AT (l.map A6) s)++((AT s (l.map A6)).take j).map PL).map Aq).length+([[vs ((AT s (l.map A6))[j]).path,vi ((AT s (l.map A6))[j]).ver.a,vi ((AT s (l.map A6))[j]).ver.b,vi ((AT s (l.map A6))[j]).ver.c,vs ⟨#[]⟩]]:List (List AV)).length)*56<=140737488355328/\((mK l (AT (l.map A6) s)++((AT s (l.map A6)).take j).map PL).map Aq).length+([[vs ((AT s (l.map A6))[j]).path,vi ((AT s (l.map A6))[j]).ver.a,vi ((AT s (l.map A6))[j]).ver.b,vi ((AT s (l.map A6))[j]).ver.c,vs ⟨#[]⟩]]:List (List AV)).length<=9223372036854775807:=⟨⟨rfl,trivial⟩,(by rw[Lm]),(by simp only[Lm,Ac,Am,Aw];omega),(by simp only[Lm,Ac,Am,Aw];omega)⟩;refine Yi b9 (cU [(0,sl Aq l),(1,sl Ag s),(5,sl Ag (AT s (l.map A6))),(6,sl Ag (AT (l.map A6) s)),(8,.msl 8 (((mK l (AT (l.map A6) s)++((AT s (l.map A6)).take j).map PL).map Aq).length+([[vs ((AT s (l.map A6))[j]).path,vi ((AT s (l.map A6))[j]).ver.a,vi ((AT s (l.map A6))[j]).ver.b,vi ((AT s (l.map A6))[j]).ver.c,vs ⟨#[]⟩]]:List (List AV)).length)),(11,vi (mK l (AT (l.map A6) s)).length),(62,sl Ag (AT s (l.map A6))),(63,vi ((AT s (l.map A6)).map Ag).length),(64,vi j)] [(8,.arr 5 (((mK l (AT (l.map A6) s)++((AT s (l.map A6)).take j).map PL).map Aq)++[[vs ((AT s (l.map A6))[j]).path,vi ((AT s (l.map A6))[j]).ver.a,vi ((AT s (l.map A6))[j]).ver.b,vi ((AT s (l.map A6))[j]).ver.c,vs ⟨#[]⟩]]))] Z9 Z1 (Yi (Ii j sP) ?_));have ew:(mK l (AT (l.map A6) s)++((AT s (l.map A6)).take (j+1)).map PL)=(mK l (AT (l.map A6) s)++((AT s (l.map A6)).take j).map PL)++[PL (AT s (l.map A6))[j]]:=by rw[GU n8,AK,B2];rfl
  refine Xi ⟨j+1,n8⟩ ?_;exact⟨by show(AT s (l.map A6)).length-(j+1)<(AT s (l.map A6)).length-j;omega,⟨Zr,Zr,Zr,Zr,⟨(show AV.msl 8 (((mK l (AT (l.map A6) s)++((AT s (l.map A6)).take j).map PL).map Aq).length+([[vs ((AT s (l.map A6))[j]).path,vi ((AT s (l.map A6))[j]).ver.a,vi ((AT s (l.map A6))[j]).ver.b,vi ((AT s (l.map A6))[j]).ver.c,vs ⟨#[]⟩]]:List (List AV)).length)=.msl 8 (mK l (AT (l.map A6) s)++((AT s (l.map A6)).take (j+1)).map PL).length by rw[ew,Ac,Lm];rfl),rfl⟩,Zr,Zr,Zr,Zr,Tv⟩,⟨⟨(show HO.arr 5 (((mK l (AT (l.map A6) s)++((AT s (l.map A6)).take j).map PL).map Aq)++[[vs ((AT s (l.map A6))[j]).path,vi ((AT s (l.map A6))[j]).ver.a,vi ((AT s (l.map A6))[j]).ver.b,vi ((AT s (l.map A6))[j]).ver.c,vs ⟨#[]⟩]])=.arr 5 ((mK l (AT (l.map A6) s)++((AT s (l.map A6)).take (j+1)).map PL).map Aq) by rw[ew];simp only[AK];rfl),rfl⟩,Tv⟩,Fh,Tv⟩
 have h8:¬((j:Int)<(((AT s (l.map A6)).map Ag).length:Int)):=h8;have n8:=DC h8;have ej:(AT s (l.map A6)).take j=(AT s (l.map A6)):=As (BI (DC h8));refine cU [(0,sl Aq l),(1,sl Ag s),(5,sl Ag (AT s (l.map A6))),(6,sl Ag (AT (l.map A6) s)),(8,.msl 8 (mA l s).length),(11,vi (mK l (AT (l.map A6) s)).length)] [(8,.arr 5 ((mA l s).map Aq))] ⟨Zr,Zr,Zr,Zr,⟨(Aa (fun z:List Sl=>AV.msl 8 (mK l (AT (l.map A6) s)++z.map PL).length) ej),rfl⟩,Zr,Tv⟩ ⟨⟨(Aa (fun z:List Sl=>HO.arr 5 ((mK l (AT (l.map A6) s)++z.map PL).map Aq)) ej),rfl⟩,Tv⟩ (Xi (.gen [(8,1000)] 0) (Yi rfl ((fb (mA l s) (AP (gK hf iM) sR) (cH hf Zf)).to ?_)));intro m hm;have rA:m.length=(mA l s).length:=hm.1.length_eq;have gb:=ft dX kB hm.1 hm.2;refine Yi (by show AE (((mK l (AT (l.map A6) s)).length:Int)+(((AT s (l.map A6)).map Ag).length:Int));unfold AE;omega) ?_;refine Yi (fun NU=>?_) (fun NU=>?_)
 .have NU:((mK l (AT (l.map A6) s)).length+((AT s (l.map A6)).map Ag).length:Int)≠((s.map Ag).length:Int):=NU;exact absurd (by simp only[Lm];have:=BQ;omega) NU
 have NU:((mK l (AT (l.map A6) s)).length+((AT s (l.map A6)).map Ag).length:Int)=((s.map Ag).length:Int):=Ax NU;refine Yi (by show AE (((mK l (AT (l.map A6) s)).length:Int)+(((AT (l.map A6) s).map Ag).length:Int));unfold AE;omega) ?_;refine Yi (fun Kn=>?_) (fun Kn=>?_)
 .have Kn:((mK l (AT (l.map A6) s)).length+((AT (l.map A6) s).map Ag).length:Int)≠((l.map Aq).length:Int):=Kn;exact absurd (by simp only[Lm];have:=BQ;omega) Kn
 have Kn:((mK l (AT (l.map A6) s)).length+((AT (l.map A6) s).map Ag).length:Int)=((l.map Aq).length:Int):=Ax Kn;refine cU [(1,sl Ag s),(8,.msl 8 (mA l s).length)] [(8,.arr 5 (m.map Aq))] Z2 Z1 (Xi {q:Nat // q<=m.length} (Xi (fun q=>⟨[(1,sl Ag s),(95,.msl 8 (mA l s).length),(96,vi (mA l s).length),(97,vi q.1)],[(8,.arr 5 (m.map Aq))],Ao⟩) (Xi (fun q=>m.length-q.1) (Yi (Xi ⟨0,Ar _⟩ ?_) ?_))))
 .exact⟨Z4,Z1,Fh,Tv⟩
 intro⟨k,k1⟩;have k1:k<=m.length:=k1;refine Yi (fun Pd=>?_) (fun Pd=>?_)
 .have Pd:(k:Int)<((mA l s).length:Int):=Pd;have oW:k<m.length:=by have q:=Pd;omega
  have rV:k<s.length:=by have q:=Aa List.length gb;rw[Lm]at q;omega
  have rK:s[k]=A6 m[k]:=by have q:=BD A6 (l:=m) (i:=k) (h:=by rw[Lm];exact oW);rw[<-q];exact(List.getElem_of_eq gb _).symm
  refine Yi (by show(0:Int)<=k/\(k:Int)<((mA l s).length:Nat);omega) (Yi (show(mA l s).length=(m.map Aq).length from(by rw[Lm];exact rA.symm)) (Xi (Aq m[k]) (Yi (CQ (Ge oW)) ?_)));refine yN (yN (Xi (Ag s[k]) (Yi (GR rV) (Yi rfl (yN (yN (Yi (fun Uk=>?_) (fun Uk=>?_))))))))
  .have Uk:(s[k].path:ByteArray)=m[k].path/\(s[k].ver.a:Int)=m[k].ver.a/\(s[k].ver.b:Int)=m[k].ver.b/\(s[k].ver.c:Int)=m[k].ver.c/\True:=Uk;refine Yi sT (cU [(1,sl Ag s),(95,.msl 8 (mA l s).length),(96,vi (mA l s).length),(97,vi k)] [(8,.arr 5 (m.map Aq))] Z4 Z1 (Yi (Ii k sP) (Xi ⟨k+1,oW⟩ ?_)));exact⟨Dl m.length k sP,Z4,Z1,Fh,Tv⟩
  have Uk:¬((s[k].path:ByteArray)=m[k].path/\(s[k].ver.a:Int)=m[k].ver.a/\(s[k].ver.b:Int)=m[k].ver.b/\(s[k].ver.c:Int)=m[k].ver.c/\True):=Uk;exact absurd (by rw[rK];exact⟨rfl,rfl,rfl,rfl,trivial⟩) Uk
 have Pd:¬((k:Int)<((mA l s).length:Int)):=Pd;exact .refl _
theorem si(l:List Cp)(s:List Sl)(hl:CC l)(hs:CC s)(Vh:Gv l=true)(hz:(GP l s).2.2≠0):PC 7 [sl Aq l,sl Ag s] (vb true):=by
 have hf:=KX Vh;refine Ps ⟨[],[],[(8,5)],[],[],[],[],[],[],[],[4,5,7,8,13,14,20,23,24,28,29]⟩ Tryz.func7 rfl (Nz rfl) (Xi .pure (Xi _ (Yi Hg (Xi .pure (Xi _ (Yi (show PC 15 [sl Aq l] (vb true)from by have q:=JU l hl;rw[Vh]at q;exact q) (Yi (fun h1=>?_) (fun h1=>?_))))))))
 .have h1:(20:Int)<((s.map Ag).length:Int):=h1;have n1:20<s.length:=by have q:=h1;rw[Lm]at q;omega
  refine cU [] [] Tv Tv ?_
  exact .refl _
 have h1:¬((20:Int)<((s.map Ag).length:Int)):=h1;have n1:¬20<s.length:=by have q:=h1;rw[Lm]at q;omega
 refine cU [(0,sl Aq l),(1,sl Ag s)] [] Z2 Tv (Xi .pure (Xi _ (Yi (show PC 18 [sl Aq l,sl Ag s] (.tup [.slice .none [],.slice .none [],vi (GP l s).2.2])from by have q:=QP l s hl hs hf.fewS;rw[bP hz]at q;exact q) (Yi (fun h3=>?_) (fun h3=>?_)))))
 .have h3:((GP l s).2.2:Int)≠(0:Int):=h3;refine cU [(5,.slice .none []),(6,.slice .none [])] [] Z2 Tv (Yi (by show AE ((0:Int)+(0:Int));unfold AE;omega) (Yi (fun h4=>?_) (fun h4=>?_)))
  .have h4:(0+0:Int)=(0:Int):=h4;exact .refl _
  have h4:¬((0+0:Int)=(0:Int)):=h4;exact absurd rfl h4
 have h3:((GP l s).2.2:Int)=(0:Int):=Ax h3;exact absurd h3 hz
theorem sj(l:List Cp)(s:List Sl)(hl:CC l)(Vh:Gv l=false):PC 7 [sl Aq l,sl Ag s] (vb true):=by
 refine Ps ⟨[],[],[(8,5)],[],[],[],[],[],[],[],[4,5,7,8,13,14,20,23,24,28,29]⟩ Tryz.func7 rfl (Nz rfl) (Xi .pure (Xi _ (Yi Hg (Xi .pure (Xi _ (Yi (show PC 15 [sl Aq l] (vb false)from by have q:=JU l hl;rw[Vh]at q;exact q) (cU [] [] Tv Tv ?_)))))))
 exact .refl _
theorem sk(l:List Cp)(s:List Sl)(hl:CC l)(hs:CC s)(Vh:Gv l=true)(iM:¬s.length<=20):PC 7 [sl Aq l,sl Ag s] (vb true):=by
 refine Ps ⟨[],[],[(8,5)],[],[],[],[],[],[],[],[4,5,7,8,13,14,20,23,24,28,29]⟩ Tryz.func7 rfl (Nz rfl) (Xi .pure (Xi _ (Yi Hg (Xi .pure (Xi _ (Yi (show PC 15 [sl Aq l] (vb true)from by have q:=JU l hl;rw[Vh]at q;exact q) (Yi (fun h1=>?_) (fun h1=>?_))))))))
 .have h1:(20:Int)<((s.map Ag).length:Int):=h1;have n1:20<s.length:=by have q:=h1;rw[Lm]at q;omega
  refine cU [] [] Tv Tv ?_
  exact .refl _
 have h1:¬((20:Int)<((s.map Ag).length:Int)):=h1;have n1:¬20<s.length:=by have q:=h1;rw[Lm]at q;omega
 exact absurd iM (by have q:=h1;rw[Lm]at q;omega)
theorem oV(l:List Cp)(s:List Sl)(hl:CC l)(hs:CC s)(Zf:∀y∈s,CT y.path):PC 7 [sl Aq l,sl Ag s] (vb true):=by
 cases Vh:Gv l with
 |false=>exact sj l s hl Vh
 |true=>
  by_cases iM:s.length<=20
  .by_cases hz:(GP l s).2.2=0
   .exact sf l s hl hs Zf Vh iM hz
   .exact si l s hl hs Vh hz
  .exact sk l s hl hs Vh iM
end Go.Eng
