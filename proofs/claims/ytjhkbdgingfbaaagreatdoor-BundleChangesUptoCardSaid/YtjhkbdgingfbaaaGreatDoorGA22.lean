/- Lemmas 22. -/
import Derived.Test.YtjhkbdgingfbaaaGreatDoorGA21
import Derived.Shelf.Slices.Delete
set_option maxHeartbeats 4000000
namespace Go.Eng
open Go.Proofs
variable {l:List Cp}
abbrev WY:ByteArray:=⟨#[97,47,118,49]⟩
abbrev gM:ByteArray:=⟨#[]⟩
abbrev HI:ByteArray:=⟨#[97,98,99]⟩
abbrev x_:ByteArray:=⟨#[120]⟩
abbrev aV:ByteArray:=⟨#[186,120,22,191,143,1,207,234,65,65,64,222,93,174,34,35,176,3,97,163,150,23,122,156,180,16,255,97,242,0,21,173]⟩
abbrev nu:ByteArray:=⟨#[45,113,22,66,183,38,176,68,1,98,124,169,251,172,50,245,200,83,15,177,144,60,196,219,2,37,135,23,146,26,72,129]⟩
abbrev cG:ByteArray:=⟨#[97,47,118,49,32,49,46,50,46,48,32,98,97,55,56,49,54,98,102,56,102,48,49,99,102,101,97,52,49,52,49,52,48,100,101,53,100,97,101,50,50,50,51,98,48,48,51,54,49,97,51,57,54,49,55,55,97,57,99,98,52,49,48,102,102,54,49,102,50,48,48,49,53,97,100,10]⟩
abbrev aI:Ver:=⟨1,2,0⟩
abbrev lN:Cp:=⟨WY,aI,HI⟩
abbrev IM:List Cp:=[lN]
abbrev iV:List Sl:=[⟨WY,aI⟩]
abbrev o5:Rl:=⟨WY,aI,[],aV,gM,gM,false⟩
abbrev RN:List Rl:=[o5]
abbrev iS:List Lk:=[⟨WY,aI,aV,gM⟩]
theorem VG(s:ByteArray)(h:s.size<56):Bu s=⟨((S8.l (RB HY.v (s++Di ⟨HY.v,s,IntKind.wrap .u64 (HY.tot+IntKind.wrap .u64 (s.size:Int))⟩))).flatMap Db).toArray⟩:=by
 have h0:HY.rest++s=s:=by show(⟨#[]⟩:ByteArray)++s=s;exact DW sS
 have e1:FU HY s=⟨HY.v,s,IntKind.wrap .u64 (HY.tot+IntKind.wrap .u64 (s.size:Int))⟩:=by
  rw[FU,h0,Ca.eq_1,Aj sP]
 have hp:(s++Di ⟨HY.v,s,IntKind.wrap .u64 (HY.tot+IntKind.wrap .u64 (s.size:Int))⟩).size=64:=by
  rw[AR,Di,AR,AR,Lv,L0];show s.size+(1+((119-(s.size:Int)) % 64).toNat+8)=64
  have:((119-(s.size:Int)) % 64).toNat=55-s.size:=by omega
  omega
 unfold Bu;rw[e1,Xx,FU];show ByteArray.mk (((Ca HY.v (s++Di ⟨HY.v,s,IntKind.wrap .u64 (HY.tot+IntKind.wrap .u64 (s.size:Int))⟩)).1.l).flatMap Db).toArray=_;generalize s++Di ⟨HY.v,s,IntKind.wrap .u64 (HY.tot+IntKind.wrap .u64 (s.size:Int))⟩=t at hp⊢;have hx:t.extract 0 64=t:=by rw[<-hp];exact DW sS
 rw[Ca.eq_1,Av sP,hx,Ca.eq_1,Aj (by rw[BO];omega)]
theorem Wg:Bu HI=aV:=by rw[VG _ sR];kernel_rfl
theorem nC:Bu x_=nu:=by rw[VG _ sR];kernel_rfl
theorem nA:Gm 1 2 0=⟨#[49,46,50,46,48]⟩:=by
 unfold Gm;rw[show F6 1=⟨(MJ 1).toArray⟩from Rh 1 sR,show F6 2=⟨(MJ 2).toArray⟩from Rh 2 sR,show F6 0=⟨(MJ 0).toArray⟩from Rh 0 sR];kernel_rfl
theorem fC:EB IM=cG:=by
 show(Et TZ [WY,Gm 1 2 0,GZ (Bu HI)]++IH)++⟨#[]⟩=cG;rw[nA,Wg,Iq,LU];kernel_rfl
theorem QZ:CD IM=0:=by kernel_rfl
theorem jJ:BA RN=0:=by kernel_rfl
theorem ny:cN IM=.tup [vs cG,vi 0]:=by rw[cN,Av QZ,fC]
theorem nw:Is RN [x_,HI] iV=(some IM,0):=by
 have h:KC [x_,HI] aV=some HI:=by
  show List.find? (fun a=>decide (Bu a=aV)) [x_,HI]=_;rw[List.find?_cons,List.find?_cons,Wg,nC];rfl
 have h2:Ro RN [x_,HI] ⟨WY,aI⟩=some lN:=by
  show(CM RN ⟨WY,aI⟩).bind (fun r=>(KC [x_,HI] r.arch).map fun b=>(⟨WY,aI,b⟩:Cp))=_;rw[show CM RN ⟨WY,aI⟩=some o5 from rfl];show(KC [x_,HI] aV).map _=_;rw[h];rfl
 rw[Is,Aj (fun c=>c.elim (fun c=>c jJ) (fun c=>by cases c)),Aj sR,show MU RN [x_,HI] iV=some IM from by show(Ro RN [x_,HI] ⟨WY,aI⟩).bind _=_;rw[h2];rfl]
theorem nz:EO RN IM=(RN,0):=by
 rw[EO,Aj (fun c=>c jJ),Aj (fun c=>c QZ),show FX RN IM=some RN from rfl];show(if IE IM RN=true then _ else _)=_;rw[Av];show(decide (Bu HI=aV)&&true)=true;rw[Wg];rfl
theorem nv:GP IM []=([],iV,0):=by rw[GP,Aj (fun c=>c QZ),Av (show Bw []=true from rfl)];rfl
theorem nB:Lx IM IM=0:=by
 rw[Lx,Aj (fun c=>c QZ),Aj sR,Aj sR]
 have:XG IM (A6 lN)=Bu HI:=rfl
 rw[Aj];show ¬((!decide (XG IM (A6 lN)=Bu HI))||false)=true;rw[this,Ah rfl];decide
abbrev eh:List AV:=[vs WY,vi 1,vi 2,vi 0,nzA,vs aV,vs gM,vs gM,vb false]
abbrev im:List AV:=[.slice .none [eh],nzA]
theorem VM:D7 (.agg im) (WG RN []):=
 have h:Ly eh (Bb o5):=⟨.refl _,.refl _,.refl _,.refl _,.nil,.refl _,.refl _,.refl _,.refl _,trivial⟩
 D7.agg ⟨D7.slice ⟨h,trivial⟩,.nil,trivial⟩
theorem dN:∀r∈RN,KF r:=F9.2 ⟨⟨show 4<=1073741824 by decide,E1 _⟩,E1 _⟩
theorem ml:∀c∈IM,c.path.size<=100:=F9.2 ⟨show 4<=100 by decide,E1 _⟩
theorem o0:∀c∈IM,c.bytes.size<=100000000:=F9.2 ⟨show 3<=100000000 by decide,E1 _⟩
theorem lT:∀c∈IM,CT c.path:=fun c hc=>AP (ml c hc) sR
theorem Hg  : PC 9 [] (vb true):=by
 have MQ:=qn [] sR (E1 _);have ra:∀c∈IM,DT (A6 c)=false/\c.path.size<=1000000:=fun c hc=>⟨Jr QZ c hc,AP (ml c hc) sR⟩;have kp:∀i,(EB (IM.take i)).data.toList.length<=1000000000:=fun i=>by
  have q:=Lf (l:=IM.take i) fun c hc=>⟨Jr QZ c (Cq hc),ml c (Cq hc)⟩;have q2:(IM.take i).length<=1:=by rw[Al];show min i 1<=1;omega
  show(EB (IM.take i)).size<=_;omega
 have pI:=Yd IM (show 1<=1073741824 by decide) ml o0 (fun _=>kp);rw[ny]at pI;have nI:=T1 IM (show 1<=1000 by decide) ra (LH QZ).1 (by rw[fC];decide);rw[fC,show IM.map EG=iS from by show [(⟨WY,aI,Bu HI,gM⟩:Lk)]=_;rw[Wg]]at nI;have pK:=IU HI (show 3<=100000000 by decide);rw[Wg]at pK;have Kn:=(Yc RN [] iV [x_,HI] dN (show 1<=1073741824 by decide) (show 2<=1073741824 by decide) (F9.2 ⟨show 1<=100000000 by decide,F9.2 ⟨show 3<=100000000 by decide,E1 _⟩⟩)).args (args':=[.agg im,sl Ag iV,sl encStr [x_,HI]]) ⟨VM,.refl _,.refl _,trivial⟩;rw[nw]at Kn;have pG:=(dD RN [] IM dN (show 1<=1073741824 by decide) lT o0 MQ).args (args':=[.agg im,sl Aq IM]) ⟨VM,.refl _,trivial⟩;rw[Rt,nz]at pG;have pH:=(QP IM [] (show 1<=1073741824 by decide) (Ar _) lT).args (args':=[sl Aq IM,nzA]) ⟨.refl _,.nil,trivial⟩;rw[nv]at pH;have pJ:=LA IM IM cG (show 1<=1073741824 by decide) (show 1<=1073741824 by decide) lT o0 (F3 (GT (LH QZ).1).1).1 (by rw[show IM.map EG=iS from by show [(⟨WY,aI,Bu HI,gM⟩:Lk)]=_;rw[Wg]];exact nI);rw[nB]at pJ;have U9:=GI IM (show 1<=1073741824 by decide) lT;rw[QZ]at U9;have Uk:=Yh IM IM (show 1<=1073741824 by decide);rw[Ah rfl]at Uk;refine Ps (pC [] [3,5,6,7,8]) Tryz.func9 rfl (Nz rfl) (Xi .pure (Xi _ (Yi pI (cU [(1,.slice (.id 16 5) [[vs ⟨#[97,47,118,49]⟩,vi 1,vi 2,vi 0,vs ⟨#[97,98,99]⟩]]),(2,vs cG),(3,vi 0)] [(16,.tok 5 1)] Z3 Z1 (Xi .pure (Xi _ (Yi nI (Xi [vs ⟨#[97,47,118,49]⟩,vi 1,vi 2,vi 0,vs ⟨#[97,98,99]⟩] (Yi ⟨by decide,rfl⟩ (Yi rfl ?_))))))))));refine yN (Xi _ (Yi pK (yN (Yi sT (cU [(1,.slice (.id 16 5) [[vs ⟨#[97,47,118,49]⟩,vi 1,vi 2,vi 0,vs ⟨#[97,98,99]⟩]]),(2,vs cG),(3,vi 0),(4,sl CZ iS),(5,vi 0),(6,.ref 6 0)] [(6,.cells [.slice (.id 33 9) [[vs ⟨#[97,47,118,49]⟩,vi 1,vi 2,vi 0,nzA,vs aV,vs ⟨#[]⟩,vs ⟨#[]⟩,vb false]],nzA]),(16,.tok 5 1),(33,.tok 9 1)] Z6 Z3 (yN (Xi [vs ⟨#[97,47,118,49]⟩,vi 1,vi 2,vi 0,vs ⟨#[97,98,99]⟩] (Yi ⟨by decide,rfl⟩ (Yi rfl ?_)))))))));refine yN (Xi _ (Yi Kn (Yi sT (cU [(1,.slice (.id 16 5) [[vs ⟨#[97,47,118,49]⟩,vi 1,vi 2,vi 0,vs ⟨#[97,98,99]⟩]]),(2,vs cG),(3,vi 0),(4,sl CZ iS),(5,vi 0),(6,.ref 6 0),(7,sl Aq IM),(8,vi 0)] [(6,.cells [.slice (.id 33 9) [[vs ⟨#[97,47,118,49]⟩,vi 1,vi 2,vi 0,nzA,vs aV,vs ⟨#[]⟩,vs ⟨#[]⟩,vb false]],nzA]),(16,.tok 5 1),(33,.tok 9 1)] Z8 Z3 (yN (Xi .pure (Xi _ (Yi pG (yN (cU [(1,.slice (.id 16 5) [[vs ⟨#[97,47,118,49]⟩,vi 1,vi 2,vi 0,vs ⟨#[97,98,99]⟩]]),(2,vs cG),(3,vi 0),(4,sl CZ iS),(5,vi 0),(7,sl Aq IM),(8,vi 0),(9,.ref 9 0),(10,vi 0)] [(9,.cells [sl Bb RN,.slice .none ([]:List (List AV))]),(16,.tok 5 1)] Z9 Z2 (Xi .pure (Xi _ (Yi pH (cU [(1,.slice (.id 16 5) [[vs ⟨#[97,47,118,49]⟩,vi 1,vi 2,vi 0,vs ⟨#[97,98,99]⟩]]),(2,vs cG),(3,vi 0),(4,sl CZ iS),(5,vi 0),(7,sl Aq IM),(8,vi 0),(9,.ref 9 0),(10,vi 0),(11,sl Ag ([]:List Sl)),(12,sl Ag iV),(13,vi 0)] [(9,.cells [sl Bb RN,.slice .none ([]:List (List AV))]),(16,.tok 5 1)] Z12 Z2 (Yi (fun _=>?_) (fun h=>absurd sR h))))))))))))))));refine Yi (fun _=>?_) (fun hf=>absurd rfl hf);refine Yi (fun _=>?_) (fun h=>absurd sR h);refine Yi (fun _=>?_) (fun hf=>absurd rfl hf);refine Xi .pure (Xi _ (Yi pJ (Yi (fun _=>?_) (fun h=>absurd sR h))));refine Xi .pure (Xi _ (Yi U9 (Yi (fun _=>?_) (fun h=>absurd sR h))));refine Yi (fun _=>?_) (fun h=>absurd sR h);refine Xi .pure (Xi _ (Yi Uk (Yi (fun _=>?_) (fun h=>absurd sR h))));refine Yi (fun _=>?_) (fun hf=>absurd rfl hf);refine Yi (fun h1=>?_) (fun h1=>?_)
 .have h1:((([]:List Sl).map Ag).length:Int)=(0:Int):=h1;refine Yi (fun _=>?_) (fun hf=>absurd rfl hf);refine Yi (fun _=>?_) (fun h=>absurd sR h);exact .refl _
 have h1:¬(((([]:List Sl).map Ag).length:Int)=(0:Int)):=h1;exact absurd rfl h1
def Ru(c:Cp):Bool:=decide (c.path.size<=100)&&decide (c.bytes.size<=200)
def Gv(l:List Cp):Bool:=l.all Ru&&decide (l.length<=12)
theorem ZS{c:Cp}(h:¬(c.path.size:Int)<=100\/¬(c.bytes.size:Int)<=200):Ru c=false:=by
 unfold Ru;rw[Iy,CB,CB];omega
structure GF(l:List Cp):Prop where
 len:l.length<=12
 path:∀c∈l,c.path.size<=100
 byt:∀c∈l,c.bytes.size<=200
theorem KX(h:Gv l=true):GF l:=by
 unfold Gv Ru at h;simp only[Ak,AJ,A3]at h;exact⟨h.2,fun c hc=>(h.1 c hc).1,fun c hc=>(h.1 c hc).2⟩
theorem GF.few(h:GF l):CC l:=AP h.len sR
theorem GF.fewS(h:GF l):∀c∈l,CT c.path:=fun c hc=>AP (h.path c hc) sR
theorem GF.byts(h:GF l):∀c∈l,c.bytes.size<=100000000:=fun c hc=>AP (h.byt c hc) sR
theorem GF.man(h:GF l)(hc:CD l=0):∀i,(EB (l.take i)).data.toList.length<=1000000000:=fun i=>by
 have q:=Lf (l:=l.take i) fun c hm=>⟨Jr hc c (Cq hm),h.path c (Cq hm)⟩;have q2:(l.take i).length<=12:=by rw[Al];have:=h.len;omega
 show(EB (l.take i)).size<=_;omega
theorem GF.size{l:List Cp}(h:GF l)(hc:CD l=0):(EB l).size<=65536:=by
 have q:=Lf (l:=l) fun c hm=>⟨Jr hc c hm,h.path c hm⟩
 have:=h.len
 omega
theorem GF.bad(h:GF l)(hc:CD l=0):∀c∈l,DT (A6 c)=false/\c.path.size<=1000000:=fun c hm=>⟨Jr hc c hm,AP (h.path c hm) sR⟩
theorem LI(h:CD l=0):(l.map A6).Pairwise RM:=(F3 (GT (LH h).1).1).1
theorem ZA(h:GF l)(hc:CD l=0):PC 24 [sl Aq l] (.tup [vs (EB l),vi 0]):=by
 have q:=Yd l h.few h.path h.byts (fun c=>h.man c);rw[cN,Av hc]at q;exact q
theorem VC(h:GF l)(hc:CD l=0):PC 26 [vs (EB l)] (.tup [sl CZ (l.map EG),vi 0]):=
 T1 l (AP h.len sR) (h.bad hc) (LH hc).1 (h.size hc)
theorem KA{m:List Cp}(hm:GF m)(hc:CD m=0)(hl:CC l)(hp:∀c∈l,CT c.path)(hb:∀c∈l,c.bytes.size<=100000000):PC 25 [sl Aq l,vs (EB m)] (vi (Lx l m)):=
 LA l m (EB m) hl hm.few hp hb (LI hc) (VC hm hc)
theorem ia(hl:CC l)(hp:∀c∈l,CT c.path)(hb:∀c∈l,c.bytes.size<=100000000)(hc:CD l≠0):PC 25 [sl Aq l,vs ⟨#[]⟩] (vi (CD l)):=by
 have q:=LA l [] ⟨#[]⟩ hl (Ar _) hp hb List.Pairwise.nil (T1 [] (Ar _) (fun c hc=>absurd hc Gs) rfl (Ar _));rw[Lx,Av hc]at q;exact q
theorem dm(hc:CD l=0):Lx l l=0:=by
 rw[Lx,Aj (fun c=>c hc),Aj,Aj (Nat.lt_irrefl _),Aj]
 .intro h;obtain⟨c,h1,h2⟩:=Br.1 h;have q:=KV (LI hc) (AA.2 ⟨c,h1,rfl⟩:(Fp (A6 c),vs (Bu c.bytes))∈l.map RI);have q:Bu c.bytes=XG l (A6 c):=by injection q with q;injection q
  rw[RF,Ah q.symm]at h2;cases h2
 .intro h;obtain⟨c,h1,h2⟩:=Br.1 h;rw[Ah (JS h1)]at h2;cases h2
theorem JU(l:List Cp)(hl:CC l):PC 15 [sl Aq l] (vb (Gv l)):=by
 have Ww:l.length<=1073741824:=hl;refine Ps Dj Tryz.func15 rfl (Nz rfl) (Xi {q:Nat // q<=l.length/\∀j (hj:j<l.length),j<q->Ru l[j]=true} (Xi (fun q=>⟨[(0,sl Aq l),(3,vi q.1)],[],Ao⟩) (Xi (fun q=>l.length-q.1) (Yi (Xi ⟨0,Ar _,fun _ _ h=>absurd h (Dr _)⟩ ?_) ?_))))
 .exact⟨Z2,Tv,Fh,Tv⟩
 intro⟨i,i1,i2⟩;have i1:i<=l.length:=i1;have i2:∀j (hj:j<l.length),j<i->Ru l[j]=true:=i2;refine Yi (fun h1=>?_) (fun h1=>?_)
 .have h1:(i:Int)<((l.map Aq).length:Int):=h1;have n1:=FL h1;refine Xi (Aq l[i]) (Yi (GR n1) (Yi rfl (Yi (fun h2=>?_) (fun h2=>?_))))
  .have h2:(100:Int)<(l[i].path.size:Int):=h2;exact D7.of_eq (show vb false=vb (Gv l) by rw[Gv,List.all_eq_false.2 ⟨l[i],Af n1,by rw[ZS (.inl sP)];decide⟩];rfl)
  have h2:¬((100:Int)<(l[i].path.size:Int)):=h2;refine Xi (Aq l[i]) (Yi (GR n1) (Yi rfl (Yi (fun h4=>?_) (fun h4=>?_))))
  .have h4:(200:Int)<(l[i].bytes.size:Int):=h4;exact D7.of_eq (show vb false=vb (Gv l) by rw[Gv,List.all_eq_false.2 ⟨l[i],Af n1,by rw[ZS (.inr sP)];decide⟩];rfl)
  have h4:¬((200:Int)<(l[i].bytes.size:Int)):=h4;refine Yi (Ii i sP) (Xi ⟨i+1,n1,fun j hj gg=>by rcases Be j i with g4 | g4;exact i2 j hj g4;have e:j=i:=sP;subst e;unfold Ru;rw[Ah sP,Ah sP];rfl⟩ ?_);exact⟨Dl l.length i sP,Z2,Tv,Fh,Tv⟩
 have h1:¬((i:Int)<((l.map Aq).length:Int)):=h1;have n1:=DC h1;refine Yi (fun h7=>?_) (fun h7=>?_)
 .have h7:((l.map Aq).length:Int)<=(12:Int):=h7;have ha:l.all Ru=true:=by
   rw[AJ];intro c hc;obtain⟨j,hj,rfl⟩:=A9.1 hc;exact i2 j hj (by have q:=DC h1;omega)
  exact D7.of_eq (show vb true=vb (Gv l) by rw[Gv,ha,Ah (by have q:=h7;rw[Lm]at q;omega)];rfl)
 have h7:¬(((l.map Aq).length:Int)<=(12:Int)):=h7;have ha:l.all Ru=true:=by
  rw[AJ];intro c hc;obtain⟨j,hj,rfl⟩:=A9.1 hc;exact i2 j hj (by have q:=DC h1;omega)
 exact D7.of_eq (show vb false=vb (Gv l) by rw[Gv,ha,Ae (by have q:=h7;rw[Lm]at q;omega)];rfl)
theorem oT(l:List Cp)(hl:CC l):PC 5 [sl Aq l] (vb true):=by
 refine Ps (pC [] [6,10,12,13,17,18]) Tryz.func5 rfl (Nz rfl) (Xi .pure (Xi _ (Yi Hg (Bn (Bt (Gv l)) (fun h1=>?_) (fun h1=>?_)))))
 .have h1:(Gv l)=true:=h1;have hf:=KX h1;refine Xi .pure (Xi _ (Yi (cb h1 (JU l hl)) (Bn (Classical.em (CD l=0)) (fun KD=>?_) (fun KD=>?_))))
  .refine Xi .pure (Xi _ (Yi (ZA hf KD) (cU [(0,sl Aq l),(3,vs (EB l)),(4,vi 0)] [] Z3 Tv (Xi .pure (Xi _ (Yi (show PC 20 [sl Aq l] (vi 0)from by have q:=GI l hf.few hf.fewS;rw[KD]at q;exact q) (Yi (fun h=>absurd h sR) (fun _=>?_))))))));refine Yi (fun h=>absurd h sR) (fun _=>?_);refine cU [(0,sl Aq l),(3,vs (EB l))] [] Z2 Tv (Xi .pure (Xi _ (Yi (VC hf KD) (Yi (fun h=>absurd h sR) (fun _=>?_)))));refine Yi (fun hf=>absurd (by rw[Lm,Lm,Lm]) hf) (fun _=>?_);refine cU [(0,sl Aq l),(3,vs (EB l)),(5,sl CZ (l.map EG))] [] Z3 Tv (Xi {q:Nat // q<=l.length} (Xi (fun q=>⟨[(0,sl Aq l),(3,vs (EB l)),(46,sl CZ (l.map EG)),(47,vi ((l.map EG).map CZ).length),(48,vi q.1)],[],Ao⟩) (Xi (fun q=>l.length-q.1) (Yi (Xi ⟨0,Ar _⟩ ?_) ?_))))
   .exact⟨Z5,Tv,Fh,Tv⟩
   intro⟨i,i1⟩;have i1:i<=l.length:=i1;refine Yi (fun h2=>?_) (fun h2=>?_)
   .have h2:(i:Int)<(((l.map EG).map CZ).length:Int):=h2;have n2:=FL h2;have aZ:i<l.length:=by have q:=n2;rw[Lm]at q;exact q
    refine Xi (CZ (EG l[i])) (Yi (Yi (Nn i) (CQ (show(l.map EG)[i]?=some (EG l[i]) by rw[Ap,Ge aZ];rfl))) (Yi rfl ?_));refine yN (yN (yN (Xi (Aq l[i]) (Yi (GR aZ) (Yi rfl (Xi (Aq l[i]) (Yi (GR aZ) (Yi rfl (yN (Xi (Aq l[i]) (Yi (GR aZ) (Yi rfl (Xi _ (Yi (IU l[i].bytes (hf.byts _ (Af aZ))) (Yi (fun h3=>?_) (fun h3=>?_))))))))))))))))
    .have h3:((EG l[i]).path:ByteArray)=l[i].path/\((EG l[i]).ver.a:Int)=l[i].ver.a/\((EG l[i]).ver.b:Int)=l[i].ver.b/\((EG l[i]).ver.c:Int)=l[i].ver.c/\((EG l[i]).arch:ByteArray)=(Bu l[i].bytes)/\((EG l[i]).ifc:ByteArray)=⟨#[]⟩/\True:=h3;refine Yi sT (cU [(0,sl Aq l),(3,vs (EB l)),(46,sl CZ (l.map EG)),(47,vi ((l.map EG).map CZ).length),(48,vi i)] [] Z5 Tv (Yi (Ii i sP) (Xi ⟨i+1,aZ⟩ ?_)));exact⟨Dl l.length i sP,Z5,Tv,Fh,Tv⟩
    have h3:¬(((EG l[i]).path:ByteArray)=l[i].path/\((EG l[i]).ver.a:Int)=l[i].ver.a/\((EG l[i]).ver.b:Int)=l[i].ver.b/\((EG l[i]).ver.c:Int)=l[i].ver.c/\((EG l[i]).arch:ByteArray)=(Bu l[i].bytes)/\((EG l[i]).ifc:ByteArray)=⟨#[]⟩/\True):=h3;exact absurd ⟨rfl,rfl,rfl,rfl,rfl,rfl,trivial⟩ h3
   have h2:¬((i:Int)<(((l.map EG).map CZ).length:Int)):=h2;have n2:=DC h2;refine Xi .pure (Xi _ (Yi (show PC 25 [sl Aq l,vs (EB l)] (vi 0)from by have q:=KA hf KD hf.few hf.fewS hf.byts;rw[dm KD]at q;exact q) (Yi (fun _=>?_) (fun h=>absurd sR h))));exact .refl _
  refine Xi .pure (Xi _ (Yi (show PC 24 [sl Aq l] (.tup [vs ⟨#[]⟩,vi (CD l)])from by have q:=Yd l hf.few hf.path hf.byts (fun c=>absurd c KD);rw[cN,Aj KD]at q;exact q) (cU [(0,sl Aq l),(3,vs ⟨#[]⟩),(4,vi (CD l))] [] Z3 Tv (Xi .pure (Xi _ (Yi (GI l hf.few hf.fewS) (Yi (fun hf=>absurd rfl hf) (fun _=>?_))))))));refine Yi (fun h6=>?_) (fun h6=>?_)
  .have h6:((CD l):Int)≠(0:Int):=h6;refine Yi (fun _=>?_) (fun hf=>absurd rfl hf);refine Xi .pure (Xi _ (Yi (ia hf.few hf.fewS hf.byts KD) (Yi (fun _=>?_) (fun hf=>absurd rfl hf))));exact .refl _
  have h6:((CD l):Int)=(0:Int):=Ax h6;exact absurd h6 KD
 have h1:(Gv l)=false:=h1;refine Xi .pure (Xi _ (Yi (cb h1 (JU l hl)) ?_));exact .refl _
end Go.Eng
namespace Go.Eng
open Go.Proofs Go.Shelf Go.RowKit Go.Lib Go.Sort
theorem cF(F:Array Value)(i n:Nat)(hF:F.size=n*5)(hi:i<n)(z:List Value)(hz:z.length=5):(lay (lay F (i*5) (F.toList.drop ((i+1)*5))) ((n-1)*5) z).toList=F.toList.take (i*5)++F.toList.drop ((i+1)*5)++z:=by
 have l1:(F.toList.take (i*5)).length=i*5:=by simp;omega
 have l2:(F.toList.drop ((i+1)*5)).length=(n-(i+1))*5:=by simp;omega
 apply Cc;intro t;rw[Az,lay_get? _ _ _ _ (by rw[Lib.lay_size];omega),lay_get? _ _ _ _ (by rw[l2];omega)];rw[hz,l2]
 by_cases c1:t<i*5
 .rw[Aj sP,Aj sP,AQ (by rw[Ac];omega),AQ sP,Er,Av c1,Az]
 .by_cases c2:t<(n-1)*5
  .rw[Aj sP,Av sP,AQ (by rw[Ac];omega),AL sP,l1]
  .rw[AL (by rw[Ac];omega),Ac,l1,l2]
   by_cases c3:t<n*5
   .rw[Av sP];congr 1;omega
   .rw[Aj sP,Aj sP,Hx sP,AN sP]
abbrev bn:List Value:=[.string ⟨#[]⟩,.int .i64 0,.int .i64 0,.int .i64 0,.string ⟨#[]⟩]
set_option maxRecDepth 1000000 in
theorem We(w:World)(b cap i n:Nat)(F:Array Value)(hF:F.size=n*5)(hi:i<n)(I4:n<=cap)(hH:Holds id w b 0 F)(h1:∀x∈F.toList,x.oneCell'=true) :
  Calls Tryz.prog 29 #[.slice (some ⟨b,0,none⟩) n cap,.int .i64 i,.int .i64 ((i:Int)+1)] w fun e w'=>e=.returned (.slice (some ⟨b,0,none⟩) (n-1) cap) /\
   w'=putRow id (Sort.ahead w 1) b 0 (lay (lay F (i*5) (F.toList.drop ((i+1)*5))) ((n-1)*5) bn):=by
 obtain⟨i0,kb,cy⟩:∃i0,Tryz.prog.info? 60=some i0/\i0.size=5:=by
  obtain⟨i,z,h1,_,h2,_⟩:=FF (P:=Tryz.prog) (T:=ey) DZ (e:=60) (n:=4) sT;exact⟨i,h1,h2.trans sT⟩
 obtain⟨news,GC⟩:∃news,news=F.toList.drop ((i+1)*5):=⟨_,rfl⟩;have BQ:news.length=(n-(i+1))*5:=by rw[GC];simp;omega
 have Fg:∀t,t<(n-(i+1))*5->news[t]?=some F[(i+1)*5+t]!:=by
  intro t ht;rw[GC,BW,Az,Fy F ((i+1)*5+t) sP,AY sP]
 obtain⟨A,hA,WB⟩:∃A:Addr,(if cap=i+1 then some (⟨b,0,none⟩:Addr)else some ⟨b,(i+1)*5,none⟩)=some A/\Hid (∀t u,news[t]?=some u->w.drew.cell? (A.add t)=some u):=by
  by_cases h:cap=i+1
  .refine⟨⟨b,0,none⟩,by simp[h],fun t u hu=>?_⟩;have h0:news.length=0:=by rw[BQ];omega
   rw[List.length_eq_zero_iff.1 h0]at hu;simp at hu
  .refine⟨⟨b,(i+1)*5,none⟩,by simp[h],fun t u hu=>?_⟩;have ht:t<(n-(i+1))*5:=by
    have:=(Au.1 hu).1
    rwa [BQ]at this
   rw[Fg t ht]at hu;rw[Addr.add_lit]
   have:=(hH ((i+1)*5+t) sP).1
   rw[Bf]at this;exact this.trans hu
 have s1:Hid (news.length=(n-(i+1))*5):=BQ;have s2:Hid (∀u∈news,u.oneCell'=true):=by
  intro u hu;rw[GC]at hu;exact h1 u (Gb hu)
 have s3:Hid (∀t,t<news.length->(w.drew.cell? ⟨b,0+i*5+t,none⟩).isSome=true/\w.drew.frozen? ⟨b,0+i*5+t,none⟩=false):=by
  intro t ht;rw[BQ]at ht
  have:=hH (i*5+t) sP
  rw[ET];exact⟨by show(w.cell? _).isSome=true;rw[this.1];rfl,this.2⟩
 obtain⟨W1,nQ⟩:∃W1,W1=w.drew.setCells b (0+i*5) news:=⟨_,rfl⟩;have fH : W1=putRow id (Sort.ahead w 1) b 0 (lay F (i*5) news):=by
  have:=putRow_setCells id (Sort.ahead w 1) b 0 news F (i*5) sP
  rw[putRow_self id (Sort.ahead w 1) b 0 F (holds_ahead id w 1 b 0 F hH),List.map_id]at this;rw[nQ,<-this]
  rfl
 have nM:Holds id W1 b 0 (lay F (i*5) news):=by rw[fH];exact holds_putRow id _ b 0 F _ (holds_ahead id w 1 b 0 F hH) (Lib.lay_size _ _ _)
 have JM:(storeCells ⟨b,0+(n-1)*5,none⟩ bn 0).run Tryz.prog W1=.ok () (W1.setCells b (0+(n-1)*5) bn):=by
  have:=run_storeCells_cells (P:=Tryz.prog) b (0+(n-1)*5) bn 0 W1 (fun j hj=>by
   have hj:j<5:=hj
   have:=nM ((n-1)*5+j) (by rw[Lib.lay_size];omega)
   rw[show 0+(n-1)*5+0+j=0+((n-1)*5+j) by omega,this.1];rfl) (fun j hj=>by
   have hj:j<5:=hj
   have:=nM ((n-1)*5+j) (by rw[Lib.lay_size];omega)
   rw[show 0+(n-1)*5+0+j=0+((n-1)*5+j) by omega];exact this.2) (fun v hv=>by
   simp only[AS,Nk,or_false]at hv;rcases hv with rfl | rfl | rfl | rfl | rfl<;>rfl)
  exact this
 have MQ:∀ty c,(Builtin.clear_ #[31] ty #[.slice (some ⟨b,(n-1)*5,none⟩) 1 c]).run Tryz.prog W1=.ok (.tuple #[]) (W1.setCells b (0+(n-1)*5) bn):=fun ty c=>by
  have hv:=Tryz.zeroValue60;rw[Bf]at JM⊢;have hz:(Builtin.zeroCells (Value.agg #[Value.string { data:=#[] },Value.int .i64 0,Value.int .i64 0,Value.int .i64 0,Value.string { data:=#[] }]).cells 1).toList=bn:=by kernel_rfl
  simp[Builtin.clear_,run_underlying Tryz.underlying31,hv,hz,JM]
 have rc:∀ty,(Builtin.clear_ #[31] ty #[.slice (some ⟨b,(i+(n-(i+1)))*5,none⟩) (n-(i+(n-(i+1)))) (cap-(i+(n-(i+1))))]).run Tryz.prog W1=.ok (.tuple #[]) (W1.setCells b (0+(n-1)*5) bn):=fun ty=>by
  have e1:i+(n-(i+1))=n-1:=by omega
  have e2:n-(n-1)=1:=by omega
  rw[e1,e2];exact MQ ty _
 have X:Aside (W1=putRow id (Sort.ahead w 1) b 0 (lay F (i*5) news)):=fH;have hW:Hid (W1=w.drew.setCells b (0+i*5) news):=nQ;have Y:Aside (news=F.toList.drop ((i+1)*5)):=GC;have Z:Aside (news.length=(n-(i+1))*5):=BQ;have sC:i<=cap:=by omega
 have sD:i+1<=cap:=by omega
 have mixed:=Go.Eng.hm;have lY:(0:Int)<=(i:Int)+1:=by omega
 have Wq:(i:Int)+1<=(n:Int):=by omega
 clear nQ fH nM hH Fg GC BQ JM MQ
 go_enter Tryz.func29,Tryz.ntmps29
 go_wp2_with fail
 go_region_law_o (refine step_append_room rfl (.tmp 22) (.tmp 25) 31 rfl 60 i0 5 Tryz.underlying31 kb cy b 0 i cap (by simp[Act.eval,Act.put]) A (n-(i+1)) (cap-(i+1)) news (by simp[Act.eval,Act.put]) s1.out WB.out s2.out sP s3.out ?_;rw[<-hW.out])
 go_wp2
 go_ret
 refine⟨by rw[show i+(n-(i+1))=n-1 by omega];rfl,?_⟩;rw[X.out];have e1:=Y.out;have e2:=Z.out;rw[<-e1]
 have:=putRow_setCells id (Sort.ahead w 1) b 0 bn (lay F (i*5) news) ((n-1)*5) (by rw[Lib.lay_size];show _+5<=_;omega)
 rw[List.map_id,Bf]at this;exact this
abbrev pp:List AV:=[Go.Eng.vs ⟨#[]⟩,vi 0,vi 0,vi 0,Go.Eng.vs ⟨#[]⟩]
theorem dC(l:List Cp)(i:Nat)(hi:i<l.length) :
  BL Tryz.prog 29 [.msl 1000 l.length,vi i,vi ((i:Int)+1)] (AC [(1000,.arr 5 (l.map Aq))] Ao) fun r h'=>r=.msl 2000 (l.length-1)/\h'=AC [(1000,.dead),(2000,.arr 5 ((l.eraseIdx i).map Aq))] Ao:=by
 have hE:Enters Tryz.prog 29:=Q0 29 Tryz.func29 sT rfl;have BQ:(l.eraseIdx i).length=l.length-1:=KI hi;have K6:=VO (P:=Tryz.prog) (f:=29) (es:=l.map Aq) (sz:=5) (rest:=[.int .i64 i,.int .i64 ((i:Int)+1)]) (n':=l.length-1) (Q:=fun EA=>EA=(l.eraseIdx i).map Aq++[pp]) hE (fun e=>by
  rw[List.map_eq_nil_iff]at e;subst e;simp at hi) (by rw[AO];omega) ?_
 .rw[AO]at K6;refine⟨hE,fun g w vals q1 q2 q3=>(K6.2 g w vals q1 q2 q3).mono fun _ _ ⟨v,r,h',g',e1,⟨e2,EA,p1,p2⟩,rest⟩=>⟨v,r,h',g',e1,⟨e2,by rw[p2,p1,List.take_append_of_le_length (by rw[AO,BQ];exact Ad _),As (by rw[AO,BQ];exact Ad _)]⟩,rest⟩⟩
 .intro g w b cap F hr hF hH hb hc;rw[AO]at hF hc⊢;have hu:∀e∈l.map Aq,e.length=5:=fun e he=>by
   obtain⟨t,_,rfl⟩:=AA.1 he;rfl
  refine(We w b cap i l.length F hF hi hc hH hr.2.1).mono ?_
  rintro e w' ⟨rfl,rfl⟩
  refine⟨rfl,_,_,1,#[],?_,rfl,?_,fun cs Vd=>?_,fun g w hr=>?_,rfl⟩
  .rw[Lib.lay_size,Lib.lay_size]
  .rw[Ac,AO,BQ,AI];omega
  .rcases By.1 Vd with h | h
   .obtain⟨t,_,rfl⟩:=AA.1 h;rfl
   .rw[Bh.1 h];rfl
  .rw[cF F i l.length hF hi bn rfl,List.eraseIdx_eq_take_drop_succ,Ec,AK,Ec,MH,List.map_drop,<-Im _ i hu,<-KZ _ (i+1) hu];refine B3.append (B3.append (hr.take _) (hr.drop _)) ?_;exact Xl g w D2 bn fun x hx=>by
    simp only[AS,Nk,or_false]at hx;rcases hx with rfl | rfl | rfl | rfl | rfl<;>rfl
end Go.Eng
namespace Go.Eng
open Go.Proofs
variable {l:List Cp}{p:ByteArray}{n:Int}{i:Nat}(s a:ByteArray)(c:Cp)(t:ByteArray)(k:Nat)(b:ByteArray)
theorem IT(l:List Cp)(hl:CC l)(Dn:l≠[]):BL Tryz.prog 28 [sl Aq l] (AC [] Ao) fun r h'=>r=.msl 2000 l.length/\h'=AC [(2000,.arr 5 (l.map Aq))] Ao:=by
 refine DK (Wd ⟨[],[],[(5,5)],[],[],[],[],[],[],[],[]⟩) [(5,2000)] rfl DZ hm rfl Tryz.func28 sT rfl (Nz rfl) sT rfl ?_;have Hd:Cn 5 (l.map Aq)/\([]:List (List AV)).length=0/\(([]:List (List AV)).length+(l.map Aq).length)*56<=140737488355328/\([]:List (List AV)).length+(l.map Aq).length<=9223372036854775807:=by
  refine⟨GW (enc:=Aq) (n:=5) (fun _=>rfl) l,rfl,?_,?_⟩<;>simp only[Aw,Lm]<;>unfold CC at hl<;>omega
 refine Yi ?_ ?_
 .intro _;refine Yi Hd ?_;have e1:AV.msl 2000 (([]:List (List AV)).length+(l.map Aq).length)=.msl 2000 l.length:=by simp
  refine Xi (.msl 2000 (([]:List (List AV)).length+(l.map Aq).length)) (Yi (.refl _) (Yi e1 ?_))
  rfl
 .intro h;exact absurd (List.map_eq_nil_iff.1 h) Dn
abbrev Wc:Cp:=⟨c.path,c.ver,b⟩
abbrev YB(v:Ver):Cp:=⟨c.path,v,c.bytes⟩
theorem d9(hp:(l.map A6).Pairwise RM){j:Nat}(hi:i<l.length)(hj:j<l.length)(h:l[i].path=l[j].path):i=j:=by
 rcases EK i j with q | q | q
 .have:=(A5.1 hp) i j (by rw[Lm];exact hi) (by rw[Lm];exact hj) q
  rw[BD,BD]at this;have this:FC l[i].path l[j].path=true:=this;rw[h,Dw]at this;cases this
 .exact q
 .have:=(A5.1 hp) j i (by rw[Lm];exact hj) (by rw[Lm];exact hi) q
  rw[BD,BD]at this;have this:FC l[j].path l[i].path=true:=this;rw[h,Dw]at this;cases this
theorem Ub(hp:(l.map A6).Pairwise RM){c:Cp}(hc:c∈l):XG l (A6 c)=Bu c.bytes:=by
 have q:=KV hp (AA.2 ⟨c,hc,rfl⟩:(Fp (A6 c),vs (Bu c.bytes))∈l.map RI)
 injection q with q;injection q with q
 exact q.symm
theorem gY(l:List Cp)(k:Nat)(hk:k<l.length)(b:ByteArray):(l.set k (Wc l[k] b)).map A6=l.map A6:=by
 rw[DX]
 have:A6 (Wc l[k] b)=(l.map A6)[k]'(by rw[Lm];exact hk):=by rw[BD]
 rw[this,List.set_getElem_self]
theorem dH(hc:CD l=0){k:Nat}(hk:k<l.length)(b:ByteArray):Lx (l.set k (Wc l[k] b)) l=if Bu b=Bu l[k].bytes then 0 else 9:=by
 have hp:=LI hc;have hn:=gY l k hk b;have h0:CD (l.set k (Wc l[k] b))=0:=by
  have q:=hc;unfold CD at q⊢;rw[hn,Bg];exact q
 have h1:¬(l.any fun c=>!decide (A6 c∈(l.set k (Wc l[k] b)).map A6))=true:=by
  rw[hn];intro h;obtain⟨c,q1,q2⟩:=Br.1 h;rw[Ah (JS q1)]at q2;cases q2
 rw[Lx,Aj (fun c=>c h0),Aj h1,Aj (by rw[Bg];exact Nat.lt_irrefl _)]
 by_cases hb:Bu b=Bu l[k].bytes
 .rw[Av hb,Aj];intro h;obtain⟨c,q1,q2⟩:=Br.1 h;obtain⟨j,hj,rfl⟩:=A9.1 q1;rw[Bg]at hj;rw[List.getElem_set]at q2;split at q2
  .rw[RF,show A6 (Wc l[k] b)=A6 l[k]from rfl,Ub hp (Af hk),Ah hb.symm]at q2;cases q2
  .rw[RF,Ub hp (Af hj),Ah rfl]at q2;cases q2
 .rw[Aj hb,Av];refine Br.2 ⟨Wc l[k] b,A9.2 ⟨k,by rw[Bg];exact hk,by rw[List.getElem_set,Av rfl]⟩,?_⟩;rw[RF,show A6 (Wc l[k] b)=A6 l[k]from rfl,Ub hp (Af hk),Ae (fun e=>hb e.symm)];rfl
theorem Xo{s:List Sl}(h:Eh s=true)(k:Nat):Eh (s.eraseIdx k)=true:=by
 obtain⟨h1,h2⟩:=GT h;have hs:=List.eraseIdx_sublist s k;unfold Eh;rw[Ak,CE,HD];exact⟨Zo ((F3 h1).1.sublist hs),fun y hy=>by rw[h2 y (hs.subset hy)];decide⟩
theorem dI(hc:CD l=0){k:Nat}(hk:k<l.length):Lx (l.eraseIdx k) l=6:=by
 have hp:=LI hc;have BQ:(l.eraseIdx k).length=l.length-1:=KI hk;have h0:CD (l.eraseIdx k)=0:=by
  obtain⟨q1,q2⟩:=LH hc;unfold CD;rw[Aj sP,Av (show Eh ((l.eraseIdx k).map A6)=true by rw[show(l.eraseIdx k).map A6=(l.map A6).eraseIdx k by simp only[List.eraseIdx_eq_take_drop_succ,AK,MH,List.map_drop]];exact Xo q1 k)]
 rw[Lx,Aj (fun c=>c h0),Av];refine Br.2 ⟨l[k],Af hk,?_⟩;refine(Aa (fun b=>!b) (Ae ?_)).trans rfl;intro h;obtain⟨c,q1,q2⟩:=AA.1 h;rw[List.mem_eraseIdx_iff_getElem]at q1;obtain⟨j,hj,Dn,rfl⟩:=q1;exact Dn (d9 hp hj hk (Aa Sl.path q2))
theorem dJ(hc:CD l=0){k:Nat}(hk:k<l.length){v:Ver}(hv:l[k].ver≠v):Lx (l.set k (YB l[k] v)) l≠0:=by
 have hp:=LI hc
 by_cases h0:CD (l.set k (YB l[k] v))=0
 .rw[Lx,Aj (fun c=>c h0),Av]
  .decide
  refine Br.2 ⟨l[k],Af hk,?_⟩;refine(Aa (fun b=>!b) (Ae ?_)).trans rfl;intro h;obtain⟨c,q1,q2⟩:=AA.1 h;obtain⟨j,hj,rfl⟩:=A9.1 q1;rw[Bg]at hj;rw[List.getElem_set]at q2;split at q2
  .exact hv (Aa Sl.ver q2).symm
  .rename_i Dn;exact Dn (d9 hp hj hk (Aa Sl.path q2)).symm
 .rw[Lx,Av h0];exact h0
theorem JD(h:GF l)(k:Nat)(hk:k<l.length)(b:ByteArray)(hb:b.size<=200):GF (l.set k (Wc l[k] b)):=by
 refine⟨by rw[Bg];exact h.len,fun c hc=>?_,fun c hc=>?_⟩
 .rcases CI hc with q | q
  .exact h.path c q
  .rw[q];exact h.path l[k] (Af hk)
 .rcases CI hc with q | q
  .exact h.byt c q
  .rw[q];exact hb
theorem H9(h:GF l)(k:Nat)(hk:k<l.length)(v:Ver):GF (l.set k (YB l[k] v)):=by
 refine⟨by rw[Bg];exact h.len,fun c hc=>?_,fun c hc=>?_⟩
 .rcases CI hc with q | q
  .exact h.path c q
  .rw[q];exact h.path l[k] (Af hk)
 .rcases CI hc with q | q
  .exact h.byt c q
  .rw[q];exact h.byt l[k] (Af hk)
theorem Js(h:GF l)(k:Nat):GF (l.eraseIdx k):=
 have hs:=List.eraseIdx_sublist l k
 ⟨AP hs.length_le h.len,fun c hc=>h.path c (hs.subset hc),fun c hc=>h.byt c (hs.subset hc)⟩
theorem kS(l:List Cp)(wh:Int)(b:ByteArray)(v:Ver)(k:Nat)(hl:CC l)(hw:0<=wh/\wh<=255)(RJ:0<l.length->k<l.length)(oh:0<l.length->wh % ((l.map Aq).length:Int)=(k:Int)):PC 6 [sl Aq l,.v (.int .u8 wh),vs b,.agg (Dy v)] (vb true):=by
 refine Ps ⟨[7],[],[],[],[],[],[],[],[],[(73,72),(200011,12),(200017,13)],[9,11,17]⟩ Tryz.func6 rfl (Nz rfl) (Xi .pure (Xi _ (Yi Hg (Bn (Bt (Gv l)) (fun h1=>?_) (fun h1=>?_)))))
 .have h1:(Gv l)=true:=h1;have hf:=KX h1;refine Xi .pure (Xi _ (Yi (cb h1 (JU l hl)) (Yi (fun h2=>?_) (fun h2=>?_))))
  .have h2:(200:Int)<(b.size:Int):=h2;exact .refl _
  have h2:¬((200:Int)<(b.size:Int)):=h2;have hb:b.size<=200:=by have q:=h2;omega
  refine Yi (fun h4=>?_) (fun h4=>?_)
  .have h4:((l.map Aq).length:Int)=(0:Int):=h4;exact .refl _
  have h4:¬(((l.map Aq).length:Int)=(0:Int)):=h4;have MS:0<l.length:=by have q:=h4;rw[Lm]at q;omega
  have Dn:l≠[]:=fun e=>by rw[e]at MS;exact absurd MS sR
  have hk:=RJ MS;have fX:=oh MS;have gk:l[k]?=some l[k]:=Ge hk;have Y4:(l.eraseIdx k).length=l.length-1:=KI hk;refine Xi .pure (Xi _ (Yi (GI l hf.few hf.fewS) (Yi (fun h6=>?_) (fun h6=>?_))))
  .have h6:((CD l):Int)≠(0:Int):=h6;exact .refl _
  have h6:((CD l):Int)=(0:Int):=Ax h6;have KD:CD l=0:=h6;refine Xi .pure (Xi _ (Yi (ZA hf KD) (Yi (fun h=>absurd h sR) (fun _=>?_))));refine Yi (show AE wh by unfold AE;omega) (Yi ⟨by omega,by omega⟩ ?_);refine cU [(0,sl Aq l),(2,vs b),(7,.ref 7 0),(9,vs (EB l)),(11,vi k)] [(7,.ro (Dy v))] ⟨Zr,Zr,Zr,Zr,⟨(Aa vi fX),rfl⟩,Tv⟩ Z1 (Xi (.gen [] 1) (Yi rfl (BL.to2 (IT l hf.few Dn) ?_)));refine Yi (by show(0:Int)<=k/\(k:Int)<(l.length:Nat);omega) (Yi (show l.length=(l.map Aq).length by simp only[Lm]) (Xi (Aq l[k]) (Yi (CQ gk) (yN (Yi (show l.length=(((l.map Aq).set k [vs l[k].path,vi l[k].ver.a,vi l[k].ver.b,vi l[k].ver.c,vs b]):List (List AV)).length by simp only[Lm,Bg]) ?_)))));refine cU [(0,sl Aq l),(2,vs b),(7,.ref 7 0),(9,vs (EB l)),(11,vi k),(12,sl Aq (l.set k (Wc l[k] b)))] [(7,.ro (Dy v))] ⟨Zr,Zr,Zr,Zr,Zr,⟨(show AV.slice .none ((l.map Aq).set k [vs l[k].path,vi l[k].ver.a,vi l[k].ver.b,vi l[k].ver.c,vs b])=sl Aq (l.set k (Wc l[k] b)) by rw[sl,DX]),rfl⟩,Tv⟩ Z1 ?_
  refine Bn (Classical.em (Bu b=Bu l[k].bytes)) (fun bi=>?_) (fun bi=>?_)
  .refine Xi _ (Yi (show PC 25 [sl Aq (l.set k (Wc l[k] b)),vs (EB l)] (vi 0)from by have q:=KA hf KD (JD hf k hk b hb).few (JD hf k hk b hb).fewS (JD hf k hk b hb).byts;rw[dH KD hk,Av bi]at q;exact q) (Yi (fun h=>absurd h sR) (fun _=>?_)));refine Xi _ (Yi (IU b (AP hb sR)) (Xi (Aq l[k]) (Yi (GR hk) (Yi rfl (Xi _ (Yi (IU l[k].bytes (hf.byts _ (Af hk))) (Yi (fun hf=>absurd bi hf) (fun _=>?_))))))));refine Yi sT (Xi (.gen [] 1) (Yi rfl (BL.to2 (IT l hf.few Dn) ?_)));refine Yi (Ii k sP) (Xi (.gen [(16800,1000)] 1) (Yi rfl (BL.to2 (dC l k hk) ?_)));refine Yi (show(l.length-1)=((l.eraseIdx k).map Aq).length by simp only[Lm,Y4]) (Xi .pure (Xi _ (Yi (show PC 25 [sl Aq (l.eraseIdx k),vs (EB l)] (vi 6)from by have q:=KA hf KD (Js hf k).few (Js hf k).fewS (Js hf k).byts;rw[dI KD hk]at q;exact q) (Yi (fun h=>absurd h sR) (fun _=>?_)))));refine Xi (.gen [] 1) (Yi rfl (BL.to2 (IT l hf.few Dn) ?_));refine yN (Yi (by show(0:Int)<=k/\(k:Int)<(l.length:Nat);omega) (Yi (show l.length=(l.map Aq).length by simp only[Lm]) (Xi (Aq l[k]) (Yi (CQ gk) (yN (Yi (show l.length=(((l.map Aq).set k [vs l[k].path,vi v.a,vi v.b,vi v.c,vs l[k].bytes]):List (List AV)).length by simp only[Lm,Bg]) ?_))))));refine cU [(0,sl Aq l),(7,.ref 7 0),(9,vs (EB l)),(11,vi k),(13,sl Aq (l.set k (YB l[k] v)))] [(7,.ro (Dy v))] ⟨Zr,Zr,Zr,Zr,⟨(show AV.slice .none ((l.map Aq).set k [vs l[k].path,vi v.a,vi v.b,vi v.c,vs l[k].bytes])=sl Aq (l.set k (YB l[k] v)) by rw[sl,DX]),rfl⟩,Tv⟩ Z1 ?_
   refine yN (Xi (Aq l[k]) (Yi (GR hk) (Yi rfl (yN (Yi (fun h8=>?_) (fun h8=>?_))))))
   .have h8:(v.a:Int)=l[k].ver.a/\(v.b:Int)=l[k].ver.b/\(v.c:Int)=l[k].ver.c/\True:=h8;refine Yi sT ?_;exact .refl _
   have h8:¬((v.a:Int)=l[k].ver.a/\(v.b:Int)=l[k].ver.b/\(v.c:Int)=l[k].ver.c/\True):=h8;refine Xi _ (Yi (KA hf KD (H9 hf k hk v).few (H9 hf k hk v).fewS (H9 hf k hk v).byts) (Yi (fun MO=>?_) (fun MO=>?_)))
   .have MO:((Lx (l.set k (YB l[k] v)) l):Int)≠(0:Int):=MO;refine Yi sT ?_;exact .refl _
   have MO:((Lx (l.set k (YB l[k] v)) l):Int)=(0:Int):=Ax MO;refine Yi sT ?_;exact absurd MO (dJ KD hk (fun e=>h8 (by rw[<-e];exact⟨rfl,rfl,rfl,trivial⟩)))
  refine Xi _ (Yi (show PC 25 [sl Aq (l.set k (Wc l[k] b)),vs (EB l)] (vi 9)from by have q:=KA hf KD (JD hf k hk b hb).few (JD hf k hk b hb).fewS (JD hf k hk b hb).byts;rw[dH KD hk,Aj bi]at q;exact q) (Yi (fun _=>?_) (fun h=>absurd sR h)));refine Xi _ (Yi (IU b (AP hb sR)) (Xi (Aq l[k]) (Yi (GR hk) (Yi rfl (Xi _ (Yi (IU l[k].bytes (hf.byts _ (Af hk))) (Yi (fun _=>?_) (fun hf=>absurd bi hf))))))));refine Yi sT (Xi (.gen [] 1) (Yi rfl (BL.to2 (IT l hf.few Dn) ?_)));refine Yi (Ii k sP) (Xi (.gen [(16800,1000)] 1) (Yi rfl (BL.to2 (dC l k hk) ?_)));refine Yi (show(l.length-1)=((l.eraseIdx k).map Aq).length by simp only[Lm,Y4]) (Xi .pure (Xi _ (Yi (show PC 25 [sl Aq (l.eraseIdx k),vs (EB l)] (vi 6)from by have q:=KA hf KD (Js hf k).few (Js hf k).fewS (Js hf k).byts;rw[dI KD hk]at q;exact q) (Yi (fun h=>absurd h sR) (fun _=>?_)))));refine Xi (.gen [] 1) (Yi rfl (BL.to2 (IT l hf.few Dn) ?_));refine yN (Yi (by show(0:Int)<=k/\(k:Int)<(l.length:Nat);omega) (Yi (show l.length=(l.map Aq).length by simp only[Lm]) (Xi (Aq l[k]) (Yi (CQ gk) (yN (Yi (show l.length=(((l.map Aq).set k [vs l[k].path,vi v.a,vi v.b,vi v.c,vs l[k].bytes]):List (List AV)).length by simp only[Lm,Bg]) ?_))))));refine cU [(0,sl Aq l),(7,.ref 7 0),(9,vs (EB l)),(11,vi k),(13,sl Aq (l.set k (YB l[k] v)))] [(7,.ro (Dy v))] ⟨Zr,Zr,Zr,Zr,⟨(show AV.slice .none ((l.map Aq).set k [vs l[k].path,vi v.a,vi v.b,vi v.c,vs l[k].bytes])=sl Aq (l.set k (YB l[k] v)) by rw[sl,DX]),rfl⟩,Tv⟩ Z1 ?_
  refine yN (Xi (Aq l[k]) (Yi (GR hk) (Yi rfl (yN (Yi (fun Pd=>?_) (fun Pd=>?_))))))
  .have Pd:(v.a:Int)=l[k].ver.a/\(v.b:Int)=l[k].ver.b/\(v.c:Int)=l[k].ver.c/\True:=Pd;refine Yi sT ?_;exact .refl _
  have Pd:¬((v.a:Int)=l[k].ver.a/\(v.b:Int)=l[k].ver.b/\(v.c:Int)=l[k].ver.c/\True):=Pd;refine Xi _ (Yi (KA hf KD (H9 hf k hk v).few (H9 hf k hk v).fewS (H9 hf k hk v).byts) (Yi (fun U8=>?_) (fun U8=>?_)))
  .have U8:((Lx (l.set k (YB l[k] v)) l):Int)≠(0:Int):=U8;refine Yi sT ?_;exact .refl _
  have U8:((Lx (l.set k (YB l[k] v)) l):Int)=(0:Int):=Ax U8;refine Yi sT ?_;exact absurd U8 (dJ KD hk (fun e=>Pd (by rw[<-e];exact⟨rfl,rfl,rfl,trivial⟩)))
 have h1:(Gv l)=false:=h1;refine Xi .pure (Xi _ (Yi (cb h1 (JU l hl)) ?_));exact .refl _
theorem oU(l:List Cp)(wh:Int)(b:ByteArray)(v:Ver)(hl:CC l)(hw:0<=wh/\wh<=255):PC 6 [sl Aq l,.v (.int .u8 wh),vs b,.agg (Dy v)] (vb true):=
 kS l wh b v (wh % (l.length:Int)).toNat hl hw (fun h=>by
  have q1:=G9 wh (show(l.length:Int)≠0 by omega);have q2:=Int.emod_lt_of_pos wh (show(0:Int)<l.length by omega);omega) (fun h=>by
  have q1:=G9 wh (show(l.length:Int)≠0 by omega);rw[Lm];omega)
abbrev Cu(x:Int):List AV:=[Dt x]
theorem ZU(k:IntKind)(a b:Int):BV .or k a b=BV .or k b a:=by
 show k.wrap ((BitVec.ofInt k.bits a ||| BitVec.ofInt k.bits b).toNat:Int)=k.wrap ((BitVec.ofInt k.bits b ||| BitVec.ofInt k.bits a).toNat:Int);rw[BitVec.or_comm]
theorem gW{x:Int}(e1:BV .and .u64 (IntKind.wrap .u64 (-n)) 31=32-n)(e2:IntKind.wrap .u64 (32-(32-n))=n):BV .or .u32 (B0 .shr .u32 x n) (B0 .shl .u32 x (32-n))=FB x (-n):=by
 rw[FB,e1,e2,ZU]
theorem Om(z:Int):BitVec.ofInt 32 (IntKind.wrap .u32 z)=BitVec.ofInt 32 z:=by
 apply BitVec.eq_of_toNat_eq;show(BitVec.ofInt 32 (z % 4294967296)).toNat=_;rw[Hb,Hb];show(z % 4294967296 % 4294967296).toNat=(z % 4294967296).toNat;rw[Int.emod_emod]
theorem L1(a:Int)(n:Nat)(h:n<=32):BitVec.ofInt 32 (B0 .shl .u32 a n)=BitVec.ofInt 32 a <<< n:=by
 show BitVec.ofInt 32 (IntKind.wrap .u32 (a*2 ^ min (n:Int).toNat 32))=_;rw[Om,A1,JJ h];apply BitVec.eq_of_toNat_eq;rw[BitVec.toNat_shiftLeft,Hb,Hb,Nat.shiftLeft_eq];have h1:0<=a % ((2 ^ 32:Nat):Int):=G9 _ sR;apply Int.ofNat_inj.1;generalize hm:((2 ^ 32:Nat):Int)=m at *
 have e1:(((a % m).toNat*2 ^ n % 2 ^ 32:Nat):Int)=(a % m*(2 ^ n:Int)) % m:=by
  rw[Int.natCast_emod,Int.natCast_mul,JR h1,hm,Int.natCast_pow];rfl
 have e2:a*2 ^ n % m=a % m*2 ^ n % m:=by
  conv=>rhs;rw[Int.mul_emod,Int.emod_emod,<-Int.mul_emod]
 rw[e1,JR (G9 _ (by rw[<-hm];decide)),e2]
theorem ZQ(a b:Int):BitVec.ofInt 32 (BV .or .u32 a b)=BitVec.ofInt 32 a ||| BitVec.ofInt 32 b:=by
 show BitVec.ofInt 32 (IntKind.wrap .u32 ((BitVec.ofInt 32 a ||| BitVec.ofInt 32 b).toNat:Int))=_;rw[Om];apply BitVec.eq_of_toNat_eq;rw[Hb,<-Int.natCast_emod,A1,Nl (BitVec.isLt _)]
theorem kW{a b c d:Int}(h:BitVec.ofInt 32 a ||| BitVec.ofInt 32 b=BitVec.ofInt 32 c ||| BitVec.ofInt 32 d):BV .or .u32 a b=BV .or .u32 c d:=by
 show IntKind.wrap .u32 ((BitVec.ofInt 32 a ||| BitVec.ofInt 32 b).toNat:Int)=IntKind.wrap .u32 ((BitVec.ofInt 32 c ||| BitVec.ofInt 32 d).toNat:Int);rw[h]
theorem dt:BV .or .u32 (BV .or .u32 (BV .or .u32 (B0 .shl .u32 (IntKind.wrap .u32 ((Bl s (4*k)).toNat:Int)) 24) (B0 .shl .u32 (IntKind.wrap .u32 ((Bl s (4*k+1)).toNat:Int)) 16)) (B0 .shl .u32 (IntKind.wrap .u32 ((Bl s (4*k+2)).toNat:Int)) 8)) (IntKind.wrap .u32 ((Bl s (4*k+3)).toNat:Int))=Ka s k 4:=by
 have sa:∀a,BitVec.ofInt 32 (B0 .shl .u32 a 24)=BitVec.ofInt 32 a <<< 24:=fun a=>L1 a 24 sR;have r9:∀a,BitVec.ofInt 32 (B0 .shl .u32 a 16)=BitVec.ofInt 32 a <<< 16:=fun a=>L1 a 16 sR;have s8:∀a,BitVec.ofInt 32 (B0 .shl .u32 a 8)=BitVec.ofInt 32 a <<< 8:=fun a=>L1 a 8 sR;refine kW ?_;simp only[Ka,ZQ,sa,r9,s8,BitVec.shiftLeft_or_distrib,<-BitVec.shiftLeft_add,CJ];simp[BitVec.or_assoc]
theorem jM{n:Nat}(h:n<=a.size):(a++b).extract 0 n=a.extract 0 n:=by
 apply DW;simp only[Fu,FV];rw[Array.extract_append];have h' : n<=a.data.size:=h;have z:b.data.extract (0-a.data.size) (n-a.data.size)=#[]:=by rw[show n-a.data.size=0 by omega];simp
 rw[z];simp
theorem jN{n:Nat}(h:n<=a.size):(a++b).extract n (a++b).size=a.extract n a.size++b:=by
 apply DW;simp only[Fu,FV];rw[Array.extract_append];have h' : n<=a.data.size:=h;have e:(a++b).size=a.data.size+b.data.size:=by rw[AR];rfl
 rw[e,show n-a.data.size=0 by omega,show a.data.size+b.data.size-a.data.size=b.data.size by omega];have x1:a.data.extract n (a.data.size+b.data.size)=a.data.extract n a.size:=by
  apply Ha;rw[Array.toList_extract,Array.toList_extract,List.extract_eq_take_drop,List.extract_eq_take_drop,As (by rw[BX,A4];omega),As (by rw[BX,A4];show _<=a.data.size-n;omega)]
 have x2:b.data.extract 0 b.data.size=b.data:=by simp
 rw[x1,x2]
theorem Kc:∀(n:Nat) (v:S8) (a b:ByteArray),a.size<=n->Ca v (a++b)=Ca (Ca v a).1 ((Ca v a).2++b)
 |n,v,a,b,h=>by
  rw[Ca.eq_1 v a];split
  .rename_i ce;rw[Ca.eq_1 v (a++b),Av (by rw[AR];omega),jM a b ce,jN a b ce]
   match n,h with
   |n+1,h=>exact Kc n _ _ _ (by rw[BO];omega)
   |0,h=>omega
  .rfl
theorem Ml:∀(n:Nat) (v:S8) (b:ByteArray),b.size<=n->(Ca v b).2.size=b.size % 64
 |n,v,b,h=>by
  rw[Ca.eq_1 v b];split
  .rename_i ce
   match n,h with
   |n+1,h=>rw[Ml n _ _ (by rw[BO];omega),BO];omega
   |0,h=>omega
  .rename_i ce;show b.size=_;omega
def Ze:HS:=⟨(Ca SN t).1,(Ca SN t).2,(t.size:Nat)⟩
theorem RG(h0:0<=n)(h1:n<18446744073709551616):IntKind.wrap .u64 n=n:=Int.emod_eq_of_lt h0 h1
theorem lE{t s:ByteArray}(h:t.size+s.size<9223372036854775808):FU (Ze t) s=Ze (t++s):=by
 unfold FU Ze;rw[<-Kc _ SN t s (Ad _)];have e:IntKind.wrap .u64 (((t.size:Nat):Int)+IntKind.wrap .u64 (s.size:Int))=((t++s).size:Nat):=by
  rw[RG (n:=(s.size:Int)) sP sP,RG sP sP,AR];rfl
 rw[e]
theorem gO:HY=Ze ⟨#[]⟩:=by
 unfold HY Ze;have e:Ca SN ⟨#[]⟩=(SN,⟨#[]⟩):=by rw[Ca.eq_1,Aj sR]
 rw[e];rfl
theorem Tj(n:Int):(MW n).size=8:=by show(List.map _ (List.range 8)).toArray.size=8;simp
def Pn:ByteArray:=((t++⟨#[128]⟩)++XL ((119-(t.size:Int)) % 64).toNat)++MW (IntKind.wrap .u64 (8*(t.size:Int)))
def UM:ByteArray:=⟨(((Ca SN (Pn t)).1.l).flatMap Db).toArray⟩
theorem g6:Xx (Ze t)=UM t:=by
 have e:Di (Ze t)=(⟨#[128]⟩++XL ((119-(t.size:Int)) % 64).toNat)++MW (IntKind.wrap .u64 (8*(t.size:Int))):=by
  unfold Di;have r:(((Ze t).rest.size:Nat):Int)=(t.size:Int) % 64:=by
   show(((Ca SN t).2.size:Nat):Int)=_;rw[Ml _ SN t (Ad _)];omega
  rw[r,show(119-(t.size:Int) % 64) % 64=(119-(t.size:Int)) % 64 by omega]
  rfl
 have e2:(FU (Ze t) (Di (Ze t))).v=(Ca SN (Pn t)).1:=by
  show(Ca (Ca SN t).1 ((Ca SN t).2++Di (Ze t))).1=_;rw[<-Kc _ SN t _ (Ad _),e,Pn,Hy,Hy,Hy]
 unfold Xx UM;rw[e2]
theorem iR{ws:List Int}(h:i<ws.length):(0:Int)<=((i:Nat):Int)/\(ws.map Cu)[((i:Nat):Int).toNat]?=some (Cu (DR ws i)):=by
 refine⟨KG _,?_⟩;rw[A1,Ap,OS h];rfl
def Fj:List UInt8:=(s.data.toList++[128])++List.replicate k 0
theorem Ot:(Fj s k).length=s.size+1+k:=by
 rw[Fj,Ac,Ac,A7,A4];rfl
theorem W8:Fj s k++[0]=Fj s (k+1):=by
 rw[Fj,Fj,B2,List.replicate_succ']
theorem cY:(⟨(Fj s k).toArray⟩:ByteArray)=(s++⟨#[128]⟩)++XL k:=by
 apply DW;rw[FV,FV];show(Fj s k).toArray=s.data++#[128]++(List.replicate k (0:UInt8)).toArray;apply Ha;simp[Fj]
theorem dy(n:Nat):(XL n).size=n:=by show(List.replicate n (0:UInt8)).toArray.size=n;simp
theorem Qg:(Pn t).size % 64=0/\(Pn t).size<=t.size+80:=by
 rw[Pn,AR,AR,AR,dy,Tj];show(t.size+1+_+8) % 64=0/\t.size+1+_+8<=t.size+80;omega
theorem RT{v:S8}{k:Nat}(h:64*k+64<=p.size):Ca v (p.extract (64*k) p.size)=Ca (RB v (p.extract (64*k) (64*k+64))) (p.extract (64*(k+1)) p.size):=by
 have hp:p.size=p.data.size:=rfl;have e1:(p.extract (64*k) p.size).extract 0 64=p.extract (64*k) (64*k+64):=by
  apply DW;simp only[Fu,Array.extract_extract];rw[CJ,JJ h]
 have e2:(p.extract (64*k) p.size).extract 64 (p.extract (64*k) p.size).size=p.extract (64*(k+1)) p.size:=by
  apply DW;simp only[Fu,Array.extract_extract,BO];rw[show 64*k+64=64*(k+1) by omega,show min (64*k+(min p.size p.size-64*k)) p.size=p.size by omega]
 rw[Ca.eq_1 v,Av (by rw[BO];omega),e1,e2]
theorem TT{v:S8}{k:Nat}(h:p.size<=64*k):(Ca v (p.extract (64*k) p.size)).1=v:=by
 rw[Ca.eq_1,Aj (by rw[BO];omega)]
def HT(n:Int)(i:Nat):List UInt8:=(List.range i).map fun(j:Nat)=>UInt8.ofNat (IntKind.wrap .u8 (B0 .shr .i64 n (8*(7-(j:Int))))).toNat
theorem WK(n:Int)(i:Nat):(HT n i).map Bj++[[AV.v (.int .u8 (IntKind.wrap .u8 (B0 .shr .i64 n (8*(7-(i:Int))))))]]=(HT n (i+1)).map Bj:=by
 rw[HT,HT,List.range_succ,AK,AK]
 congr 1
 show _=[Bj _];rw[Bj,aQ]
theorem Zv(h0:0<=n)(h1:n<18446744073709551616):(⟨(HT n 8).toArray⟩:ByteArray)=MW (IntKind.wrap .u64 n):=by
 rw[RG h0 h1,MW,HT]
 congr 2
end Go.Eng
