/- Lemmas for the claims of this seat, without a condition: part 35 (V23, V20, V24). -/
import Derived.Test.YtddfphmpfnmknaaGreatDoorGA34
set_option maxHeartbeats 4000000
namespace Go.Eng
open Go.Proofs
variable {x:List Rl}{o:List Mv}{m:List Sl}{p:ByteArray}{i k:Nat}{a b:Int}(l:List Sl)(lim:Int)
theorem aZ{roots:List Rq}(hx:x.length≤16)(h:DT x roots=0):Hf (Fb x roots):=by
 obtain⟨h1,h2,h3⟩:=QI h;have hv:Ck x roots=true:=by
  cases hv:Ck x roots with
  |true=>rfl
  |false=>exact absurd h (bc hv).1
 cases hl:CG x roots (x.length+1) []with
 |nil=>rw[(Vp hv hx).2 hl]at h;cases h
 |cons d l =>
  have lf:=HW (Ef.nil x) (IM.nil roots) d (by rw[hl];exact Aa ..);refine⟨by show _≤_;omega,fun s hs=>?_,by rw[(Xn hv hx hl).2];exact lf.ok.sorted⟩;obtain⟨r,hr,rfl⟩:=h1 s hs;exact(T5 ((Y8.1 h3).2.1 r hr)).val
theorem yx{l:List Sl}(h:o++rm (l.drop i) (m.drop k)=rm l m)(hi:i<l.length)(c:m.drop k=[]∨∃hk:k<m.length,DL l[i].path m[k].path=true) :
  (o++d6 l[i].path (place l[i].ver) (-1))++rm (l.drop (i+1)) (m.drop k)=rm l m:=by
 rw[←h,Bx]
 congr 1
 rw[AP hi];rcases c with c | ⟨hk,c⟩
 ·rw[c,rm]
 ·rw[AP hk,rm];rw[Ae (fun e=>by rw[e,CO]at c;cases c),Al c]
theorem yy{l:List Sl}(h:o++rm (l.drop i) (m.drop k)=rm l m)(hk:k<m.length)(c:l.drop i=[]∨∃hi:i<l.length,DL m[k].path l[i].path=true) :
  (o++d6 m[k].path (-1) (place m[k].ver))++rm (l.drop i) (m.drop (k+1))=rm l m:=by
 rw[←h,Bx]
 congr 1
 rw[AP hk];rcases c with c | ⟨hi,c⟩
 ·rw[c,rm]
 ·rw[AP hi,rm];rw[Ae (fun e=>by rw[e,CO]at c;cases c),Ae (by rw[Lo c];decide)]
theorem rmC{l:List Sl}(h:o++rm (l.drop i) (m.drop k)=rm l m)(hi:i<l.length)(hk:k<m.length)(e:l[i].path=m[k].path) :
  (o++d6 l[i].path (place l[i].ver) (place m[k].ver))++rm (l.drop (i+1)) (m.drop (k+1))=rm l m:=by
 rw[←h,Bx]
 congr 1
 rw[AP hk,AP hi,rm,Al e]
theorem ay(h:a≠b):o++d6 p a b=o++[⟨p,a,b⟩]:=by rw[d6,Al h]
theorem W8(h:a=b):o++d6 p a b=o:=by rw[d6,Ae (fun q=>q h),BL]
theorem xK(hl:Hf l):PC 79 [sl Ac l] (vb true):=by
 have hfl:l.length≤1073741824:=hl.few;refine Ps D3 Tryz.func79 rfl (Nz rfl) (Xi {q:Nat // q≤l.length} (Xi (fun q=>⟨[(0,sl Ac l),(3,vi q.1)],[],Af⟩) (Xi (fun q=>l.length-q.1) (Yi (Xi ⟨0,AA _⟩ ?_) ?_))))
 ·exact⟨Z2,Tv,Fh,Tv⟩
 intro⟨i,i1⟩;have i1:i≤l.length:=i1;refine Yi (fun h1=>?_) (fun h1=>?_)
 ·have h1:(i:Int)<((l.map Ac).length:Int):=h1;have n1:=GI h1;refine Xi (Ac l[i]) (Yi (Hb n1) (Yi rfl (yN (Xi .pure (Xi _ (Yi (cb (hl.val _ (Aj n1)) (uB l[i].ver)) (Yi (Ii i ch) (Xi ⟨i+1,n1⟩ ?_))))))));exact⟨Dl l.length i ch,Z2,Tv,Fh,Tv⟩
 have h1:¬((i:Int)<((l.map Ac).length:Int)):=h1;have n1:=GH h1;refine Xi .pure (Xi _ (Yi (cb (cr hl.inc) (c80 l hl.few)) ?_));exact .refl _
theorem Wu{a b:ByteArray}(DM:¬a=b)(h:DL b a=false):DL a b=true:=by
 cases e:DL a b with
 |true=>rfl
 |false=>exact absurd (G6 e h) DM
theorem p5{v w:Ver}(h1:v.a=w.a)(h2:v.b=w.b)(h3:v.c=w.c):v=w:=by
 cases v;cases w;simp only at h1 h2 h3;subst h1;subst h2;subst h3;rfl
theorem AcB(m:List Sl)(hl:Hf l)(ja:Hf m):PC 55 [sl Ac l,sl Ac m] (.tup [sl B1 (rm l m),vi 0]):=by
 have hfl:l.length≤1073741824:=hl.few;have hfm:m.length≤1073741824:=ja.few;refine Ps (pC [] [14,16,18]) Tryz.func55 rfl (Nz rfl) (Xi .pure (Xi _ (Yi (xK l hl) (Xi .pure (Xi _ (Yi (xK m ja) (Xi {q:Nat×Nat×List Mv // q.1≤l.length∧q.2.1≤m.length∧q.2.2.length≤q.1+q.2.1∧q.2.2++rm (l.drop q.1) (m.drop q.2.1)=rm l m} (Xi (fun q=>⟨[(0,sl Ac l),(1,sl Ac m),(6,.slice (.id 19 3) (q.1.2.2.map B1)),(7,vi q.1.1),(8,vi q.1.2.1)],[(19,.tok 3 q.1.2.2.length)],Af⟩) (Xi (fun q=>l.length+m.length-(q.1.1+q.1.2.1)) (Yi (Xi ⟨(0,0,[]),AA _,AA _,AA _,rfl⟩ ?_) ?_))))))))))
 ·exact⟨Z5,Z1,Fh,Tv⟩
 intro⟨⟨i,k,o⟩,kK,x8,hi3,dR⟩;have kK:i≤l.length:=kK;have x8:k≤m.length:=x8;have hi3:o.length≤i+k:=hi3;have dR:o++rm (l.drop i) (m.drop k)=rm l m:=dR;refine Yi (fun h1=>?_) (fun h1=>?_)
 ·have h1:(i:Int)<((l.map Ac).length:Int):=h1;have n1:=GI h1;refine yN (Yi (fun h2=>?_) (fun h2=>?_))
  ·have h2:(k:Int)=((m.map Ac).length:Int):=h2;have nk:m.drop k=[]:=CK (by have q:=h2;rw[Lm]at q;omega);refine Yi Wk (Xi (Ac l[i]) (Yi (Hb n1) (Yi rfl (yN (Yi (fun _=>?_) (fun hf=>absurd h1 hf))))));refine Xi (Ac l[i]) (Yi (Hb n1) (Yi rfl (Yi (fun h3=>?_) (fun h3=>?_))))
   ·have h3:(l[i].path:ByteArray)=l[i].path:=h3;refine Yi Wk (Xi (Ac l[i]) (Yi (Hb n1) (Yi rfl (yN (Xi .pure (Xi _ (Yi (mX l[i].ver (hl.val _ (Aj n1))) (yN (Yi (fun h4=>?_) (fun h4=>?_))))))))))
    ·have h4:(k:Int)<((m.map Ac).length:Int):=h4;have n4:=GI h4;exact absurd h4 (by have q:=h2;omega)
    have h4:¬((k:Int)<((m.map Ac).length:Int)):=h4;have n4:=GH h4;refine Yi Wk (cU [(0,sl Ac l),(1,sl Ac m),(6,.slice (.id 19 3) (o.map B1)),(7,vi i),(8,vi k),(9,.ref 9 0),(10,vb false)] [(9,.cells [vs l[i].path,vi (place l[i].ver),vi (-1)]),(19,.tok 3 o.length)] Z7 Z2 (Yi (Ii i ch) (Yi (fun hf=>absurd hf h4) (fun _=>?_))));refine Yi Wk (cU [(0,sl Ac l),(1,sl Ac m),(6,.slice (.id 19 3) (o.map B1)),(7,vi (i+1)),(8,vi k),(9,.ref 9 0),(10,vb false)] [(9,.cells [vs l[i].path,vi (place l[i].ver),vi (-1)]),(19,.tok 3 o.length)] Z7 Z2 (Yi (fun h5=>?_) (fun h5=>?_)))
    ·have h5:((place l[i].ver):Int)≠((-1):Int):=h5;refine yN (Yi (Wt rfl ch Cl) ?_);have eO:=yx dR n1 (.inl nk);rw[ay h5]at eO;refine Xi ⟨(i+1,k,(o++[(⟨l[i].path,(place l[i].ver),-1⟩:Mv)])),by show i+1≤l.length;omega,by show k≤m.length;omega,by show(o++[(⟨l[i].path,(place l[i].ver),-1⟩:Mv)]).length≤i+1+(k);rw[Ad];show o.length+1≤_;omega,eO⟩ ?_;exact⟨by show l.length+m.length-((i+1)+k)<l.length+m.length-(i+k);omega,⟨Zr,Zr,⟨(show AV.slice (.id 19 3) (o.map B1++[[vs l[i].path,vi (place l[i].ver),vi (-1)]])=.slice (.id 19 3) ((o++[(⟨l[i].path,(place l[i].ver),-1⟩:Mv)]).map B1) by rw[As];rfl),rfl⟩,Zr,Zr,Tv⟩,⟨⟨tY,rfl⟩,Tv⟩,Fh,Tv⟩
    have h5:((place l[i].ver):Int)=((-1):Int):=AC h5;have eO:=yx dR n1 (.inl nk);rw[W8 h5]at eO;refine Xi ⟨(i+1,k,o),by show i+1≤l.length;omega,by show k≤m.length;omega,by show o.length≤i+1+(k);omega,eO⟩ ?_;exact⟨by show l.length+m.length-((i+1)+k)<l.length+m.length-(i+k);omega,Z5,Z1,Fh,Tv⟩
   have h3:¬(l[i].path:ByteArray)=l[i].path:=h3;exact absurd rfl h3
  have h2:¬((k:Int)=((m.map Ac).length:Int)):=h2;have nk:k<m.length:=by have q:=h2;rw[Lm]at q;omega
  refine Yi (fun _=>?_) (fun hf=>absurd h1 hf);refine Xi (Ac l[i]) (Yi (Hb n1) (Yi rfl (Xi (Ac m[k]) (Yi (Hb nk) (Yi rfl (Yi (fun h9=>?_) (fun h9=>?_)))))))
  ·have h9:DL m[k].path l[i].path=false:=(Ed _ _).trans h9;refine Yi Wk (Xi (Ac l[i]) (Yi (Hb n1) (Yi rfl (yN (Yi (fun _=>?_) (fun hf=>absurd h1 hf))))));refine Xi (Ac l[i]) (Yi (Hb n1) (Yi rfl (Yi (fun Pl=>?_) (fun Pl=>?_))))
   ·have Pl:(l[i].path:ByteArray)=l[i].path:=Pl;refine Yi Wk (Xi (Ac l[i]) (Yi (Hb n1) (Yi rfl (yN (Xi .pure (Xi _ (Yi (mX l[i].ver (hl.val _ (Aj n1))) (yN (Yi (fun IW=>?_) (fun IW=>?_))))))))))
    ·have IW:(k:Int)<((m.map Ac).length:Int):=IW;have n11:=GI IW;refine Xi (Ac l[i]) (Yi (Hb n1) (Yi rfl (yN (Xi (Ac m[k]) (Yi (Hb n11) (Yi rfl (yN (Yi (fun L3=>?_) (fun L3=>?_)))))))))
     ·have L3:(l[i].path:ByteArray)=m[k].path∧(l[i].ver.a:Int)=m[k].ver.a∧(l[i].ver.b:Int)=m[k].ver.b∧(l[i].ver.c:Int)=m[k].ver.c∧True:=L3;refine Yi Wk (cU [(0,sl Ac l),(1,sl Ac m),(6,.slice (.id 19 3) (o.map B1)),(7,vi i),(8,vi k),(9,.ref 9 0),(10,vb true)] [(9,.cells [vs l[i].path,vi (place l[i].ver),vi (-1)]),(19,.tok 3 o.length)] Z7 Z2 (Yi (Ii i ch) (Yi (fun _=>?_) (fun hf=>absurd IW hf))));refine Xi (Ac m[k]) (Yi (Hb n11) (Yi rfl (Yi (fun QU=>?_) (fun QU=>?_))))
      ·have QU:(m[k].path:ByteArray)=l[i].path:=QU;refine Yi Wk (cU [(0,sl Ac l),(1,sl Ac m),(6,.slice (.id 19 3) (o.map B1)),(7,vi (i+1)),(8,vi k),(9,.ref 9 0),(10,vb true)] [(9,.cells [vs l[i].path,vi (place l[i].ver),vi (-1)]),(19,.tok 3 o.length)] Z7 Z2 (Xi (Ac m[k]) (Yi (Hb n11) (Yi rfl (yN (Xi .pure (Xi _ (Yi (mX m[k].ver (ja.val _ (Aj nk))) (yN (Yi (Ii k ch) (cU [(0,sl Ac l),(1,sl Ac m),(6,.slice (.id 19 3) (o.map B1)),(7,vi (i+1)),(8,vi (k+1)),(9,.ref 9 0),(10,vb true)] [(9,.cells [vs l[i].path,vi (place l[i].ver),vi (place m[k].ver)]),(19,.tok 3 o.length)] Z7 Z2 ?_)))))))))))
       have eP:(place l[i].ver)=(place m[k].ver):=Ab place (show l[i].ver=m[k].ver from p5 L3.2.1 L3.2.2.1 L3.2.2.2.1);have eO:=rmC dR n1 nk (L3.1);rw[W8 eP]at eO;refine Xi ⟨(i+1,k+1,o),by show i+1≤l.length;omega,by show k+1≤m.length;omega,by show o.length≤i+1+(k+1);omega,eO⟩ ?_;exact⟨by show l.length+m.length-((i+1)+(k+1))<l.length+m.length-(i+k);omega,Z5,Z1,Fh,Tv⟩
      have QU:¬(m[k].path:ByteArray)=l[i].path:=QU;exact absurd L3.1.symm QU
     have L3:¬((l[i].path:ByteArray)=m[k].path∧(l[i].ver.a:Int)=m[k].ver.a∧(l[i].ver.b:Int)=m[k].ver.b∧(l[i].ver.c:Int)=m[k].ver.c∧True):=L3;refine Yi Wk (cU [(0,sl Ac l),(1,sl Ac m),(6,.slice (.id 19 3) (o.map B1)),(7,vi i),(8,vi k),(9,.ref 9 0),(10,vb false)] [(9,.cells [vs l[i].path,vi (place l[i].ver),vi (-1)]),(19,.tok 3 o.length)] Z7 Z2 (Yi (Ii i ch) (Yi (fun _=>?_) (fun hf=>absurd IW hf))));refine Xi (Ac m[k]) (Yi (Hb n11) (Yi rfl (Yi (fun Yc=>?_) (fun Yc=>?_))))
     ·have Yc:(m[k].path:ByteArray)=l[i].path:=Yc;refine Yi Wk (cU [(0,sl Ac l),(1,sl Ac m),(6,.slice (.id 19 3) (o.map B1)),(7,vi (i+1)),(8,vi k),(9,.ref 9 0),(10,vb false)] [(9,.cells [vs l[i].path,vi (place l[i].ver),vi (-1)]),(19,.tok 3 o.length)] Z7 Z2 (Xi (Ac m[k]) (Yi (Hb n11) (Yi rfl (yN (Xi .pure (Xi _ (Yi (mX m[k].ver (ja.val _ (Aj nk))) (yN (Yi (Ii k ch) (cU [(0,sl Ac l),(1,sl Ac m),(6,.slice (.id 19 3) (o.map B1)),(7,vi (i+1)),(8,vi (k+1)),(9,.ref 9 0),(10,vb false)] [(9,.cells [vs l[i].path,vi (place l[i].ver),vi (place m[k].ver)]),(19,.tok 3 o.length)] Z7 Z2 (Yi (fun rL=>?_) (fun rL=>?_)))))))))))))
      ·have rL:((place l[i].ver):Int)≠((place m[k].ver):Int):=rL;refine yN (Yi (Wt rfl ch Cl) ?_);have eO:=rmC dR n1 nk (Yc.symm);rw[ay rL]at eO;refine Xi ⟨(i+1,k+1,(o++[(⟨l[i].path,(place l[i].ver),(place m[k].ver)⟩:Mv)])),by show i+1≤l.length;omega,by show k+1≤m.length;omega,by show(o++[(⟨l[i].path,(place l[i].ver),(place m[k].ver)⟩:Mv)]).length≤i+1+(k+1);rw[Ad];show o.length+1≤_;omega,eO⟩ ?_;exact⟨by show l.length+m.length-((i+1)+(k+1))<l.length+m.length-(i+k);omega,⟨Zr,Zr,⟨(show AV.slice (.id 19 3) (o.map B1++[[vs l[i].path,vi (place l[i].ver),vi (place m[k].ver)]])=.slice (.id 19 3) ((o++[(⟨l[i].path,(place l[i].ver),(place m[k].ver)⟩:Mv)]).map B1) by rw[As];rfl),rfl⟩,Zr,Zr,Tv⟩,⟨⟨tY,rfl⟩,Tv⟩,Fh,Tv⟩
      have rL:((place l[i].ver):Int)=((place m[k].ver):Int):=AC rL;have eO:=rmC dR n1 nk (Yc.symm);rw[W8 rL]at eO;refine Xi ⟨(i+1,k+1,o),by show i+1≤l.length;omega,by show k+1≤m.length;omega,by show o.length≤i+1+(k+1);omega,eO⟩ ?_;exact⟨by show l.length+m.length-((i+1)+(k+1))<l.length+m.length-(i+k);omega,Z5,Z1,Fh,Tv⟩
     have Yc:¬(m[k].path:ByteArray)=l[i].path:=Yc;refine Yi Wk (cU [(0,sl Ac l),(1,sl Ac m),(6,.slice (.id 19 3) (o.map B1)),(7,vi (i+1)),(8,vi k),(9,.ref 9 0),(10,vb false)] [(9,.cells [vs l[i].path,vi (place l[i].ver),vi (-1)]),(19,.tok 3 o.length)] Z7 Z2 (Yi (fun VT=>?_) (fun VT=>?_)))
     ·have VT:((place l[i].ver):Int)≠((-1):Int):=VT;refine yN (Yi (Wt rfl ch Cl) ?_);have eO:=yx dR n1 (.inr ⟨nk,Wu (fun e=>Yc e.symm) h9⟩);rw[ay VT]at eO;refine Xi ⟨(i+1,k,(o++[(⟨l[i].path,(place l[i].ver),-1⟩:Mv)])),by show i+1≤l.length;omega,by show k≤m.length;omega,by show(o++[(⟨l[i].path,(place l[i].ver),-1⟩:Mv)]).length≤i+1+(k);rw[Ad];show o.length+1≤_;omega,eO⟩ ?_;exact⟨by show l.length+m.length-((i+1)+k)<l.length+m.length-(i+k);omega,⟨Zr,Zr,⟨(show AV.slice (.id 19 3) (o.map B1++[[vs l[i].path,vi (place l[i].ver),vi (-1)]])=.slice (.id 19 3) ((o++[(⟨l[i].path,(place l[i].ver),-1⟩:Mv)]).map B1) by rw[As];rfl),rfl⟩,Zr,Zr,Tv⟩,⟨⟨tY,rfl⟩,Tv⟩,Fh,Tv⟩
     have VT:((place l[i].ver):Int)=((-1):Int):=AC VT;have eO:=yx dR n1 (.inr ⟨nk,Wu (fun e=>Yc e.symm) h9⟩);rw[W8 VT]at eO;refine Xi ⟨(i+1,k,o),by show i+1≤l.length;omega,by show k≤m.length;omega,by show o.length≤i+1+(k);omega,eO⟩ ?_;exact⟨by show l.length+m.length-((i+1)+k)<l.length+m.length-(i+k);omega,Z5,Z1,Fh,Tv⟩
    have IW:¬((k:Int)<((m.map Ac).length:Int)):=IW;have n11:=GH IW;exact absurd nk n11
   have Pl:¬(l[i].path:ByteArray)=l[i].path:=Pl;exact absurd rfl Pl
  have h9:DL m[k].path l[i].path=true:=(Ed _ _).trans (by simpa using h9);refine Yi Wk (Xi (Ac m[k]) (Yi (Hb nk) (Yi rfl (yN (Yi (fun _=>?_) (fun hf=>absurd h1 hf))))));refine Xi (Ac l[i]) (Yi (Hb n1) (Yi rfl (Yi (fun S7=>?_) (fun S7=>?_))))
  ·have S7:(l[i].path:ByteArray)=m[k].path:=S7;exact absurd h9 (by rw[S7,CO];decide)
  have S7:¬(l[i].path:ByteArray)=m[k].path:=S7;refine Yi Wk (Yi (fun gq=>?_) (fun gq=>?_))
  ·have gq:(k:Int)<((m.map Ac).length:Int):=gq;have n25:=GI gq;refine Xi (Ac m[k]) (Yi (Hb n25) (Yi rfl (Yi (fun bq=>?_) (fun bq=>?_))))
   ·have bq:(m[k].path:ByteArray)=m[k].path:=bq;refine Yi Wk (cU [(0,sl Ac l),(1,sl Ac m),(6,.slice (.id 19 3) (o.map B1)),(7,vi i),(8,vi k),(9,.ref 9 0),(10,vb false)] [(9,.cells [vs m[k].path,vi (-1),vi (-1)]),(19,.tok 3 o.length)] Z7 Z2 (Xi (Ac m[k]) (Yi (Hb n25) (Yi rfl (yN (Xi .pure (Xi _ (Yi (mX m[k].ver (ja.val _ (Aj nk))) (yN (Yi (Ii k ch) (cU [(0,sl Ac l),(1,sl Ac m),(6,.slice (.id 19 3) (o.map B1)),(7,vi i),(8,vi (k+1)),(9,.ref 9 0),(10,vb false)] [(9,.cells [vs m[k].path,vi (-1),vi (place m[k].ver)]),(19,.tok 3 o.length)] Z7 Z2 (Yi (fun Qd=>?_) (fun Qd=>?_)))))))))))))
    ·have Qd:((-1):Int)≠((place m[k].ver):Int):=Qd;refine yN (Yi (Wt rfl ch Cl) ?_);have eO:=yy dR nk (.inr ⟨n1,h9⟩);rw[ay Qd]at eO;refine Xi ⟨(i,k+1,(o++[(⟨m[k].path,-1,(place m[k].ver)⟩:Mv)])),by show i≤l.length;omega,by show k+1≤m.length;omega,by show(o++[(⟨m[k].path,-1,(place m[k].ver)⟩:Mv)]).length≤i+(k+1);rw[Ad];show o.length+1≤_;omega,eO⟩ ?_;exact⟨by show l.length+m.length-(i+(k+1))<l.length+m.length-(i+k);omega,⟨Zr,Zr,⟨(show AV.slice (.id 19 3) (o.map B1++[[vs m[k].path,vi (-1),vi (place m[k].ver)]])=.slice (.id 19 3) ((o++[(⟨m[k].path,-1,(place m[k].ver)⟩:Mv)]).map B1) by rw[As];rfl),rfl⟩,Zr,Zr,Tv⟩,⟨⟨tY,rfl⟩,Tv⟩,Fh,Tv⟩
    have Qd:((-1):Int)=((place m[k].ver):Int):=AC Qd;have eO:=yy dR nk (.inr ⟨n1,h9⟩);rw[W8 Qd]at eO;refine Xi ⟨(i,k+1,o),by show i≤l.length;omega,by show k+1≤m.length;omega,by show o.length≤i+(k+1);omega,eO⟩ ?_;exact⟨by show l.length+m.length-(i+(k+1))<l.length+m.length-(i+k);omega,Z5,Z1,Fh,Tv⟩
   have bq:¬(m[k].path:ByteArray)=m[k].path:=bq;exact absurd rfl bq
  have gq:¬((k:Int)<((m.map Ac).length:Int)):=gq;have n25:=GH gq;exact absurd nk n25
 have h1:¬((i:Int)<((l.map Ac).length:Int)):=h1;have n1:=GH h1;refine Yi (fun br=>?_) (fun br=>?_)
 ·have br:(k:Int)<((m.map Ac).length:Int):=br;have n31:=GI br;refine yN (Yi (fun iY=>?_) (fun iY=>?_))
  ·have iY:(k:Int)=((m.map Ac).length:Int):=iY;exact absurd iY (by have q:=br;omega)
  have iY:¬((k:Int)=((m.map Ac).length:Int)):=iY;refine Yi (fun hf=>absurd hf h1) (fun _=>?_);refine Yi Wk (Xi (Ac m[k]) (Yi (Hb n31) (Yi rfl (yN (Yi (fun hf=>absurd hf h1) (fun _=>?_))))));refine Yi Wk (Yi (fun _=>?_) (fun hf=>absurd br hf));refine Xi (Ac m[k]) (Yi (Hb n31) (Yi rfl (Yi (fun tJ=>?_) (fun tJ=>?_))))
  ·have tJ:(m[k].path:ByteArray)=m[k].path:=tJ;refine Yi Wk (cU [(0,sl Ac l),(1,sl Ac m),(6,.slice (.id 19 3) (o.map B1)),(7,vi i),(8,vi k),(9,.ref 9 0),(10,vb false)] [(9,.cells [vs m[k].path,vi (-1),vi (-1)]),(19,.tok 3 o.length)] Z7 Z2 (Xi (Ac m[k]) (Yi (Hb n31) (Yi rfl (yN (Xi .pure (Xi _ (Yi (mX m[k].ver (ja.val _ (Aj n31))) (yN (Yi (Ii k ch) (cU [(0,sl Ac l),(1,sl Ac m),(6,.slice (.id 19 3) (o.map B1)),(7,vi i),(8,vi (k+1)),(9,.ref 9 0),(10,vb false)] [(9,.cells [vs m[k].path,vi (-1),vi (place m[k].ver)]),(19,.tok 3 o.length)] Z7 Z2 (Yi (fun gt=>?_) (fun gt=>?_)))))))))))))
   ·have gt:((-1):Int)≠((place m[k].ver):Int):=gt;refine yN (Yi (Wt rfl ch Cl) ?_);have eO:=yy dR n31 (.inl (CK (by have q:=h1;rw[Lm]at q;omega)));rw[ay gt]at eO;refine Xi ⟨(i,k+1,(o++[(⟨m[k].path,-1,(place m[k].ver)⟩:Mv)])),by show i≤l.length;omega,by show k+1≤m.length;omega,by show(o++[(⟨m[k].path,-1,(place m[k].ver)⟩:Mv)]).length≤i+(k+1);rw[Ad];show o.length+1≤_;omega,eO⟩ ?_;exact⟨by show l.length+m.length-(i+(k+1))<l.length+m.length-(i+k);omega,⟨Zr,Zr,⟨(show AV.slice (.id 19 3) (o.map B1++[[vs m[k].path,vi (-1),vi (place m[k].ver)]])=.slice (.id 19 3) ((o++[(⟨m[k].path,-1,(place m[k].ver)⟩:Mv)]).map B1) by rw[As];rfl),rfl⟩,Zr,Zr,Tv⟩,⟨⟨tY,rfl⟩,Tv⟩,Fh,Tv⟩
   have gt:((-1):Int)=((place m[k].ver):Int):=AC gt;have eO:=yy dR n31 (.inl (CK (by have q:=h1;rw[Lm]at q;omega)));rw[W8 gt]at eO;refine Xi ⟨(i,k+1,o),by show i≤l.length;omega,by show k+1≤m.length;omega,by show o.length≤i+(k+1);omega,eO⟩ ?_;exact⟨by show l.length+m.length-(i+(k+1))<l.length+m.length-(i+k);omega,Z5,Z1,Fh,Tv⟩
  have tJ:¬(m[k].path:ByteArray)=m[k].path:=tJ;exact absurd rfl tJ
 have br:¬((k:Int)<((m.map Ac).length:Int)):=br;have n31:=GH br;have e1:o=rm l m:=by rw[←dR,CK (by have q:=h1;rw[Lm]at q;omega),CK (by have q:=br;rw[Lm]at q;omega),rm,BL]
 exact .of_eq (Ab (fun z=>AV.tup [sl B1 z,vi 0]) e1)
theorem xn  : PC 148 [Ce,vi 0,vi 0] (.tup []):=by
 refine Ps D3 Tryz.func148 rfl (Nz rfl) (Yi (Ii 0 ch) (Xi {q:Nat // q=0} (Xi (fun q=>⟨[(0,Ce),(1,vi 0),(2,vi 0),(6,vi (0+1))],[],Af⟩) (Xi (fun q=>q.1) (Yi (Xi ⟨0,rfl⟩ ?_) ?_)))))
 ·exact⟨Z4,Tv,Fh,Tv⟩
 intro⟨i,i1⟩;refine Yi (fun h1=>?_) (fun h1=>?_)
 ·have h1:(0+1:Int)<(0:Int):=h1;exact absurd h1 Cl
 have h1:¬((0+1:Int)<(0:Int)):=h1;exact .refl _
theorem xm:PC 108 [Ce,vi 0,vi 0,vi lim] (.tup []):=by
 refine Ps D3 Tryz.func108 rfl (Nz rfl) (Xi {q:Nat // q=0} (Xi (fun q=>⟨[(0,Ce),(1,vi 0),(2,vi 0),(3,vi lim),(8,vb true),(9,vb true)],[],Af⟩) (Xi (fun q=>q.1) (Yi (Xi ⟨0,rfl⟩ ?_) ?_))))
 ·exact⟨Z6,Tv,Fh,Tv⟩
 intro⟨i,i1⟩;refine Yi (by show Bc ((0:Int)-(0:Int));unfold Bc;omega) (Yi (fun h1=>?_) (fun h1=>?_))
 ·have h1:(0-0:Int)≤(12:Int):=h1;refine Xi .pure (Xi _ (Yi xn ?_));exact .refl _
 have h1:¬((0-0:Int)≤(12:Int)):=h1;exact absurd Cl h1
theorem Acq(hb:PC 98 [.v (.int .u64 (IntKind.u64.wrap (0:Int)))] (vi lim)):PC 76 [Ce] (.tup []):=by
 refine Ps D3 Tryz.func76 rfl (Nz rfl) (Xi .pure (Xi _ (Yi hb (Xi .pure (Xi _ (Yi (xm lim) ?_))))));exact .refl _
theorem Acr  : PC 78 [Ce] Ce:=by
 refine Ps D3 Tryz.func78 rfl (Nz rfl) (Yi (fun _=>?_) (fun h=>absurd Cl h));exact .refl _
theorem Xm:Hf []:=⟨show 0≤1073741824 by decide,CI _,List.Pairwise.nil⟩
theorem Acp(hs:PC 76 [Ce] (.tup [])):PC 54 [sl Ac ([]:List Sl),sl Ac ([]:List Sl)] (.tup [Ce,vi 0]):=by
 refine Ps ⟨[],[],[],[(34,[12000,12500])],[],[],[],[],[],[],[1,2,3,4,5,6,8,9,10,11,12,13,14,16,17,18,19,20,21]⟩ Tryz.func54 rfl (Nz rfl) (cU [(0,sl Ac ([]:List Sl)),(1,sl Ac ([]:List Sl))] [] Z2 Tv (Xi (.gen [] 1) (Yi rfl (A1.to2 (pj [] Xm) ?_))));refine cU [(0,sl Ac ([]:List Sl)),(1,sl Ac ([]:List Sl)),(6,.mref 12000),(7,vb true)] [(12000,.map Du (H7 []))] Z4 Z1 (Xi (.gen [] 1) (Yi rfl (A1.to2 (pj [] Xm) ?_)));refine cU [(0,sl Ac ([]:List Sl)),(1,sl Ac ([]:List Sl)),(6,.mref 12000),(7,vb true),(8,.mref 12500),(9,vb true)] [(12000,.map Du (H7 [])),(12500,.map Du (H7 []))] Z6 Z2 (cU [(0,sl Ac ([]:List Sl)),(1,sl Ac ([]:List Sl)),(6,.mref 12000),(8,.mref 12500)] [(12000,.map Du (H7 [])),(12500,.map Du (H7 []))] Z4 Z2 (cU [(0,sl Ac ([]:List Sl)),(1,sl Ac ([]:List Sl)),(6,.mref 12000),(8,.mref 12500),(10,Ce)] [(12000,.map Du (H7 [])),(12500,.map Du (H7 []))] Z5 Z2 (Xi (.gen [] 1) (Yi rfl (A1.to2 (rA ([]:List Sl) (show 0≤1073741824 by decide)) ?_)))));have b2:Cf 4 (([]:List Sl).map Ac)∧(([]:List Sl).map Ac).length=(([]:List Sl).map Ac).length∧((([]:List Sl).map Ac).length+(([]:List Sl).map Ac).length)*40≤140737488355328∧(([]:List Sl).map Ac).length+(([]:List Sl).map Ac).length≤9223372036854775807:=⟨(DW (enc:=Ac) (n:=4) (fun _=>rfl) ([]:List Sl)),rfl,(by simp only[Lm,Ax];omega),(by simp only[Lm,Ax];omega)⟩;refine Yi b2 (Xi {q:Nat // q=0} (Xi (fun q=>⟨[(6,.mref 12000),(8,.mref 12500),(10,Ce),(37,.slice (.id 13500 4) ((([]:List Sl).map Ac)++(([]:List Sl).map Ac))),(38,vi (((([]:List Sl).map Ac)++(([]:List Sl).map Ac)):List (List AV)).length),(39,vi q.1)],[(12000,.rom Du (H7 [])),(12500,.rom Du (H7 [])),(13500,.tok 4 ((([]:List Sl).map Ac).length+(([]:List Sl).map Ac).length))],Af⟩) (Xi (fun q=>q.1) (Yi (Xi ⟨0,rfl⟩ ?_) ?_))))
 ·exact⟨Z6,Z3,Fh,Tv⟩
 intro⟨i,i1⟩;refine Yi (fun h3=>?_) (fun h3=>?_)
 ·have h3:(i:Int)<((((([]:List Sl).map Ac)++(([]:List Sl).map Ac)):List (List AV)).length:Int):=h3;exact absurd h3 (by show ¬((i:Int)<0);omega)
 have h3:¬((i:Int)<((((([]:List Sl).map Ac)++(([]:List Sl).map Ac)):List (List AV)).length:Int)):=h3;refine cU [(6,.mref 12000),(8,.mref 12500),(10,Ce)] [(12000,.rom Du (H7 [])),(12500,.rom Du (H7 []))] Z3 Z2 (Xi .pure (Xi _ (Yi hs (cU [(6,.mref 12000),(8,.mref 12500),(10,Ce)] [(12000,.rom Du (H7 [])),(12500,.rom Du (H7 []))] Z3 Z2 (cU [(6,.mref 12000),(8,.mref 12500),(10,Ce),(13,.v (.func (.func 77) #[] #[]))] [(12000,.rom Du (H7 [])),(12500,.rom Du (H7 []))] Z4 Z2 (cU [(6,.mref 12000),(8,.mref 12500),(10,Ce),(13,.v (.func (.func 77) #[] #[])),(14,Ce)] [(12000,.rom Du (H7 [])),(12500,.rom Du (H7 []))] Z5 Z2 (Xi .pure (Xi _ (Yi Acr (Xi {q:Nat // q=0} (Xi (fun q=>⟨[(6,.mref 12000),(8,.mref 12500),(13,.v (.func (.func 77) #[] #[])),(14,Ce),(52,Ce),(53,vi 0),(54,vi q.1)],[(12000,.rom Du (H7 [])),(12500,.rom Du (H7 []))],Af⟩) (Xi (fun q=>q.1) (Yi (Xi ⟨0,rfl⟩ ?_) ?_)))))))))))))
 ·exact⟨Z7,Z2,Fh,Tv⟩
 intro⟨i,i1⟩;refine Yi (fun h4=>?_) (fun h4=>?_)
 ·have h4:(i:Int)<(0:Int):=h4;exact absurd h4 (by show ¬((i:Int)<0);omega)
 have h4:¬((i:Int)<(0:Int)):=h4;refine cU [(14,Ce)] [] Z1 Tv ?_
 exact .refl _
theorem Aco(a b:List Mv)(ha:Cy a):PC 30 [sl B1 a,sl B1 b] (vb (decide (a=b))):=by
 have xY:a.length≤1073741824:=ha;refine Ps D3 Tryz.func30 rfl (Nz rfl) (Yi (fun h1=>?_) (fun h1=>?_))
 ·have h1:((a.map B1).length:Int)≠((b.map B1).length:Int):=h1;exact .of_eq (show vb false=vb (decide (a=b)) by rw[Ap (fun e=>absurd (Ab (fun z=>((z.map B1).length:Int)) e) h1)])
 have h1:((a.map B1).length:Int)=((b.map B1).length:Int):=AC h1;have hl:a.length=b.length:=by have q:=h1;rw[Lm,Lm]at q;omega
 refine Xi {q:Nat // q≤a.length∧∀j (hj:j<a.length),j<q→a[j]=b[j]'(hl▸hj)} (Xi (fun q=>⟨[(0,sl B1 a),(1,sl B1 b),(12,vi (a.map B1).length),(13,vi q.1)],[],Af⟩) (Xi (fun q=>a.length-q.1) (Yi (Xi ⟨0,AA _,fun _ _ h=>absurd h (F2 _)⟩ ?_) ?_)))
 ·exact⟨Z4,Tv,Fh,Tv⟩
 intro⟨i,i1,i2⟩;have i1:i≤a.length:=i1;have i2:∀j (hj:j<a.length),j<i→a[j]=b[j]'(hl▸hj):=i2;refine Yi (fun h3=>?_) (fun h3=>?_)
 ·have h3:(i:Int)<((a.map B1).length:Int):=h3;have n3:=GI h3;have qq:i<b.length:=by have q:=h3;rw[Lm]at q;omega
  refine Xi (B1 a[i]) (Yi (Hb n3) (Yi rfl (yN (Xi (B1 b[i]) (Yi (Hb qq) (Yi rfl (yN (Yi (fun h4=>?_) (fun h4=>?_)))))))))
  ·have h4:(a[i].path:ByteArray)=b[i].path∧(a[i].a:Int)=b[i].a∧(a[i].b:Int)=b[i].b∧True:=h4;refine Yi Wk (Yi (Ii i ch) ?_);refine Xi ⟨i+1,n3,fun j hj Iq=>if e:j<i then i2 j hj e else by
     have e:j=i:=by omega
     subst e;exact qD h4⟩ ?_
   exact⟨Dl a.length i ch,Z4,Tv,Fh,Tv⟩
  have h4:¬((a[i].path:ByteArray)=b[i].path∧(a[i].a:Int)=b[i].a∧(a[i].b:Int)=b[i].b∧True):=h4;refine Yi Wk ?_;exact .of_eq (show vb false=vb (decide (a=b)) by rw[Ap (jv (i:=i) (ha:=n3) (hb:=qq) (qE h4))])
 have h3:¬((i:Int)<((a.map B1).length:Int)):=h3;have n3:=GH h3;exact .of_eq (show vb true=vb (decide (a=b)) by rw[Aq (Yr hl fun j hj=>i2 j hj (by have q:=h3;rw[Lm]at q;omega))])
theorem wD(x:List Rl)(ifs:List (List AV))(roots:List Rq)(l:List Sl)(s:Sl)(hl:Cy l)(sm:Bool)(Pl:PC 10 [EZ x ifs,sl AH roots] (vb sm))(gF:sm=true→PC 26 [EZ x ifs,sl AH roots,sl Ac l] (.tup [sl Ac (N4 x roots l),vi (N5 x roots l)]))(qu:sm=true→PC 27 [EZ x ifs,sl AH roots,sl Ac l] (.tup [sl Ac (N4 x roots l),vi (N5 x roots l)]))(vF:sm=true→PC 28 [EZ x ifs,sl AH roots,.agg (Ac s)] (.tup [sl B1 (G7 x roots s),vi (Gx x roots s)]))(dQ:sm=true→PC 29 [EZ x ifs,sl AH roots,.agg (Ac s)] (.tup [sl B1 (G7 x roots s),vi (Gx x roots s)]))(hF1:sm=true→Cy (N4 x roots l))(gv:sm=true→Cy (G7 x roots s)):PC 7 [.agg (Ic x ifs),sl AH roots,sl Ac l,.agg (Ac s)] (vb true):=by
 have hl:l.length≤1073741824:=hl;refine Ps (pC [4,7] []) Tryz.func7 rfl (Nz rfl) (Xi .pure (Xi _ (Yi yk9 (yN (BF (Bt sm) (fun h1=>?_) (fun h1=>?_))))))
 ·have h1:sm=true:=h1;refine Xi .pure (Xi _ (Yi (cb h1 Pl) (Yi (fun h2=>?_) (fun h2=>?_))))
  ·have h2:(20:Int)<((l.map Ac).length:Int):=h2;have n2:20<l.length:=by have q:=h2;rw[Lm]at q;omega
   exact .refl _
  have h2:¬((20:Int)<((l.map Ac).length:Int)):=h2;have n2:¬20<l.length:=by have q:=h2;rw[Lm]at q;omega
  refine Yi (fun h4=>?_) (fun h4=>?_)
  ·have h4:(100:Int)<(s.path.size:Int):=h4;exact .refl _
  have h4:¬((100:Int)<(s.path.size:Int)):=h4;refine yN (Xi .pure (Xi _ (Yi (gF h1) (yN (Xi .pure (Xi _ (Yi (qu h1) (yN (yN (Xi .pure (Xi _ (Yi (vF h1) (yN (yN (Xi .pure (Xi _ (Yi (dQ h1) (Xi .pure (Xi _ (Yi (cb (Aq rfl) (Acn (N4 x roots l) (N4 x roots l) (hF1 h1))) (Yi (fun h6=>?_) (fun h6=>?_))))))))))))))))))))))
  ·have h6:((N5 x roots l):Int)=((N5 x roots l):Int):=h6;refine Xi .pure (Xi _ (Yi (cb (Aq rfl) (Aco (G7 x roots s) (G7 x roots s) (gv h1))) (Yi (fun h7=>?_) (fun h7=>?_))))
   ·have h7:((Gx x roots s):Int)=((Gx x roots s):Int):=h7;exact .refl _
   have h7:¬(((Gx x roots s):Int)=((Gx x roots s):Int)):=h7;exact absurd rfl h7
  have h6:¬(((N5 x roots l):Int)=((N5 x roots l):Int)):=h6;exact absurd rfl h6
 have h1:sm=false:=h1;refine Xi .pure (Xi _ (Yi (cb h1 Pl) ?_));exact .refl _
theorem df(x:List Rl)(ifs:List (List AV))(roots:List Rq)(h:Jc x)(hr:∀q∈roots,J8 q):PC 53 [EZ x ifs,sl AH roots] (.tup [sl Ac (Fb x roots),vi (DT x roots)]):=by
 have q:=s37 x ifs roots h.few hr
 rwa [pM h.len,mr h.len]at q
theorem ae{l:List Sl}(h:Jc x):Jc (Is x l):=by
 unfold Is;split
 ·exact⟨by rw[K9];exact h.len,fp h.few⟩
 ·exact⟨AA _,CI _⟩
theorem QL(p:List ByteArray):∃t:List ByteArray,t.Perm p∧(t.map MN).Pairwise fun a b=>a≤b:=by
 have e:∀q:ByteArray,Wv (MN q)=q:=fun q=>by cases q;simp
 have e2:∀q:List UInt8,MN (Wv q)=q:=fun q=>by simp
 refine⟨((p.map MN).mergeSort fun a b=>decide (a≤b)).map Wv,?_,?_⟩
 ·have h:=(List.mergeSort_perm (p.map MN) fun a b=>decide (a≤b)).map Wv
  rwa [BE,show(Wv ∘ MN)=id from funext e,HL]at h
 ·rw[BE,show(MN ∘ Wv)=id from funext e2,HL];have h:=TP (le:=fun a b:List UInt8=>decide (a≤b)) (fun a b c h1 h2=>Aq (List.le_trans (A4 h1) (A4 h2))) (fun a b=>by rcases List.le_total a b with h | h<;>simp[h]) (p.map MN)
  exact h.imp fun h=>A4 h
theorem jO(t:List ByteArray):(B5 t).length≤t.length:=by
 have h:=MR (t.map MN);rw[Lm]at h;unfold B5;rw[Lm];exact h
theorem ta(m:List Sl)(h:Hf l)(k:Hf m):(rm l m).length≤l.length+m.length:=by
 obtain⟨t,ht,hs⟩:=QL ((l++m).map (·.path));rw[←UZ h k ht hs];refine Bf (List.length_filterMap_le ..) (Bf (jO t) ?_);rw[ht.length_eq,Lm,Ad];exact Ao _
theorem ll{l:List Sl}:(Is x l).length≤x.length:=by
 unfold Is;split
 ·rw[K9];exact Ao _
 ·exact AA _
theorem eZ{s:Sl}{b:Bool}:(Fy x s b).length≤x.length:=by
 unfold Fy;split
 ·rw[K9];exact Ao _
 ·exact AA _
theorem Ab9(m:List Sl)(hl:Hf l)(ja:Hf m)(h1:l.length≤16)(h2:m.length≤16):PC 54 [sl Ac l,sl Ac m] (.tup [sl B1 (rm l m),vi 0]):=by
 obtain⟨t,ht,hs⟩:=QL ((l++m).map (·.path))
 by_cases e:l++m=[]
 ·obtain⟨rfl,rfl⟩:=List.append_eq_nil_iff.1 e;obtain⟨lim,_,hb⟩:=nJ 0 (AA _);have q:=Acp (Acq lim hb);rw[show rm [] []=[] by rw[rm]];exact A1.mono q fun r h' ⟨e1,e2⟩=>⟨.tup [sl B1 [],vi 0],by rw[e1];exact .tup ⟨.nil,.refl _,trivial⟩,rfl,e2⟩
 ·rw[←UZ hl ja ht hs];exact o75 l m t hl ja ch e ht hs
theorem jY{roots:List Rq}(h:(FE x 16&&Ff roots)=true):x.length≤16:=Vt (RU h)
theorem Ab7(x:List Rl)(ifs:List (List AV))(roots:List Rq)(l:List Sl)(s:Sl)(hL:p8 x roots)(h:p9 x ifs)(hl:Cy l):PC 7 [EZ x ifs,sl AH roots,sl Ac l,.agg (Ac s)] (vb true):=by
 have fw (q:(FE x 16&&Ff roots)=true):Jc x:=⟨Vt (RU q),h.lim.x⟩;have hrl (q:(FE x 16&&Ff roots)=true):=dh (RU q);have JU (q:(FE x 16&&Ff roots)=true) (b:Bool):PC 52 [EZ x ifs,sl Ac [s],vb b] (EZ (yk b (Kv s) x) ifs):=by
  have q:=xJ x ifs [s] b (show 1≤1073741824 by decide) h.lim.ix h.fi h.si;rw[tA]at q;exact q
 have NY:=zP x ifs h.lim.x;have hf (z:Sl):PC 49 [EZ x ifs,vs z.path,.agg (Fu z.ver)] (My (CY x z)):=zQ x ifs z.path z.ver h.lim.x h.lim.ix;have mvs (q:(FE x 16&&Ff roots)=true) (h2:DT x roots=0) (h3:DT (Fy x s true) roots=0):(Hf (Fb x roots)∧Hf (Fb (Fy x s true) roots))∧(Fb x roots).length≤16∧(Fb (Fy x s true) roots).length≤16 :=
  have k:=jY q
  ⟨⟨aZ k h2,aZ (Bf eZ k) h3⟩,Bf (QI h2).2.1 k,Bf (QI h3).2.1 (Bf eZ k)⟩
 have hY (q:(FE x 16&&Ff roots)=true):=pO (x:=x) (s:=s) (y:=true) (fw q)
 refine wD x ifs roots l s hl _ (hL.c11 ifs)
  (fun q=>Acv x ifs roots l (Acu ifs l hl (fw q) (hrl q) (yu ifs h.fi h.si)) (xc _ _ roots (ae (fw q)).few hL.rq))
  (fun q=>Acz x ifs roots l (Acy x ifs l NY (c80 l hl) (xJ x ifs l false hl h.lim.ix h.fi h.si)) (df _ _ roots (ae (fw q)) hL.rq))
  (fun q=>xx x ifs roots s (AcC ifs s (fw q) (hrl q) h.fi h.si).1 (xc x ifs roots hL.x hL.rq) (xc _ _ roots (hY q).few hL.rq) fun _ h2 h3=>have m:=mvs q h2 h3;Ab9 _ _ m.1.1 m.1.2 m.2.1 m.2.2)
  (fun q=>AcA x ifs roots s (Acx x ifs s (xI x ifs s NY hf (JU q true))) (df x ifs roots (fw q) hL.rq) (df _ _ roots (hY q) hL.rq) fun _ h2 h3=>have m:=mvs q h2 h3;AcB _ _ m.1.1 m.1.2)
  (fun q=>?_) fun q=>?_
 ·unfold N4;split
  ·exact AA _
  ·exact nW roots (Bf ll (jY q))
 ·unfold G7;split
  ·rename_i e;have e0:Gx x roots s=0:=e;have h2:DT x roots=0:=by
    refine AC fun c=>?_;unfold Gx at e0
    by_cases d:F5 x s true=0
    ·rw[Ae (fun q=>q d),Al c]at e0;exact c e0
    ·rw[Al d]at e0;exact d e0
   have h3:DT (Fy x s true) roots=0:=by
    refine AC fun c=>?_;unfold Gx at e0
    by_cases d:F5 x s true=0
    ·rw[Ae (fun q=>q d),Ae (fun q=>q h2),Al c]at e0;exact c e0
    ·rw[Al d]at e0;exact d e0
   have m:=mvs q h2 h3
   have:=ta _ _ m.1.1 m.1.2
   show _≤1073741824;omega
  ·exact AA _
end Go.Eng
