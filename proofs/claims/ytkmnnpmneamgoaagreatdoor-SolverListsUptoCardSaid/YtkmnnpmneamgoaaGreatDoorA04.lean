/- Lemmas for the claims of this seat, without a condition: part 4 (P13, P14, Q8, P15, P16). -/
import Derived.Test.YtkmnnpmneamgoaaGreatDoorA03
namespace Go.Eng
def ox:List (List UInt8):=[[97,110,100],[97,110,121],[97,115],[98,111,111,108],[100,101,112,114,101,99,97,116,101,100],[101,108,115,101],[101,120,112,111,114,116],[102,97,108,115,101],[102,110],[102,111,108,100],[102,114,111,109],[105,102],[105,109,112,111,114,116],[105,110],[105,110,116],[108,101,110,103,116,104],[108,101,116],[108,105,115,116],[109,97,116,99,104],[109,111,100,117,108,101],[110,111,110,101],[110,111,116],[111,114],[116,101,120,116],[116,104,101,110],[116,114,117,101],[116,121,112,101],[117,115,101]]
theorem cH:Zv=32::ox.flatMap (fun w=>w++[32]):=by decide +kernel
theorem oy:∀w∈ox,∀c∈w,c≠32:=by decide +kernel
theorem Vn:∀(s w r:List UInt8),(∀c∈s,c≠32)→(∀c∈w,c≠32)→M5 (s++[32]) (w++32::r)=decide (w=s)
 | [],[],r,_,_=>by simp[M5]
 | [],b::w,r,_,hw=>by
  have:=hw b (Ab ..)
  simp[M5,this.symm]
 |a::s,[],r,hs,_=>by
  have:=hs a (Ab ..)
  simp[M5,this]
 |a::s,b::w,r,hs,hw=>by
  have ih:=Vn s w r (fun c hc=>hs c (Ai _ hc)) (fun c hc=>hw c (Ai _ hc));rw[DZ,DZ,M5,ih]
  by_cases e:a=b
  ·subst e;simp
  ·have e2:¬b=a:=fun h=>e h.symm;simp[e,e2]
theorem XQ(x:List UInt8):∀(w r:List UInt8),(∀c∈w,c≠32)→gN (32::x) (w++r)=gN (32::x) r
 | [],_,_=>rfl
 |b::w,r,h=>by
  have hb:=h b (Ab ..);rw[DZ,gN,XQ x w r (fun c hc=>h c (Ai _ hc))]
  have:M5 (32::x) (b::(w++r))=false:=by simp[M5,hb.symm]
  rw[this,Jl]
theorem U4(s:List UInt8)(hs:∀c∈s,c≠32):∀ws:List (List UInt8),(∀w∈ws,∀c∈w,c≠32)→gN (32::(s++[32])) (32::ws.flatMap (fun w=>w++[32]))=ws.any (fun w=>decide (w=s))
 | [],_=>by
  cases s with
  |nil=>simp[gN,M5]
  |cons a s=>simp[gN,M5]
 |w::ws,h=>by
  have hw:=h w (Ab ..);have ih:=U4 s hs ws (fun v hv=>h v (Ai _ hv));have e:(w::ws).flatMap (fun w=>w++[32])=w++32::ws.flatMap (fun w=>w++[32]):=by simp[List.flatMap_cons]
  rw[e,gN,M5,Vn s w _ hs hw,XQ _ w _ hw,ih,BW];simp
theorem lY{s:List UInt8}(h:s.all FS=true):∀c∈s,c≠32:=fun c hc e=>by
 have:=AX.1 h c hc
 rw[e]at this;exact absurd this (by decide)
theorem Zu{s:List UInt8}(h:s.all FS=true):Us s=ox.any (fun w=>decide (w=s)):=by
 unfold Us;rw[cH,U4 s (lY h) ox oy]
end Go.Eng

namespace Go.Eng
theorem XV(s:A9)(x:Int×Int)(k:Nat){t:A9}(h:s.Perm t):(s.take k++([x]++s.drop k)).Perm (t++[x]):=by
 have h1:(s.take k++([x]++s.drop k)).Perm (x::(s.take k++s.drop k)):=by
  rw[HT];exact List.perm_middle
 rw[Ee]at h1;exact h1.trans ((List.Perm.cons x h).trans (Od x t).symm)
theorem Td(s:A9)(x:Int×Int)(k:Nat)(hs:s.Pairwise fun a b=>a.1≤b.1)(h1:∀j (hj:j<s.length),k≤j→x.1<s[j].1)(h2:k=0∨∃h:k-1<s.length,s[k-1].1≤x.1):(s.take k++([x]++s.drop k)).Pairwise fun a b=>a.1≤b.1:=by
 have zh:∀a∈s.take k,a.1≤x.1:=fun a ha=>by
  obtain⟨j,hj,e⟩:=BY ha;rw[AK]at hj;rw[HY]at e;rcases h2 with h2 | ⟨hk,h2⟩
  ·omega
  ·rcases BV j (k-1)with z | z
   ·have:=Bl.1 hs j (k-1) (by omega) hk z
    rw[e]at this;omega
   ·have:j=k-1:=by omega
    subst this;rw[←e];exact h2
 have zb:∀b∈s.drop k,x.1≤b.1:=fun b hb=>by
  obtain⟨j,hj,e⟩:=BY hb;rw[B6]at hj;rw[List.getElem_drop]at e
  have:=h1 (k+j) (by omega) (by omega)
  rw[e]at this;omega
 rw[List.pairwise_append];refine⟨hs.sublist (List.take_sublist ..),?_,fun a ha b hb=>?_⟩
 ·rw[HT,Db];exact⟨zb,hs.sublist (List.drop_sublist ..)⟩
 ·rw[HT]at hb;rcases AF.1 hb with e | hb
  ·rw[e];exact zh a ha
  ·have:=zh a ha
   have:=zb b hb
   omega
end Go.Eng

namespace Go.Eng
section
variable {x:List Rl}{roots:List Rq}{p:ByteArray}{needs:List Nd}{n0:Nd}{dec:List Cd}{st:List (List Sk)}
end
end Go.Eng

namespace Go.Eng
end Go.Eng

namespace Go.Eng
section
variable {x:List Rl}{roots:List Rq}{d:List (List Tm)}{i:Nf}
end
end Go.Eng
