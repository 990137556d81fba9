/- Lemmas for the claims of this seat, without a condition: part 28 (Q9). -/
import Derived.Test.YtkmnnpmneamgoaaGreatDoorA27
namespace Go.Eng
def aW(x:List Rl)(roots:List Rq):An :=
 if(Eu x roots).found=true then⟨true,Dd (Ax (Eu x roots).dec),(Eu x roots).ss.infs,(Eu x roots).stack.flatten⟩
 else⟨false,[],(Eu x roots).ss.infs.take ((Eu x roots).res+1),[]⟩
section
variable {x:List Rl}{roots:List Rq}
theorem RC.ok{s:SS}:∀{t:List Cd} {sl:List (List Sk)} {b:List Cd},DX x b→IG roots b→RC x roots s b t sl→DX x (b++t)∧IG roots (b++t)∧Gt (FD roots (b++t)) (Ax (b++t))=none
 | [],[],b,hd,hs,h=>by rw[CP];exact⟨hd,hs,h⟩
 | [],_::_,b,_,_,h=>h.elim
 |_::_,[],b,_,_,h=>h.elim
 |c::t,sk::sl,b,hd,hs,h=>by
  obtain⟨⟨p,needs,pre,post,k⟩,h⟩:=h;have hc:c∈Bm x p:=by rw[k.cands];simp
  obtain⟨c1,c2⟩:=Gd hc;have hu:CD b c.rel.path=false:=by rw[c1];exact k.next.undone
  have:=RC.ok (b:=b++[c]) (hd.snoc c2 hu) (hs.snoc k.next c1 k.fit k.noclash) h
  rw[BU]at this;exact this
theorem Vw(hx:A6 x=0){p:ByteArray}{pre post:List Cd}{c:Cd}(h:Bm x p=pre++c::post):(∀o∈pre,plc o.rel.ver<plc c.rel.ver)∧∀o∈post,plc c.rel.ver<plc o.rel.ver:=by
 have hs:=(Cj hx).2.filter (fun r=>decide (r.path=p)&&!r.yanked);have xU:(Bm x p).Pairwise fun a b=>plc a.rel.ver<plc b.rel.ver:=by
  unfold Bm;rw[List.pairwise_map];refine List.Pairwise.imp_of_mem ?_ hs;intro a b ha hb Dt;simp only[BA,Af,Az]at ha hb;have uJ:=(Cj hx).1 a ha.1;have uK:=(Cj hx).1 b hb.1;show plc a.ver<plc b.ver;rw[uJ.plc,uK.plc];rcases Dt with h1 | ⟨_,h1⟩
  ·rw[ha.2.1,hb.2.1,DM]at h1;cases h1
  ·have h2:a.ver.a=b.ver.a:=by
    have e1:=uJ.maj;have e2:=uK.maj;rw[ha.2.1]at e1;rw[hb.2.1,e1]at e2;exact CC e2
   have v1:=He uJ.val;have v2:=He uK.val;unfold lM at h1;unfold place;omega
 rw[h,List.pairwise_append]at xU;obtain⟨_,h2,h3⟩:=xU;exact⟨fun o ho=>h3 o ho c (Ab ..),fun o ho=>(Dh.1 h2).1 o ho⟩
end
end Go.Eng
