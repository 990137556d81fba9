/- Lemmas for the claims of this seat, without a condition: part 33 (Q9). -/
import Derived.Test.YtmcbkdbfaneofaaGreatDoorBA32
namespace Go.Eng
def qO(x:List Rl)(roots:List Rq):An :=
 if(FZ x roots).found=true then⟨true,Gg (AO (FZ x roots).dec),(FZ x roots).ss.infs,(FZ x roots).stack.flatten⟩
 else⟨false,[],(FZ x roots).ss.infs.take ((FZ x roots).res+1),[]⟩
section
variable {x:List Rl}{roots:List Rq}
theorem SE.ok{s:SS}:∀{t:List Cd} {sl:List (List Sk)} {b:List Cd},ER x b→I9 roots b→SE x roots s b t sl→ER x (b++t)∧I9 roots (b++t)∧K2 (H8 roots (b++t)) (AO (b++t))=none
 | [],[],b,hd,hs,h=>by rw[BS];exact⟨hd,hs,h⟩
 | [],_::_,b,_,_,h=>h.elim
 |_::_,[],b,_,_,h=>h.elim
 |c::t,sk::sl,b,hd,hs,h=>by
  obtain⟨⟨p,needs,pre,post,k⟩,h⟩:=h;have hc:c∈Cw x p:=by rw[k.cands];simp
  obtain⟨c1,c2⟩:=J6 hc;have hu:Du b c.rel.path=false:=by rw[c1];exact k.next.undone
  have:=SE.ok (b:=b++[c]) (hd.snoc c2 hu) (hs.snoc k.next c1 k.fit k.noclash) h
  rw[AN]at this;exact this
end
end Go.Eng
