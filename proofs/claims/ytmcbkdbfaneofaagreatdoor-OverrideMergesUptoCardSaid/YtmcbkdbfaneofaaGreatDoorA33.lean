/- Lemmas for the claims of this seat, without a condition: part 33 (Q9). -/
import Derived.Test.YtmcbkdbfaneofaaGreatDoorA32
namespace Go.Eng
def qR(x:List Rl)(roots:List Rq):An :=
 if(F4 x roots).found=true then⟨true,Gm (AO (F4 x roots).dec),(F4 x roots).ss.infs,(F4 x roots).stack.flatten⟩
 else⟨false,[],(F4 x roots).ss.infs.take ((F4 x roots).res+1),[]⟩
section
variable {x:List Rl}{roots:List Rq}
theorem SF.ok{s:SS}:∀{t:List Cd} {sl:List (List Sk)} {b:List Cd},ER x b→Ja roots b→SF x roots s b t sl→ER x (b++t)∧Ja roots (b++t)∧K4 (Ie roots (b++t)) (AO (b++t))=none
 | [],[],b,hd,hs,h=>by rw[BE];exact⟨hd,hs,h⟩
 | [],_::_,b,_,_,h=>h.elim
 |_::_,[],b,_,_,h=>h.elim
 |c::t,sk::sl,b,hd,hs,h=>by
  obtain⟨⟨p,needs,pre,post,k⟩,h⟩:=h;have hc:c∈Cw x p:=by rw[k.cands];simp
  obtain⟨c1,c2⟩:=Kb hc;have hu:Dt b c.rel.path=false:=by rw[c1];exact k.next.undone
  have:=SF.ok (b:=b++[c]) (hd.snoc c2 hu) (hs.snoc k.next c1 k.fit k.noclash) h
  rw[AM]at this;exact this
end
end Go.Eng
