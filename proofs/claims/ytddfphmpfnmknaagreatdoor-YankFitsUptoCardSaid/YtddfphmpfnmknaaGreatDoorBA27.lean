/- Lemmas for the claims of this seat, without a condition: part 27 (Q9). -/
import Derived.Test.YtddfphmpfnmknaaGreatDoorBA26
namespace Go.Eng
def ox(x:List Rl)(roots:List Rq):An :=
 if(Fy x roots).found=true then⟨true,FO (AI (Fy x roots).dec),(Fy x roots).ss.infs,(Fy x roots).stack.flatten⟩
 else⟨false,[],(Fy x roots).ss.infs.take ((Fy x roots).res+1),[]⟩
section
variable {x:List Rl}{roots:List Rq}
theorem Re.ok{s:SS}:∀{t:List Cd} {sl:List (List Sk)} {b:List Cd},Ew x b→Iz roots b→Re x roots s b t sl→Ew x (b++t)∧Iz roots (b++t)∧Ko (HA roots (b++t)) (AI (b++t))=none
 | [],[],b,hd,hs,h=>by rw[BT];exact⟨hd,hs,h⟩
 | [],_::_,b,_,_,h=>h.elim
 |_::_,[],b,_,_,h=>h.elim
 |c::t,sk::sl,b,hd,hs,h=>by
  obtain⟨⟨p,needs,pre,post,k⟩,h⟩:=h;have hc:c∈Ch x p:=by rw[k.cands];simp
  obtain⟨c1,c2⟩:=Js hc;have hu:CY b c.rel.path=false:=by rw[c1];exact k.next.undone
  have:=Re.ok (b:=b++[c]) (hd.snoc c2 hu) (hs.snoc k.next c1 k.fit k.noclash) h
  rw[BH]at this;exact this
end
end Go.Eng
