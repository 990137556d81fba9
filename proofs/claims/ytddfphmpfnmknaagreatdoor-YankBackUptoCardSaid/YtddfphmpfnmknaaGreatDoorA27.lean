/- Lemmas for the claims of this seat, without a condition: part 27 (Q9). -/
import Derived.Test.YtddfphmpfnmknaaGreatDoorA26
namespace Go.Eng
def oz(x:List Rl)(roots:List Rq):An :=
 if(FA x roots).found=true then⟨true,FP (AJ (FA x roots).dec),(FA x roots).ss.infs,(FA x roots).stack.flatten⟩
 else⟨false,[],(FA x roots).ss.infs.take ((FA x roots).res+1),[]⟩
section
variable {x:List Rl}{roots:List Rq}
theorem Rh.ok{s:SS}:∀{t:List Cd} {sl:List (List Sk)} {b:List Cd},Ey x b→IC roots b→Rh x roots s b t sl→Ey x (b++t)∧IC roots (b++t)∧Kr (HA roots (b++t)) (AJ (b++t))=none
 | [],[],b,hd,hs,h=>by rw[BT];exact⟨hd,hs,h⟩
 | [],_::_,b,_,_,h=>h.elim
 |_::_,[],b,_,_,h=>h.elim
 |c::t,sk::sl,b,hd,hs,h=>by
  obtain⟨⟨p,needs,pre,post,k⟩,h⟩:=h;have hc:c∈Cc x p:=by rw[k.cands];simp
  obtain⟨c1,c2⟩:=Jv hc;have hu:CY b c.rel.path=false:=by rw[c1];exact k.next.undone
  have:=Rh.ok (b:=b++[c]) (hd.snoc c2 hu) (hs.snoc k.next c1 k.fit k.noclash) h
  rw[BF]at this;exact this
end
end Go.Eng
