/- Lemmas for the claims of this seat, without a condition: part 29 (Q9). -/
import Derived.Test.YtddfphmpfnmknaaGreatDoorGA28
namespace Go.Eng
def SY(x:List Rl)(roots:List Rq):An :=
 if(DU x roots).found=true then⟨true,Ey (AD (DU x roots).dec),(DU x roots).ss.infs,(DU x roots).stack.flatten⟩
 else⟨false,[],(DU x roots).ss.infs.take ((DU x roots).res+1),[]⟩
section
variable {x:List Rl}{roots:List Rq}
theorem TK.ok{s:SS}:∀{t:List Cd} {sl:List (List Sk)} {b:List Cd},Ef x b→IM roots b→TK x roots s b t sl→Ef x (b++t)∧IM roots (b++t)∧Iy (Eo roots (b++t)) (AD (b++t))=none
 | [],[],b,hd,hs,h=>by rw[BL];exact⟨hd,hs,h⟩
 | [],_::_,b,_,_,h=>h.elim
 |_::_,[],b,_,_,h=>h.elim
 |c::t,sk::sl,b,hd,hs,h=>by
  obtain⟨⟨p,needs,pre,post,k⟩,h⟩:=h;have hc:c∈BJ x p:=by rw[k.cands];simp
  obtain⟨c1,c2⟩:=I5 hc;have hu:CV b c.rel.path=false:=by rw[c1];exact k.next.undone
  have:=TK.ok (b:=b++[c]) (hd.snoc c2 hu) (hs.snoc k.next c1 k.fit k.noclash) h
  rw[Bx]at this;exact this
end
end Go.Eng
