/- Lemmas for the claims of this seat, without a condition: part 27 (Q9). -/
import Derived.Test.YtddfphmpfnmknaaGreatDoorFA26
namespace Go.Eng
def VK(x:List Rl)(roots:List Rq):An :=
 if(DK x roots).found=true then⟨true,FJ (AI (DK x roots).dec),(DK x roots).ss.infs,(DK x roots).stack.flatten⟩
 else⟨false,[],(DK x roots).ss.infs.take ((DK x roots).res+1),[]⟩
section
variable {x:List Rl}{roots:List Rq}
theorem RI.ok{s:SS}:∀{t:List Cd} {sl:List (List Sk)} {b:List Cd},Eg x b→Hr roots b→RI x roots s b t sl→Eg x (b++t)∧Hr roots (b++t)∧Kx (HN roots (b++t)) (AI (b++t))=none
 | [],[],b,hd,hs,h=>by rw[BP];exact⟨hd,hs,h⟩
 | [],_::_,b,_,_,h=>h.elim
 |_::_,[],b,_,_,h=>h.elim
 |c::t,sk::sl,b,hd,hs,h=>by
  obtain⟨⟨p,needs,pre,post,k⟩,h⟩:=h;have hc:c∈BN x p:=by rw[k.cands];simp
  obtain⟨c1,c2⟩:=IW hc;have hu:CC b c.rel.path=false:=by rw[c1];exact k.next.undone
  have:=RI.ok (b:=b++[c]) (hd.snoc c2 hu) (hs.snoc k.next c1 k.fit k.noclash) h
  rw[BH]at this;exact this
end
end Go.Eng
