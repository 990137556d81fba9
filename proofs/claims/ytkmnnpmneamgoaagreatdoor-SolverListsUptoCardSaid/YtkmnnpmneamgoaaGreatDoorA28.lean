/- Lemmas for the claims of this seat, without a condition: part 28 (Q9). -/
import Derived.Test.YtkmnnpmneamgoaaGreatDoorA27
namespace Go.Eng
def p7(x:List Rl)(roots:List Rq):An :=
 if(FP x roots).found=true then⟨true,Dm (Am (FP x roots).dec),(FP x roots).ss.infs,(FP x roots).stack.flatten⟩
 else⟨false,[],(FP x roots).ss.infs.take ((FP x roots).res+1),[]⟩
section
variable {x:List Rl}{roots:List Rq}
theorem RR.ok{s:SS}:∀{t:List Cd} {sl:List (List Sk)} {b:List Cd},DY x b→IN roots b→RR x roots s b t sl→DY x (b++t)∧IN roots (b++t)∧HJ (DD roots (b++t)) (Am (b++t))=none
 | [],[],b,hd,hs,h=>by rw[CY];exact⟨hd,hs,h⟩
 | [],_::_,b,_,_,h=>h.elim
 |_::_,[],b,_,_,h=>h.elim
 |c::t,sk::sl,b,hd,hs,h=>by
  obtain⟨⟨p,needs,pre,post,k⟩,h⟩:=h;have hc:c∈BH x p:=by rw[k.cands];simp
  obtain⟨c1,c2⟩:=Hw hc;have hu:Df b c.rel.path=false:=by rw[c1];exact k.next.undone
  have:=RR.ok (b:=b++[c]) (hd.snoc c2 hu) (hs.snoc k.next c1 k.fit k.noclash) h
  rw[BU]at this;exact this
end
end Go.Eng
