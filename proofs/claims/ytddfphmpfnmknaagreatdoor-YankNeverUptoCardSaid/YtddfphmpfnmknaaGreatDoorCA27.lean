/- Lemmas for the claims of this seat, without a condition: part 27 (Q9). -/
import Derived.Test.YtddfphmpfnmknaaGreatDoorCA26
namespace Go.Eng
def VE(x:List Rl)(roots:List Rq):An :=
 if(DL x roots).found=true then⟨true,FF (AJ (DL x roots).dec),(DL x roots).ss.infs,(DL x roots).stack.flatten⟩
 else⟨false,[],(DL x roots).ss.infs.take ((DL x roots).res+1),[]⟩
section
variable {x:List Rl}{roots:List Rq}
theorem RE.ok{s:SS}:∀{t:List Cd} {sl:List (List Sk)} {b:List Cd},Ez x b→Ij roots b→RE x roots s b t sl→Ez x (b++t)∧Ij roots (b++t)∧KC (HH roots (b++t)) (AJ (b++t))=none
 | [],[],b,hd,hs,h=>by rw[BV];exact⟨hd,hs,h⟩
 | [],_::_,b,_,_,h=>h.elim
 |_::_,[],b,_,_,h=>h.elim
 |c::t,sk::sl,b,hd,hs,h=>by
  obtain⟨⟨p,needs,pre,post,k⟩,h⟩:=h;have hc:c∈BJ x p:=by rw[k.cands];simp
  obtain⟨c1,c2⟩:=IS hc;have hu:CA b c.rel.path=false:=by rw[c1];exact k.next.undone
  have:=RE.ok (b:=b++[c]) (hd.snoc c2 hu) (hs.snoc k.next c1 k.fit k.noclash) h
  rw[BI]at this;exact this
end
end Go.Eng
