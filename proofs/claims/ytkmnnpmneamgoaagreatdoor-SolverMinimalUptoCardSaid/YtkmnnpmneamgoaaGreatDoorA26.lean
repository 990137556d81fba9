/- Lemmas for the claims of this seat, without a condition: part 26 (Q9). -/
import Derived.Test.YtkmnnpmneamgoaaGreatDoorA25
namespace Go.Eng
def ansX (x:List Rl) (roots:List Rq):An :=
 if (solveX x roots).found=true then ⟨true,sortP (keysC (solveX x roots).dec),(solveX x roots).ss.infs,(solveX x roots).stack.flatten⟩
 else ⟨false,[],(solveX x roots).ss.infs.take ((solveX x roots).res+1),[]⟩
section
variable {x:List Rl} {roots:List Rq}
theorem Chain.ok {s:SS} : ∀ {t:List Cd} {sl:List (List Sk)} {b:List Cd},DecOk x b→SatOk roots b→Chain x roots s b t sl→DecOk x (b++t)∧SatOk roots (b++t)∧nextP (reqsC roots (b++t)) (keysC (b++t))=none
 | [],[],b,hd,hs,h=>by rw [List.append_nil]; exact ⟨hd,hs,h⟩
 | [],_ :: _,b,_,_,h=>h.elim
 | _ :: _,[],b,_,_,h=>h.elim
 | c :: t,sk :: sl,b,hd,hs,h=>by
  obtain ⟨⟨p,needs,pre,post,k⟩,h⟩:=h;have hc:c ∈ candsP x p:=by rw [k.cands]; simp
  obtain ⟨c1,c2⟩:=cand_ok hc;have hu:doneC b c.rel.path=false:=by rw [c1]; exact k.next.undone
  have:=Chain.ok (b:=b++[c]) (hd.snoc c2 hu) (hs.snoc k.next c1 k.fit k.noclash) h
  rw [List.append_assoc] at this;exact this
end
end Go.Eng
