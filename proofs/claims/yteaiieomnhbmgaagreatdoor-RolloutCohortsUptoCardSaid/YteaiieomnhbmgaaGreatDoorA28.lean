/- Lemmas for the claims of this seat, without a condition: part 28 (Q9). -/
import Derived.Test.YteaiieomnhbmgaaGreatDoorA27
namespace Go.Eng
def jY(x:List Rl)(roots:List Rq):An :=
 if(EB x roots).found=true then⟨true,D1 (AR (EB x roots).dec),(EB x roots).ss.infs,(EB x roots).stack.flatten⟩
 else⟨false,[],(EB x roots).ss.infs.take ((EB x roots).res+1),[]⟩
section
variable {x:List Rl}{roots:List Rq}
theorem Tu.ok{s:SS}:∀{t:List Cd} {sl:List (List Sk)} {b:List Cd},ER x b->IZ roots b->Tu x roots s b t sl->ER x (b++t)/\IZ roots (b++t)/\Lu (Ir roots (b++t)) (AR (b++t))=none
 | [],[],b,hd,hs,h=>by rw[BP];exact⟨hd,hs,h⟩
 | [],_::_,b,_,_,h=>h.elim
 |_::_,[],b,_,_,h=>h.elim
 |c::t,sk::sl,b,hd,hs,h=>by
  obtain⟨⟨p,needs,pre,post,k⟩,h⟩:=h;have hc:c∈Cz x p:=by rw[k.cands];simp
  obtain⟨c1,c2⟩:=KA hc;have hu:DK b c.rel.path=false:=by rw[c1];exact k.next.undone
  have:=Tu.ok (b:=b++[c]) (hd.snoc c2 hu) (hs.snoc k.next c1 k.fit k.noclash) h
  rw[BA]at this;exact this
end
end Go.Eng
