/- Lemmas for the claims of this seat, without a condition: part 29 (Q9). -/
import Derived.Test.YtddfphmpfnmknaaGreatDoorDA28
namespace Go.Eng
def qq(x:List Rl)(roots:List Rq):An :=
 if(FW x roots).found=true then⟨true,Gf (AO (FW x roots).dec),(FW x roots).ss.infs,(FW x roots).stack.flatten⟩
 else⟨false,[],(FW x roots).ss.infs.take ((FW x roots).res+1),[]⟩
section
variable {x:List Rl}{roots:List Rq}
theorem Sp.ok{s:SS}:∀{t:List Cd} {sl:List (List Sk)} {b:List Cd},EN x b→IZ roots b→Sp x roots s b t sl→EN x (b++t)∧IZ roots (b++t)∧KN (H2 roots (b++t)) (AO (b++t))=none
 | [],[],b,hd,hs,h=>by rw[BN];exact⟨hd,hs,h⟩
 | [],_::_,b,_,_,h=>h.elim
 |_::_,[],b,_,_,h=>h.elim
 |c::t,sk::sl,b,hd,hs,h=>by
  obtain⟨⟨p,needs,pre,post,k⟩,h⟩:=h;have hc:c∈Co x p:=by rw[k.cands];simp
  obtain⟨c1,c2⟩:=JX hc;have hu:Do b c.rel.path=false:=by rw[c1];exact k.next.undone
  have:=Sp.ok (b:=b++[c]) (hd.snoc c2 hu) (hs.snoc k.next c1 k.fit k.noclash) h
  rw[BM]at this;exact this
end
end Go.Eng
