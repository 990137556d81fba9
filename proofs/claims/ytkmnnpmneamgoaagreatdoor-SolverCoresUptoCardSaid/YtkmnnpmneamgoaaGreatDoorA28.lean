/- Lemmas for the claims of this seat, without a condition: part 28 (Q9). -/
import Derived.Test.YtkmnnpmneamgoaaGreatDoorA27
namespace Go.Eng
def fo(x:List Rl)(roots:List Rq):An :=
 if(Fc x roots).found=true then⟨true,Dp (Ap (Fc x roots).dec),(Fc x roots).ss.infs,(Fc x roots).stack.flatten⟩
 else⟨false,[],(Fc x roots).ss.infs.take ((Fc x roots).res+1),[]⟩
section
variable {x:List Rl}{roots:List Rq}
theorem Sh.ok{s:SS}:∀{t:List Cd} {sl:List (List Sk)} {b:List Cd},D6 x b→IZ roots b→Sh x roots s b t sl→D6 x (b++t)∧IZ roots (b++t)∧HT (DH roots (b++t)) (Ap (b++t))=none
 | [],[],b,hd,hs,h=>by rw[CV];exact⟨hd,hs,h⟩
 | [],_::_,b,_,_,h=>h.elim
 |_::_,[],b,_,_,h=>h.elim
 |c::t,sk::sl,b,hd,hs,h=>by
  obtain⟨⟨p,needs,pre,post,k⟩,h⟩:=h;have hc:c∈Br x p:=by rw[k.cands];simp
  obtain⟨c1,c2⟩:=Hb hc;have hu:CR b c.rel.path=false:=by rw[c1];exact k.next.undone
  have:=Sh.ok (b:=b++[c]) (hd.snoc c2 hu) (hs.snoc k.next c1 k.fit k.noclash) h
  rw[BH]at this;exact this
end
end Go.Eng
