/- Lemmas for the claims of this seat, without a condition: part 30 (Q9). -/
import Derived.Test.YtmcbkdbfaneofaaGreatDoorFA29
namespace Go.Eng
def d9(x:List Rl)(roots:List Rq):An :=
 if(Em x roots).found=true then⟨true,FP (AM (Em x roots).dec),(Em x roots).ss.infs,(Em x roots).stack.flatten⟩
 else⟨false,[],(Em x roots).ss.infs.take ((Em x roots).res+1),[]⟩
section
variable {x:List Rl}{roots:List Rq}
theorem RK.ok{s:SS}:∀{t:List Cd} {sl:List (List Sk)} {b:List Cd},EA x b→In roots b→RK x roots s b t sl→EA x (b++t)∧In roots (b++t)∧KG (HJ roots (b++t)) (AM (b++t))=none
 | [],[],b,hd,hs,h=>by rw[B2];exact⟨hd,hs,h⟩
 | [],_::_,b,_,_,h=>h.elim
 |_::_,[],b,_,_,h=>h.elim
 |c::t,sk::sl,b,hd,hs,h=>by
  obtain⟨⟨p,needs,pre,post,k⟩,h⟩:=h;have hc:c∈Cq x p:=by rw[k.cands];simp
  obtain⟨c1,c2⟩:=JI hc;have hu:Dg b c.rel.path=false:=by rw[c1];exact k.next.undone
  have:=RK.ok (b:=b++[c]) (hd.snoc c2 hu) (hs.snoc k.next c1 k.fit k.noclash) h
  rw[AP]at this;exact this
end
end Go.Eng
