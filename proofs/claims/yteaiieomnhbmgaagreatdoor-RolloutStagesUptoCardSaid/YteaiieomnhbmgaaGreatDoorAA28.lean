/- Lemmas 28. -/
import Derived.Test.YteaiieomnhbmgaaGreatDoorAA27
namespace Go.Eng
def lc(x:List Rl)(roots:List Rq):An:=
 if(EM x roots).found=true then⟨true,Ec (AR (EM x roots).dec),(EM x roots).ss.infs,(EM x roots).stack.flatten⟩
 else⟨false,[],(EM x roots).ss.infs.take ((EM x roots).res+1),[]⟩
section
variable {x:List Rl}{roots:List Rq}
theorem T3.ok{s:SS}:∀{t:List Cd} {sl:List (List Sk)} {b:List Cd},E5 x b->Je roots b->T3 x roots s b t sl->E5 x (b++t)/\Je roots (b++t)/\LQ (IG roots (b++t)) (AR (b++t))=none
 | [],[],b,hd,hs,h=>by rw[BP];exact⟨hd,hs,h⟩
 | [],_::_,b,_,_,h=>h.elim
 |_::_,[],b,_,_,h=>h.elim
 |c::t,sk::sl,b,hd,hs,h=>by
  obtain⟨⟨p,needs,pre,post,k⟩,h⟩:=h;have hc:c∈CC x p:=by rw[k.cands];simp
  obtain⟨c1,c2⟩:=KQ hc;have hu:DU b c.rel.path=false:=by rw[c1];exact k.next.undone
  have:=T3.ok (b:=b++[c]) (hd.snoc c2 hu) (hs.snoc k.next c1 k.fit k.noclash) h
  rw[BA]at this;exact this
end
end Go.Eng
