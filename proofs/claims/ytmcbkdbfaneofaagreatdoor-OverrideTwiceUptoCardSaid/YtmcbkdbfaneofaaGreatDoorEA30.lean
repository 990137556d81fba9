/- Lemmas for the claims of this seat, without a condition: part 30 (Q9). -/
import Derived.Test.YtmcbkdbfaneofaaGreatDoorEA29
namespace Go.Eng
def pp(x:List Rl)(roots:List Rq):An :=
 if(FG x roots).found=true then⟨true,FU (AK (FG x roots).dec),(FG x roots).ss.infs,(FG x roots).stack.flatten⟩
 else⟨false,[],(FG x roots).ss.infs.take ((FG x roots).res+1),[]⟩
section
variable {x:List Rl}{roots:List Rq}
theorem RJ.ok{s:SS}:∀{t:List Cd} {sl:List (List Sk)} {b:List Cd},EC x b→II roots b→RJ x roots s b t sl→EC x (b++t)∧II roots (b++t)∧KC (HH roots (b++t)) (AK (b++t))=none
 | [],[],b,hd,hs,h=>by rw[B1];exact⟨hd,hs,h⟩
 | [],_::_,b,_,_,h=>h.elim
 |_::_,[],b,_,_,h=>h.elim
 |c::t,sk::sl,b,hd,hs,h=>by
  obtain⟨⟨p,needs,pre,post,k⟩,h⟩:=h;have hc:c∈Cq x p:=by rw[k.cands];simp
  obtain⟨c1,c2⟩:=JF hc;have hu:De b c.rel.path=false:=by rw[c1];exact k.next.undone
  have:=RJ.ok (b:=b++[c]) (hd.snoc c2 hu) (hs.snoc k.next c1 k.fit k.noclash) h
  rw[AP]at this;exact this
end
end Go.Eng
