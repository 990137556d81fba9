/- Lemmas for the claims of this seat, without a condition: part 30 (Q9). -/
import Derived.Test.YtmcbkdbfaneofaaGreatDoorCA29
namespace Go.Eng
def oL(x:List Rl)(roots:List Rq):An :=
 if(FA x roots).found=true then⟨true,FO (AK (FA x roots).dec),(FA x roots).ss.infs,(FA x roots).stack.flatten⟩
 else⟨false,[],(FA x roots).ss.infs.take ((FA x roots).res+1),[]⟩
section
variable {x:List Rl}{roots:List Rq}
theorem Rz.ok{s:SS}:∀{t:List Cd} {sl:List (List Sk)} {b:List Cd},Ey x b→IB roots b→Rz x roots s b t sl→Ey x (b++t)∧IB roots (b++t)∧Ks (HA roots (b++t)) (AK (b++t))=none
 | [],[],b,hd,hs,h=>by rw[BZ];exact⟨hd,hs,h⟩
 | [],_::_,b,_,_,h=>h.elim
 |_::_,[],b,_,_,h=>h.elim
 |c::t,sk::sl,b,hd,hs,h=>by
  obtain⟨⟨p,needs,pre,post,k⟩,h⟩:=h;have hc:c∈Co x p:=by rw[k.cands];simp
  obtain⟨c1,c2⟩:=Jy hc;have hu:De b c.rel.path=false:=by rw[c1];exact k.next.undone
  have:=Rz.ok (b:=b++[c]) (hd.snoc c2 hu) (hs.snoc k.next c1 k.fit k.noclash) h
  rw[AO]at this;exact this
end
end Go.Eng
