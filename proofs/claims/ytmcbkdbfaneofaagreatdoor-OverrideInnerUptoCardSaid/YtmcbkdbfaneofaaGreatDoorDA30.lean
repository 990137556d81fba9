/- Lemmas for the claims of this seat, without a condition: part 30 (Q9). -/
import Derived.Test.YtmcbkdbfaneofaaGreatDoorDA29
namespace Go.Eng
def oY(x:List Rl)(roots:List Rq):An :=
 if(FH x roots).found=true then⟨true,FW (AK (FH x roots).dec),(FH x roots).ss.infs,(FH x roots).stack.flatten⟩
 else⟨false,[],(FH x roots).ss.infs.take ((FH x roots).res+1),[]⟩
section
variable {x:List Rl}{roots:List Rq}
theorem Rx.ok{s:SS}:∀{t:List Cd} {sl:List (List Sk)} {b:List Cd},ED x b→IG roots b→Rx x roots s b t sl→ED x (b++t)∧IG roots (b++t)∧Kz (HG roots (b++t)) (AK (b++t))=none
 | [],[],b,hd,hs,h=>by rw[B3];exact⟨hd,hs,h⟩
 | [],_::_,b,_,_,h=>h.elim
 |_::_,[],b,_,_,h=>h.elim
 |c::t,sk::sl,b,hd,hs,h=>by
  obtain⟨⟨p,needs,pre,post,k⟩,h⟩:=h;have hc:c∈Cp x p:=by rw[k.cands];simp
  obtain⟨c1,c2⟩:=JC hc;have hu:De b c.rel.path=false:=by rw[c1];exact k.next.undone
  have:=Rx.ok (b:=b++[c]) (hd.snoc c2 hu) (hs.snoc k.next c1 k.fit k.noclash) h
  rw[AO]at this;exact this
end
end Go.Eng
