/- Lemmas 28. -/
import Derived.Test.YteaiieomnhbmgaaGreatDoorEA27
namespace Go.Eng
def kX(x:List Rl)(roots:List Rq):An:=
 if(EH x roots).found=true then⟨true,D5 (AU (EH x roots).dec),(EH x roots).ss.infs,(EH x roots).stack.flatten⟩
 else⟨false,[],(EH x roots).ss.infs.take ((EH x roots).res+1),[]⟩
section
variable {x:List Rl}{roots:List Rq}
theorem T3.ok{s:SS}:∀{t:List Cd} {sl:List (List Sk)} {b:List Cd},EY x b->Jc roots b->T3 x roots s b t sl->EY x (b++t)/\Jc roots (b++t)/\LJ (IC roots (b++t)) (AU (b++t))=none
 | [],[],b,hd,hs,h=>by rw[BM];exact⟨hd,hs,h⟩
 | [],_::_,b,_,_,h=>h.elim
 |_::_,[],b,_,_,h=>h.elim
 |c::t,sk::sl,b,hd,hs,h=>by
  obtain⟨⟨p,needs,pre,post,k⟩,h⟩:=h;have hc:c∈CE x p:=by rw[k.cands];simp
  obtain⟨c1,c2⟩:=KK hc;have hu:DQ b c.rel.path=false:=by rw[c1];exact k.next.undone
  have:=T3.ok (b:=b++[c]) (hd.snoc c2 hu) (hs.snoc k.next c1 k.fit k.noclash) h
  rw[BB]at this;exact this
end
end Go.Eng
