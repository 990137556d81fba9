/- Lemmas 28. -/
import Derived.Test.YteaiieomnhbmgaaGreatDoorFA27
namespace Go.Eng
def Tu(x:List Rl)(roots:List Rq):An:=
 if(DM x roots).found=true then⟨true,DZ (AS (DM x roots).dec),(DM x roots).ss.infs,(DM x roots).stack.flatten⟩
 else⟨false,[],(DM x roots).ss.infs.take ((DM x roots).res+1),[]⟩
section
variable {x:List Rl}{roots:List Rq}
theorem Ua.ok{s:SS}:∀{t:List Cd} {sl:List (List Sk)} {b:List Cd},EI x b->Iy roots b->Ua x roots s b t sl->EI x (b++t)/\Iy roots (b++t)/\L0 (IS roots (b++t)) (AS (b++t))=none
 | [],[],b,hd,hs,h=>by rw[BQ];exact⟨hd,hs,h⟩
 | [],_::_,b,_,_,h=>h.elim
 |_::_,[],b,_,_,h=>h.elim
 |c::t,sk::sl,b,hd,hs,h=>by
  obtain⟨⟨p,needs,pre,post,k⟩,h⟩:=h;have hc:c∈B7 x p:=by rw[k.cands];simp
  obtain⟨c1,c2⟩:=J7 hc;have hu:Dt b c.rel.path=false:=by rw[c1];exact k.next.undone
  have:=Ua.ok (b:=b++[c]) (hd.snoc c2 hu) (hs.snoc k.next c1 k.fit k.noclash) h
  rw[BD]at this;exact this
end
end Go.Eng
