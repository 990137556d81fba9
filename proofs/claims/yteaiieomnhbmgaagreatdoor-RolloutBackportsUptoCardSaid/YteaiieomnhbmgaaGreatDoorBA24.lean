/- Lemmas 24. -/
import Derived.Test.YteaiieomnhbmgaaGreatDoorBA23
namespace Go.Eng
def SD(x:List Rl)(roots:List Rq):An:=
 if(DZ x roots).found=true then⟨true,CP (Aw (DZ x roots).dec),(DZ x roots).ss.infs,(DZ x roots).stack.flatten⟩
 else⟨false,[],(DZ x roots).ss.infs.take ((DZ x roots).res+1),[]⟩
section
variable {x:List Rl}{roots:List Rq}
theorem Tt.ok{s:SS}:∀{t:List Cd} {sl:List (List Sk)} {b:List Cd},De x b->Ih roots b->Tt x roots s b t sl->De x (b++t)/\Ih roots (b++t)/\Ik (Fs roots (b++t)) (Aw (b++t))=none
 | [],[],b,hd,hs,h=>by rw[BG];exact⟨hd,hs,h⟩
 | [],_::_,b,_,_,h=>h.elim
 |_::_,[],b,_,_,h=>h.elim
 |c::t,sk::sl,b,hd,hs,h=>by
  obtain⟨⟨p,needs,pre,post,k⟩,h⟩:=h;have hc:c∈Bx x p:=by rw[k.cands];simp
  obtain⟨c1,c2⟩:=Iy hc;have hu:Dn b c.rel.path=false:=by rw[c1];exact k.next.undone
  have:=Tt.ok (b:=b++[c]) (hd.snoc c2 hu) (hs.snoc k.next c1 k.fit k.noclash) h
  rw[ER]at this;exact this
end
end Go.Eng
