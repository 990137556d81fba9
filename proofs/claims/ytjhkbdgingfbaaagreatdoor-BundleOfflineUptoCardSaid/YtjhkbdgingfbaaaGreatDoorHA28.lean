/- Lemmas 28. -/
import Derived.Test.YtjhkbdgingfbaaaGreatDoorHA27
namespace Go.Eng
def gm(x:List Rl)(roots:List Rq):An:=
 if(E6 x roots).found=true then⟨true,DO (AG (E6 x roots).dec),(E6 x roots).ss.infs,(E6 x roots).stack.flatten⟩
 else⟨false,[],(E6 x roots).ss.infs.take ((E6 x roots).res+1),[]⟩
section
variable {x:List Rl}{roots:List Rq}
theorem Tp.ok{s:SS}:∀{t:List Cd} {sl:List (List Sk)} {b:List Cd},EG x b->It roots b->Tp x roots s b t sl->EG x (b++t)/\It roots (b++t)/\Lz (Hr roots (b++t)) (AG (b++t))=none
 | [],[],b,hd,hs,h=>by rw[BZ];exact⟨hd,hs,h⟩
 | [],_::_,b,_,_,h=>h.elim
 |_::_,[],b,_,_,h=>h.elim
 |c::t,sk::sl,b,hd,hs,h=>by
  obtain⟨⟨p,needs,pre,post,k⟩,h⟩:=h;have hc:c∈Bo x p:=by rw[k.cands];simp
  obtain⟨c1,c2⟩:=Hu hc;have hu:Da b c.rel.path=false:=by rw[c1];exact k.next.undone
  have:=Tp.ok (b:=b++[c]) (hd.snoc c2 hu) (hs.snoc k.next c1 k.fit k.noclash) h
  rw[Bm]at this;exact this
end
end Go.Eng
