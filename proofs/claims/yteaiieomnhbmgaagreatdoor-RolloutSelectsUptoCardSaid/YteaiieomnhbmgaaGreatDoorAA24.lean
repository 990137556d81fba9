/- Lemmas 24. -/
import Derived.Test.YteaiieomnhbmgaaGreatDoorAA23
namespace Go.Eng
def lL(x:List Rl)(roots:List Rq):An:=
 if(EW x roots).found=true then⟨true,Dx (AP (EW x roots).dec),(EW x roots).ss.infs,(EW x roots).stack.flatten⟩
 else⟨false,[],(EW x roots).ss.infs.take ((EW x roots).res+1),[]⟩
section
variable {x:List Rl}{roots:List Rq}
theorem Tc.ok{s:SS}:∀{t:List Cd} {sl:List (List Sk)} {b:List Cd},DH x b->ID roots b->Tc x roots s b t sl->DH x (b++t)/\ID roots (b++t)/\L1 (Kn roots (b++t)) (AP (b++t))=none
 | [],[],b,hd,hs,h=>by rw[Bg];exact⟨hd,hs,h⟩
 | [],_::_,b,_,_,h=>h.elim
 |_::_,[],b,_,_,h=>h.elim
 |c::t,sk::sl,b,hd,hs,h=>by
  obtain⟨⟨p,needs,pre,post,k⟩,h⟩:=h;have hc:c∈Cp x p:=by rw[k.cands];simp
  obtain⟨c1,c2⟩:=Ka hc;have hu:DT b c.rel.path=false:=by rw[c1];exact k.next.undone
  have:=Tc.ok (b:=b++[c]) (hd.snoc c2 hu) (hs.snoc k.next c1 k.fit k.noclash) h
  rw[BT]at this;exact this
end
end Go.Eng
