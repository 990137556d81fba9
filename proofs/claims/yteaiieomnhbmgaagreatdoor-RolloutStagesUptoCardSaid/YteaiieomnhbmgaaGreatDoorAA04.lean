/- Lemmas 4. -/
import Derived.Test.YteaiieomnhbmgaaGreatDoorAA03
import Derived.Lib.ItoaNum
import Derived.Lib.Join
namespace Go.Eng
abbrev mkB(l:List UInt8):ByteArray:=⟨l.toArray⟩
def mX(n:Int):ByteArray:=mkB (Go.Lib.itoa n)
-- versions
theorem wO{α:Type}{l:List α}{i:Nat}(d:α)(h:i<l.length):l[i]?=some (l.getD i d):=by
 rw[B9,Az h];rfl
end Go.Eng
