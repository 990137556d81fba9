/- Lemmas for the claims of this seat, without a condition: part 4 (P17, P18, P19, P20, P21). -/
import Derived.Test.YteaiieomnhbmgaaGreatDoorA03
import Derived.Lib.ItoaNum
import Derived.Lib.Join
namespace Go.Eng
abbrev mkB(l:List UInt8):ByteArray:=⟨l.toArray⟩
def eJ(n:Int):ByteArray:=mkB (Go.Lib.itoa n)
-- versions
theorem vu{α:Type}{l:List α}{i:Nat}(d:α)(h:i<l.length):l[i]?=some (l.getD i d):=by
 rw[B5,Ay h];rfl
end Go.Eng
