/- Lemmas for the claims of this seat, without a condition: part 4 (P18, P19, P20, P21). -/
import Derived.Test.YtddfphmpfnmknaaGreatDoorBA03
namespace Go.Eng
theorem nQ{α:Type}{l:List α}{i:Nat}(d:α)(h:i<l.length):l[i]?=some (l.getD i d):=by
 rw[BP,As h];rfl
end Go.Eng
