/- Lemmas for the claims of this seat, without a condition: part 15 (Tab, EngZG, EngZH, EngZI, EngZJ, EngZK, EngZM, EngZN, EngZO). -/
import Derived.Test.YtkmnnpmneamgoaaGreatDoorA14
import Derived.Test.YtkmnnpmneamgoaaGreatDoorProg
import Derived.Sort.Grow
import Derived.Shelf.GgSortFunc.InsertionK
import Derived.Below
import Derived.RangeFuncLeaves
import Derived.RangeFuncNested
namespace Go.Eng
open Go.Proofs
abbrev xe:TI := iB
abbrev tF:TI := ⟨.func,1,8,.nilFunc,true⟩
abbrev tI:TI := ⟨.int .i64,1,8,.int .i64 0,true⟩
abbrev tP(n:Nat):TI := ⟨.ptr n,1,8,.pointer none,true⟩
abbrev tS(n:Nat):TI := ⟨.slice n,1,24,.slice none 0 0,true⟩
def gz{α:Type}(d:α):List α → Nat → α
 | [],_ => d
 |a::r,n => match n with |0 => a |n + 1 => gz d r n
def wA:List TI := [⟨.other,1,0,(.tuple #[]),true⟩,tF,tI,tI,⟨.bool,1,1,(.bool .false),true⟩,⟨.int .u8,1,1,(.int .u8 0),true⟩,⟨.int .u8,1,1,(.int .u8 0),true⟩,⟨.struct [(2,0),(3,1),(4,2),(6,3)],4,24,(.agg #[.int .i64 0,.int .i64 0,.bool .false,.int .u8 0]),true⟩,⟨.struct [(2,0),(3,1),(4,2),(6,3)],4,24,(.agg #[.int .i64 0,.int .i64 0,.bool .false,.int .u8 0]),true⟩,⟨.string,1,16,(.string ⟨#[]⟩),true⟩,⟨.string,1,16,(.string ⟨#[]⟩),true⟩,⟨.string,1,16,(.string ⟨#[]⟩),true⟩,⟨.int .u64,1,8,(.int .u64 0),true⟩,⟨.struct [(9,0),(12,1)],2,24,(.agg #[.string ⟨#[]⟩,.int .u64 0]),false⟩,⟨.struct [(9,0),(12,1)],2,24,(.agg #[.string ⟨#[]⟩,.int .u64 0]),false⟩,tP 331]
def wB:List TI := [tP 334,tP 343,⟨.struct [(17,0)],1,8,(.agg #[.pointer none]),false⟩,⟨.struct [(17,0)],1,8,(.agg #[.pointer none]),false⟩,⟨.iface,1,16,.nilIface,true⟩,⟨.int .i32,1,4,(.int .i32 0),true⟩,tS 67,tS 349,⟨.struct [(22,0),(23,1)],2,48,(.agg #[.slice none 0 0,.slice none 0 0]),true⟩,⟨.struct [(22,0),(23,1)],2,48,(.agg #[.slice none 0 0,.slice none 0 0]),true⟩,tS 45,tF,tF,tS 39,tI,⟨.other,1,0,(.tuple #[.slice none 0 0,.int .i64 0]),true⟩]
def wC:List TI := [tF,tF,tF,tS 3,⟨.other,1,0,(.tuple #[.slice none 0 0,.int .i64 0]),true⟩,tF,tF,tS 51,⟨.other,1,0,(.tuple #[.slice none 0 0,.int .i64 0]),true⟩,tF,tS 65,tS 65,⟨.struct [(9,0),(43,1)],2,40,(.agg #[.string ⟨#[]⟩,.slice none 0 0]),true⟩,⟨.struct [(9,0),(43,1)],2,40,(.agg #[.string ⟨#[]⟩,.slice none 0 0]),true⟩,tF,tF]
def wD:List TI := [⟨.struct [(3,0),(3,1),(3,2)],3,24,(.agg #[.int .i64 0,.int .i64 0,.int .i64 0]),true⟩,⟨.struct [(3,0),(3,1),(3,2)],3,24,(.agg #[.int .i64 0,.int .i64 0,.int .i64 0]),true⟩,⟨.struct [(9,0),(49,1)],4,40,(.agg #[.string ⟨#[]⟩,.int .i64 0,.int .i64 0,.int .i64 0]),true⟩,⟨.struct [(9,0),(49,1)],4,40,(.agg #[.string ⟨#[]⟩,.int .i64 0,.int .i64 0,.int .i64 0]),true⟩,tS 9,⟨.other,1,0,(.tuple #[.slice none 0 0,.int .i64 0]),true⟩,tF,tF,tS 136,tS 151,⟨.struct [(4,0),(39,1),(56,2),(57,3)],4,80,(.agg #[.bool .false,.slice none 0 0,.slice none 0 0,.slice none 0 0]),true⟩,⟨.struct [(4,0),(39,1),(56,2),(57,3)],4,80,(.agg #[.bool .false,.slice none 0 0,.slice none 0 0,.slice none 0 0]),true⟩,⟨.other,1,0,(.tuple #[.agg #[.bool .false,.slice none 0 0,.slice none 0 0,.slice none 0 0],.int .i64 0]),true⟩,tF,tF,tF]
def wE:List TI := [⟨.struct [(3,0),(3,1)],2,16,(.agg #[.int .i64 0,.int .i64 0]),true⟩,⟨.struct [(3,0),(3,1)],2,16,(.agg #[.int .i64 0,.int .i64 0]),true⟩,⟨.struct [(9,0),(49,1),(26,4),(9,5),(9,6),(9,7),(4,8)],9,120,(.agg #[.string ⟨#[]⟩,.int .i64 0,.int .i64 0,.int .i64 0,.slice none 0 0,.string ⟨#[]⟩,.string ⟨#[]⟩,.string ⟨#[]⟩,.bool .false]),true⟩,⟨.struct [(9,0),(49,1),(26,4),(9,5),(9,6),(9,7),(4,8)],9,120,(.agg #[.string ⟨#[]⟩,.int .i64 0,.int .i64 0,.int .i64 0,.slice none 0 0,.string ⟨#[]⟩,.string ⟨#[]⟩,.string ⟨#[]⟩,.bool .false]),true⟩,tF,tF,tF,tF,tF,tP 99,tF,tF,tF,tF,tF,tF]
def wF:List TI := [tF,tS 26,tP 134,⟨.other,1,0,(.tuple #[.pointer none,.int .i64 0]),true⟩,tF,tF,tF,tF,⟨.other,1,0,(.tuple #[.int .i64 0,.int .i64 0]),true⟩,tF,⟨.other,1,0,(.tuple #[.int .i64 0,.bool .false]),true⟩,tF,⟨.map 9 96,1,8,(.map none),true⟩,⟨.map 9 43,1,8,(.map none),true⟩,tS 149,⟨.map 136 3,1,8,(.map none),true⟩]
def wG:List TI := [tS 115,tS 57,⟨.struct [(26,0),(92,1),(93,2),(56,3),(94,4),(95,5),(4,6),(96,7),(39,8),(97,9)],10,176,(.agg #[.slice none 0 0,.map none,.map none,.slice none 0 0,.slice none 0 0,.map none,.bool .false,.slice none 0 0,.slice none 0 0,.slice none 0 0]),true⟩,⟨.struct [(26,0),(92,1),(93,2),(56,3),(94,4),(95,5),(4,6),(96,7),(39,8),(97,9)],10,176,(.agg #[.slice none 0 0,.map none,.map none,.slice none 0 0,.slice none 0 0,.map none,.bool .false,.slice none 0 0,.slice none 0 0,.slice none 0 0]),true⟩,tF,tF,tF,tF,tF,⟨.other,1,0,(.tuple #[.slice none 0 0,.bool .false]),true⟩,tF,⟨.other,1,0,(.tuple #[.slice none 0 0,.int .i64 0]),true⟩,tF,tF,tF,tF]
def wH:List TI := [tF,tF,⟨.struct [(3,0),(67,1)],10,128,(.agg #[.int .i64 0,.string ⟨#[]⟩,.int .i64 0,.int .i64 0,.int .i64 0,.slice none 0 0,.string ⟨#[]⟩,.string ⟨#[]⟩,.string ⟨#[]⟩,.bool .false]),true⟩,⟨.struct [(3,0),(67,1)],10,128,(.agg #[.int .i64 0,.string ⟨#[]⟩,.int .i64 0,.int .i64 0,.int .i64 0,.slice none 0 0,.string ⟨#[]⟩,.string ⟨#[]⟩,.string ⟨#[]⟩,.bool .false]),true⟩,tF,tS 122,⟨.other,1,0,(.tuple #[.string ⟨#[]⟩,.slice none 0 0]),true⟩,tF,tF,⟨.struct [(45,0),(9,2),(3,3),(3,4)],5,72,(.agg #[.string ⟨#[]⟩,.slice none 0 0,.string ⟨#[]⟩,.int .i64 0,.int .i64 0]),true⟩,⟨.struct [(45,0),(9,2),(3,3),(3,4)],5,72,(.agg #[.string ⟨#[]⟩,.slice none 0 0,.string ⟨#[]⟩,.int .i64 0,.int .i64 0]),true⟩,tF,tF,⟨.other,1,0,(.tuple #[.agg #[.string ⟨#[]⟩,.slice none 0 0,.string ⟨#[]⟩,.int .i64 0,.int .i64 0],.bool .false]),true⟩,tF,tF]
def wI:List TI := [⟨.other,1,0,(.tuple #[.string ⟨#[]⟩,.bool .false]),true⟩,tF,tF,tF,tF,⟨.struct [(25,0),(26,2),(94,3)],4,96,(.agg #[.slice none 0 0,.slice none 0 0,.slice none 0 0,.slice none 0 0]),true⟩,⟨.struct [(25,0),(26,2),(94,3)],4,96,(.agg #[.slice none 0 0,.slice none 0 0,.slice none 0 0,.slice none 0 0]),true⟩,⟨.struct [(3,0),(9,1),(3,2),(3,3),(3,4),(3,5)],6,56,(.agg #[.int .i64 0,.string ⟨#[]⟩,.int .i64 0,.int .i64 0,.int .i64 0,.int .i64 0]),true⟩,⟨.struct [(3,0),(9,1),(3,2),(3,3),(3,4),(3,5)],6,56,(.agg #[.int .i64 0,.string ⟨#[]⟩,.int .i64 0,.int .i64 0,.int .i64 0,.int .i64 0]),true⟩,tF,tF,tF,tF,⟨.other,1,0,(.tuple #[.agg #[.string ⟨#[]⟩,.int .i64 0,.int .i64 0,.int .i64 0,.slice none 0 0,.string ⟨#[]⟩,.string ⟨#[]⟩,.string ⟨#[]⟩,.bool .false],.bool .false]),true⟩,tF,tF]
def wJ:List TI := [tF,tF,tF,tF,tS 208,tS 208,⟨.struct [(9,0),(3,1),(3,2)],3,32,(.agg #[.string ⟨#[]⟩,.int .i64 0,.int .i64 0]),true⟩,⟨.struct [(9,0),(3,1),(3,2)],3,32,(.agg #[.string ⟨#[]⟩,.int .i64 0,.int .i64 0]),true⟩,tF,tF,tF,⟨.int .u64,1,8,(.int .u64 0),true⟩,⟨.map 51 67,1,8,(.map none),true⟩,⟨.map 9 22,1,8,(.map none),true⟩,⟨.struct [(156,0),(157,1)],2,16,(.agg #[.map none,.map none]),true⟩,⟨.struct [(156,0),(157,1)],2,16,(.agg #[.map none,.map none]),true⟩]
def rn:List TI := [⟨.other,1,0,(.tuple #[.agg #[.map none,.map none],.int .i64 0]),true⟩,tF,⟨.other,1,0,(.tuple #[.slice none 0 0,.int .i64 0]),true⟩,tF,⟨.map 9 67,1,8,(.map none),true⟩,tF,tF,tF,⟨.map 9 4,1,8,(.map none),true⟩,tF,⟨.other,1,0,(.tuple #[.slice none 0 0,.bool .false]),true⟩,tF,tF,tF,tF,tF]
def rp:List TI := [tF,tF,tF,tF,tP 45,tF,tF,tF,tF,tF,tF,tF,tF,tF,tF,tF]
def rr:List TI := [⟨.other,1,0,(.tuple #[.agg #[.string ⟨#[]⟩,.int .i64 0,.int .i64 0,.int .i64 0],.bool .false]),true⟩,tF,tF,tF,⟨.struct [(194,0),(195,1)],2,16,(.agg #[.nilFunc,.nilFunc]),true⟩,⟨.struct [(194,0),(195,1)],2,16,(.agg #[.nilFunc,.nilFunc]),true⟩,⟨.array 4 197,8,64,(.agg #[.nilFunc,.nilFunc,.nilFunc,.nilFunc,.nilFunc,.nilFunc,.nilFunc,.nilFunc]),true⟩,tF,tF,⟨.array 3 3,3,24,(.agg #[.int .i64 0,.int .i64 0,.int .i64 0]),true⟩,tF,tF,tF,tF,tF,⟨.struct [(9,0),(4,1),(43,2)],3,48,(.agg #[.string ⟨#[]⟩,.bool .false,.slice none 0 0]),true⟩]
def rt:List TI := [⟨.struct [(9,0),(4,1),(43,2)],3,48,(.agg #[.string ⟨#[]⟩,.bool .false,.slice none 0 0]),true⟩,tF,tF,⟨.other,1,0,(.tuple #[.slice none 0 0,.int .i64 0]),true⟩,tF,tF,tI,⟨.other,1,0,(.tuple #[.int .i64 0,.int .i64 0]),true⟩,tF,tF,tF,tF,tF,⟨.int .u32,1,4,(.int .u32 0),true⟩,tF,⟨.int .u64,1,8,(.int .u64 0),true⟩]
def ru:List TI := [tF,tF,tS 4,tF,tF,⟨.other,1,0,(.tuple #[.string ⟨#[]⟩,.int .i64 0,.int .i64 0]),true⟩,tF,tF,tF,tF,tF,tF,tF,tF,tF,tF]
def rv:List TI := [tF,tF,⟨.other,1,0,(.tuple #[.agg #[.string ⟨#[]⟩,.bool .false,.slice none 0 0],.slice none 0 0,.bool .false]),true⟩,tF,tF,tF,⟨.int .u64,1,8,(.int .u64 0),true⟩,tF,tF,tF,tP 3,tF,tF,tF,tF,tF]
def rx:List TI := [⟨.other,1,0,(.tuple #[.agg #[.string ⟨#[]⟩,.bool .false,.slice none 0 0],.bool .false]),true⟩,tF,tF,tS 43,tF,tF,tF,tF,tF,tF,tF,tF,tF,⟨.map 9 208,1,8,(.map none),true⟩,tF,tF]
def ry:List TI := [tF,tF,tP 246,⟨.other,1,0,(.tuple #[.int .i64 0,.int .i64 0]),true⟩,tF,tF,tF,tF,tF,tF,tF,tF,tF,tF,tF,tF]
def rz:List TI := [⟨.map 3 3,1,8,(.map none),true⟩,tF,tF,tF,tF,tF,⟨.other,1,0,(.tuple #[.int .u32 0,.int .u32 0]),true⟩,tF,tF,tF,tS 5,tF,tF,tF,tF,tF]
def rA:List TI := [tF,tF,tF,tF,tF,tF,tF,tF,tF,tF,tF,tF,tF,tF,⟨.other,1,0,(.tuple #[.int .i32 0,.int .i64 0]),true⟩,tF]
def rC:List TI := [tF,tF,tF,tF,tF,⟨.array 256 5,256,256,(.agg (([.int .u8 0,.int .u8 0,.int .u8 0,.int .u8 0,.int .u8 0,.int .u8 0,.int .u8 0,.int .u8 0,.int .u8 0,.int .u8 0,.int .u8 0,.int .u8 0,.int .u8 0,.int .u8 0,.int .u8 0,.int .u8 0,.int .u8 0,.int .u8 0,.int .u8 0,.int .u8 0,.int .u8 0,.int .u8 0,.int .u8 0,.int .u8 0,.int .u8 0,.int .u8 0,.int .u8 0,.int .u8 0,.int .u8 0,.int .u8 0,.int .u8 0,.int .u8 0,.int .u8 0,.int .u8 0,.int .u8 0,.int .u8 0,.int .u8 0,.int .u8 0,.int .u8 0,.int .u8 0,.int .u8 0,.int .u8 0,.int .u8 0,.int .u8 0,.int .u8 0,.int .u8 0,.int .u8 0,.int .u8 0,.int .u8 0,.int .u8 0,.int .u8 0,.int .u8 0,.int .u8 0,.int .u8 0,.int .u8 0,.int .u8 0,.int .u8 0,.int .u8 0,.int .u8 0,.int .u8 0,.int .u8 0,.int .u8 0,.int .u8 0,.int .u8 0].append [.int .u8 0,.int .u8 0,.int .u8 0,.int .u8 0,.int .u8 0,.int .u8 0,.int .u8 0,.int .u8 0,.int .u8 0,.int .u8 0,.int .u8 0,.int .u8 0,.int .u8 0,.int .u8 0,.int .u8 0,.int .u8 0,.int .u8 0,.int .u8 0,.int .u8 0,.int .u8 0,.int .u8 0,.int .u8 0,.int .u8 0,.int .u8 0,.int .u8 0,.int .u8 0,.int .u8 0,.int .u8 0,.int .u8 0,.int .u8 0,.int .u8 0,.int .u8 0,.int .u8 0,.int .u8 0,.int .u8 0,.int .u8 0,.int .u8 0,.int .u8 0,.int .u8 0,.int .u8 0,.int .u8 0,.int .u8 0,.int .u8 0,.int .u8 0,.int .u8 0,.int .u8 0,.int .u8 0,.int .u8 0,.int .u8 0,.int .u8 0,.int .u8 0,.int .u8 0,.int .u8 0,.int .u8 0,.int .u8 0,.int .u8 0,.int .u8 0,.int .u8 0,.int .u8 0,.int .u8 0,.int .u8 0,.int .u8 0,.int .u8 0,.int .u8 0]).append ([.int .u8 0,.int .u8 0,.int .u8 0,.int .u8 0,.int .u8 0,.int .u8 0,.int .u8 0,.int .u8 0,.int .u8 0,.int .u8 0,.int .u8 0,.int .u8 0,.int .u8 0,.int .u8 0,.int .u8 0,.int .u8 0,.int .u8 0,.int .u8 0,.int .u8 0,.int .u8 0,.int .u8 0,.int .u8 0,.int .u8 0,.int .u8 0,.int .u8 0,.int .u8 0,.int .u8 0,.int .u8 0,.int .u8 0,.int .u8 0,.int .u8 0,.int .u8 0,.int .u8 0,.int .u8 0,.int .u8 0,.int .u8 0,.int .u8 0,.int .u8 0,.int .u8 0,.int .u8 0,.int .u8 0,.int .u8 0,.int .u8 0,.int .u8 0,.int .u8 0,.int .u8 0,.int .u8 0,.int .u8 0,.int .u8 0,.int .u8 0,.int .u8 0,.int .u8 0,.int .u8 0,.int .u8 0,.int .u8 0,.int .u8 0,.int .u8 0,.int .u8 0,.int .u8 0,.int .u8 0,.int .u8 0,.int .u8 0,.int .u8 0,.int .u8 0].append [.int .u8 0,.int .u8 0,.int .u8 0,.int .u8 0,.int .u8 0,.int .u8 0,.int .u8 0,.int .u8 0,.int .u8 0,.int .u8 0,.int .u8 0,.int .u8 0,.int .u8 0,.int .u8 0,.int .u8 0,.int .u8 0,.int .u8 0,.int .u8 0,.int .u8 0,.int .u8 0,.int .u8 0,.int .u8 0,.int .u8 0,.int .u8 0,.int .u8 0,.int .u8 0,.int .u8 0,.int .u8 0,.int .u8 0,.int .u8 0,.int .u8 0,.int .u8 0,.int .u8 0,.int .u8 0,.int .u8 0,.int .u8 0,.int .u8 0,.int .u8 0,.int .u8 0,.int .u8 0,.int .u8 0,.int .u8 0,.int .u8 0,.int .u8 0,.int .u8 0,.int .u8 0,.int .u8 0,.int .u8 0,.int .u8 0,.int .u8 0,.int .u8 0,.int .u8 0,.int .u8 0,.int .u8 0,.int .u8 0,.int .u8 0,.int .u8 0,.int .u8 0,.int .u8 0,.int .u8 0,.int .u8 0,.int .u8 0,.int .u8 0,.int .u8 0])).toArray),true⟩,⟨.struct [(5,0),(5,1)],2,2,(.agg #[.int .u8 0,.int .u8 0]),true⟩,⟨.struct [(5,0),(5,1)],2,2,(.agg #[.int .u8 0,.int .u8 0]),true⟩,⟨.array 16 327,32,32,(.agg (Array.replicate 32 (.int .u8 0))),true⟩,tF,⟨.struct [(17,0),(17,1),(17,2),(9,3)],4,40,(.agg #[.pointer none,.pointer none,.pointer none,.string ⟨#[]⟩]),false⟩,⟨.struct [(17,0),(17,1),(17,2),(9,3)],4,40,(.agg #[.pointer none,.pointer none,.pointer none,.string ⟨#[]⟩]),false⟩,⟨.array 0 16,0,0,(.agg #[]),true⟩,⟨.other,0,0,(.agg #[]),false⟩,⟨.other,0,0,(.agg #[]),false⟩,tF]
def rD:List TI := [⟨.int .u8,1,1,(.int .u8 0),true⟩,⟨.int .u8,1,1,(.int .u8 0),true⟩,tF,tP 5,⟨.int .i32,1,4,(.int .i32 0),true⟩,⟨.int .i32,1,4,(.int .i32 0),true⟩,⟨.struct [(12,0),(12,1),(221,2),(336,3),(5,4),(5,5),(337,6),(338,7),(339,8),(340,9),(341,10)],11,48,(.agg #[.int .u64 0,.int .u64 0,.int .u32 0,.int .u8 0,.int .u8 0,.int .u8 0,.int .u8 0,.nilFunc,.pointer none,.int .i32 0,.int .i32 0]),false⟩,⟨.struct [(12,0),(12,1),(221,2),(336,3),(5,4),(5,5),(337,6),(338,7),(339,8),(340,9),(341,10)],11,48,(.agg #[.int .u64 0,.int .u64 0,.int .u32 0,.int .u8 0,.int .u8 0,.int .u8 0,.int .u8 0,.nilFunc,.pointer none,.int .i32 0,.int .i32 0]),false⟩,tS 357,tS 359,tS 361,tS 363,⟨.struct [(9,0),(344,1),(345,2),(346,3),(347,4)],5,112,(.agg #[.string ⟨#[]⟩,.slice none 0 0,.slice none 0 0,.slice none 0 0,.slice none 0 0]),true⟩,⟨.struct [(9,0),(344,1),(345,2),(346,3),(347,4)],5,112,(.agg #[.string ⟨#[]⟩,.slice none 0 0,.slice none 0 0,.slice none 0 0,.slice none 0 0]),true⟩,⟨.other,1,8,(.pointer none),true⟩,tS 365]
def rE:List TI := [tS 355,tS 367,⟨.struct [(3,0),(9,1),(9,2),(352,3),(353,4)],5,88,(.agg #[.int .i64 0,.string ⟨#[]⟩,.string ⟨#[]⟩,.slice none 0 0,.slice none 0 0]),true⟩,⟨.struct [(3,0),(9,1),(9,2),(352,3),(353,4)],5,88,(.agg #[.int .i64 0,.string ⟨#[]⟩,.string ⟨#[]⟩,.slice none 0 0,.slice none 0 0]),true⟩,⟨.struct [(9,0),(351,1),(355,2),(355,7)],12,216,(.agg #[.string ⟨#[]⟩,.slice none 0 0,.int .i64 0,.string ⟨#[]⟩,.string ⟨#[]⟩,.slice none 0 0,.slice none 0 0,.int .i64 0,.string ⟨#[]⟩,.string ⟨#[]⟩,.slice none 0 0,.slice none 0 0]),true⟩,⟨.struct [(9,0),(351,1),(355,2),(355,7)],12,216,(.agg #[.string ⟨#[]⟩,.slice none 0 0,.int .i64 0,.string ⟨#[]⟩,.string ⟨#[]⟩,.slice none 0 0,.slice none 0 0,.int .i64 0,.string ⟨#[]⟩,.string ⟨#[]⟩,.slice none 0 0,.slice none 0 0]),true⟩,⟨.struct [(9,0),(351,1),(355,2)],7,128,(.agg #[.string ⟨#[]⟩,.slice none 0 0,.int .i64 0,.string ⟨#[]⟩,.string ⟨#[]⟩,.slice none 0 0,.slice none 0 0]),true⟩,⟨.struct [(9,0),(351,1),(355,2)],7,128,(.agg #[.string ⟨#[]⟩,.slice none 0 0,.int .i64 0,.string ⟨#[]⟩,.string ⟨#[]⟩,.slice none 0 0,.slice none 0 0]),true⟩,⟨.struct [(9,0),(9,1),(9,2)],3,48,(.agg #[.string ⟨#[]⟩,.string ⟨#[]⟩,.string ⟨#[]⟩]),true⟩,⟨.struct [(9,0),(9,1),(9,2)],3,48,(.agg #[.string ⟨#[]⟩,.string ⟨#[]⟩,.string ⟨#[]⟩]),true⟩,⟨.struct [(9,0),(9,1)],2,32,(.agg #[.string ⟨#[]⟩,.string ⟨#[]⟩]),true⟩,⟨.struct [(9,0),(9,1)],2,32,(.agg #[.string ⟨#[]⟩,.string ⟨#[]⟩]),true⟩,⟨.struct [(9,0),(3,1),(355,2)],7,112,(.agg #[.string ⟨#[]⟩,.int .i64 0,.int .i64 0,.string ⟨#[]⟩,.string ⟨#[]⟩,.slice none 0 0,.slice none 0 0]),true⟩,⟨.struct [(9,0),(3,1),(355,2)],7,112,(.agg #[.string ⟨#[]⟩,.int .i64 0,.int .i64 0,.string ⟨#[]⟩,.string ⟨#[]⟩,.slice none 0 0,.slice none 0 0]),true⟩,⟨.struct [(9,0),(355,1),(4,6)],7,112,(.agg #[.string ⟨#[]⟩,.int .i64 0,.string ⟨#[]⟩,.string ⟨#[]⟩,.slice none 0 0,.slice none 0 0,.bool .false]),true⟩,⟨.struct [(9,0),(355,1),(4,6)],7,112,(.agg #[.string ⟨#[]⟩,.int .i64 0,.string ⟨#[]⟩,.string ⟨#[]⟩,.slice none 0 0,.slice none 0 0,.bool .false]),true⟩]
def yz:List (List TI) := [wA,wB,wC,wD,wE,wF,wG,wH,wI,wJ,rn,rp,rr,rt,ru,rv,rx,ry,rz,rA,rC,rD,rE]
def i7:GK := fun t => gz xe (gz [] yz (t / 16)) (t % 16)
theorem iA:(List.range 368).map i7 = (List.range 368).map (dg Tryz.prog) := by kernel_rfl
theorem am{α:Type}(d:α):∀(l:List α) (n:Nat),l.length ≤ n → gz d l n = d
 | [],_,_ => rfl
 |_::_,0,h => by simp at h
 |_::r,n + 1,h => am d r n (by simpa using h)
theorem BS:Cn Tryz.prog i7 := by
 intro t
 by_cases h:t<368
 ·have := Ae (fun l => l[t]?) iA
  rw[AH,AH,List.getElem?_range h,Gl,Gl]at this
  exact .inr (CC this)
 ·have h1:gz ([]:List TI) yz (t / 16) = [] := am _ _ _ (by show 23 ≤ t / 16;omega)
  have h2:i7 t = xe := by unfold i7;rw[h1];rfl
  exact .inl h2
end Go.Eng

namespace Go.Eng

section
variable {P:Program}
theorem bv {f : Nat} {fn : Func} {c : Code} (hf : P.funcs[f]? = some fn) (hn : (fn.name == "runtime.NumGoroutine") = false) (hb : fn.body = some c) : Gb P f := ⟨fn, hf, hn, by simp [hb]⟩
theorem Lb{f:Nat}{args:List AV}{res:AV}(vals:List Value)(v:Value)(hE:Gb P f)(ha:args=vals.map .v)(bQ:∀g w,BF g w E8 res v)
  (h:∀w,(∃m,w.cell? ⟨gB,0,none⟩=some (.int .i64 m))→Calls P f vals.toArray w fun e w'=>e=.returned v∧w'=w):Ln P f args res:=by
 refine⟨hE,fun g w us hs hv hI=>?_⟩;have hu:us=vals.toArray:=by
  subst ha;rw[Bp]at hs;refine RA (by simpa using hs) fun i h1 h2=>?_
  have:=hv i (.v (vals[i]'(by simpa using h2))) us[i] (by rw[AH,Ay (by simpa using h2)];rfl) (by rw[Ba h1])
  rw[this.v_eq];simp
 subst hu;refine(h w hI.glob.1.2).mono ?_
 rintro e w' ⟨rfl,rfl⟩
 exact⟨v,res,Aa,g,rfl,⟨rfl,rfl⟩,(bQ g _).up _,hI,.refl _ _ _⟩
theorem hJ{g:Gh}{w:World}:∀(vs:List Value),BF g w E8 (.tup (vs.map .v)) (.tuple vs.toArray):=fun vs =>
 .tup _ _ _ (by simp) fun i av x h1 h2=>by
  rw[AH,AW]at h1;obtain⟨a,e1,rfl⟩:=h1
  have:vs[i]?=some x:=by simpa using h2
  rw[e1]at this;cases this;exact .v _ _
theorem cM{f:Nat}{args:List AV}(vals:List Value)(es:List Value)(T:TypeId)(hE:Gb P f)(ha:args=vals.map .v)(h1:∀x∈es,x.oneCell'=true)
  (h:∀w,(∃m,w.cell? ⟨gB,0,none⟩=some (.int .i64 m))→Calls P f vals.toArray w fun e w'=>e=.returned (.slice (some ⟨w.heap.size,0,none⟩) es.length es.length)∧w'=w.alloc (.cells es.toArray T)) :
  Ln P f args (.slice .none (es.map fun x=>[.v x])):=by
 refine⟨hE,fun g w us hs hv hI=>?_⟩;have hu:us=vals.toArray:=by
  subst ha;rw[Bp]at hs;refine RA (by simpa using hs) fun i h1 h2=>?_
  have:=hv i (.v (vals[i]'(by simpa using h2))) us[i] (by rw[AH,Ay (by simpa using h2)];rfl) (by rw[Ba h1])
  rw[this.v_eq];simp
 subst hu;refine(h w hI.glob.1.2).mono ?_
 rintro e w' ⟨rfl,rfl⟩
 have Fj:(w.alloc (.cells es.toArray T)).heap[w.heap.size]?=some (.cells es.toArray T (0,0)):=Hw w _ rfl;have VS:∀b,b<w.heap.size→(w.alloc (.cells es.toArray T)).heap[b]?=w.heap[b]?:=fun b hb=>heap_alloc_old _ _ hb;have hK:EP g w ⟨g.ρ,g.ln,g.tk,g.own,g.more w.heap.size es.length⟩ (w.alloc (.cells es.toArray T)):=fun b o hb=>by
  have Dt:=hI.slt b o hb;exact⟨.inl hb,by simp only[World.cell?,VS b Dt],fun es ck he=>(VS b Dt).trans he⟩
 refine⟨_,_,Aa,⟨g.ρ,g.ln,g.tk,g.own,g.more w.heap.size es.length⟩,rfl,⟨rfl,rfl⟩,?_,⟨rfl,rfl,rfl,?_,fun b hb _=>VS b hb,fun b o hs=>?_,fun _=>trivial,fun _ _ _ h=>h.elim,fun _ _ h=>h.elim,fun b o hs=>?_,hI.glob.keep hK⟩,⟨.refl _ _,fun _ h=>h,hK⟩⟩
 ·have hr:CE ⟨g.ρ,g.ln,g.tk,g.own,g.more w.heap.size es.length⟩ (w.alloc (.cells es.toArray T)) E8 (es.map fun x=>[AV.v x]).flatten (es.toArray.toList.take ((es.map fun x=>[AV.v x]).length*1)):=by
   have hfl:∀l:List Value,(l.map fun x=>[AV.v x]).flatten=l.map .v:=fun l=>by
    induction l with
    |nil=>rfl
    |cons a l ih=>rw[AM,BL,ih];rfl
   rw[hfl];simp only[Bp,Nat.mul_one,DU];refine⟨by simp,fun x hx=>h1 x (by simpa using hx),fun i av x q1 q2=>?_⟩;rw[AH,AW]at q1;obtain⟨a,e1,rfl⟩:=q1;rw[e1]at q2;cases q2;exact .v _ _
  have:=BF.slice_row (U:=AK Aa) (cap:=es.length) (sz:=1) (es:=es.map fun x=>[AV.v x]) Fj (fun cs hcs=>by
   obtain⟨x,_,rfl⟩:=Ao.1 hcs;rfl) (by simp) hr (fun o ho=>.inr ⟨rfl,by simpa using ho⟩)
  simpa using this
 ·rw[World.size_alloc];omega
 ·rw[World.size_alloc];rcases hs with hs | ⟨rfl,_⟩
  ·have:=hI.slt b o hs;omega
  ·omega
 ·rcases hs with hs | ⟨rfl,_⟩
  ·exact .inl hs
  ·exact .inr (.inl (Ak _))
end
end Go.Eng

namespace Go.Eng
open Go.Sort

section
variable {P:Program}
theorem J8(F c:Array Value)(h:F.size≤c.size):(putCells id 0 F c).toList.take F.size=F.toList∧(putCells id 0 F c).size=c.size:=by
 have hs:(putCells id 0 F c).size=c.size:=by simp[putCells]
 refine⟨?_,hs⟩;apply Dc;intro i;rw[Jt,A4,A4]
 by_cases hi:i<F.size
 ·rw[Aw hi];have uF:i<c.size:=by omega
  simp only[putCells,Array.getElem?_mapIdx,Ba uF,Ba hi,Gl,AS,true_and,Bd,hi,LI,Nat.sub_zero,id_eq];rw[DH F i hi]
 ·rw[Am hi,TM (by omega)]
theorem Nv(r:Nat)(o o' : HO):AT (Ad [(r,o)] Aa) r o'=Ad [(r,o')] Aa:=by
 funext i
 by_cases e:i=r
 ·subst e;rw[A9];simp[Ad]
 ·rw[B3 _ _ _ _ e];simp[Ad,Cc e]
theorem Ui{f:Nat}{es:List (List AV)}{sz:Nat}{rest:List Value}{Q:List (List AV)→Prop}(hE:Gb P f)
  (h0:es=[]→Q []∧∀w,Calls P f (#[.slice none 0 0]++rest.toArray) w fun e w'=>e=.returned (.tuple #[])∧w'=w)
  (h1:∀(g:Gh) (w:World) (b cap:Nat) (F:Array Value),CE g w E8 es.flatten F.toList→F.size=es.length*sz→Holds id w b 0 F→b<w.heap.size→Calls P f (#[.slice (some ⟨b,0,none⟩) es.length cap]++rest.toArray) w fun e w' =>
   e=.returned (.tuple #[])∧∃(F' : Array Value) (EA : List (List AV)) (n:Nat) (os:Array Obj),F'.size=F.size∧Q EA∧EA.length=es.length∧(∀cs∈EA,cs.length=sz) ∧
    (∀(g:Gh) (w:World),CE g w E8 es.flatten F.toList→CE g w E8 EA.flatten F'.toList)∧w'=grow (putRow id (Sort.ahead w n) b 0 F') os) :
  Bn P f (.msl 1000 es.length::rest.map .v) (Ad [(1000,.arr sz es)] Aa) fun r h'=>r=.tup []∧∃EA,Q EA∧h'=Ad [(1000,.arr sz EA)] Aa:=by
 refine⟨hE,fun g w us hs hv hI=>?_⟩;have ho:=hI.objs 1000;have he:Ad [(1000,HO.arr sz es)] Aa 1000=.arr sz es:=rfl;rw[he]at ho;obtain⟨t1,l1,al,a2⟩:=ho;simp only[Al,Bp]at hs
 -- the arguments
 have qO:0<us.size:=by omega
 have bP:=hv 0 (.msl 1000 es.length) us[0] rfl (Ba qO);have hval:us[0]=g.ρ 1000:=by
  generalize us[0]=x at bP;cases bP with
  |msl _ r n a cap hu ht hn ha hx=>exact hx l1.symm
 have Kw:us=#[g.ρ 1000]++rest.toArray:=by
  refine RA (by simp;omega) fun i h1 h2=>?_;cases i with
  |zero=>rw[hval];simp
  |succ i =>
   have hi:i<rest.length:=by omega
   have:=hv (i+1) (.v rest[i]) us[i+1] (by simp[List.getElem?_eq_getElem hi]) (Ba h1)
   rw[this.v_eq];simp
 rw[Kw];rcases a2 with ⟨b1,b2,b3⟩ | ⟨b,cap,E,vs,b1,b2,b3,b4,b5,b6,b7⟩
 ·subst b1;obtain⟨q,h0⟩:=h0 rfl;rw[b2];refine(h0 w).mono ?_
  rintro e w' ⟨rfl,rfl⟩
  exact⟨_,.tup [],_,g,rfl,⟨rfl,[],q,rfl⟩,.tup _ _ _ rfl (fun i av x h=>by simp at h),hI,.refl _ _ _⟩
 ·have hl:(Ad [(1000,HO.arr sz es)] Aa 1000).live:=trivial;have Dt:=(hI.loc 1000 b hl b2).1;have HI:es.length*sz≤vs.size:=by rw[b5];exact Bc _ b3
  have hF:((vs.toList.take (es.length*sz)).toArray).size=es.length*sz:=by simp;omega
  have hH:Holds id w b 0 (vs.toList.take (es.length*sz)).toArray:=fun j hj=>by
   have hj:j<es.length*sz:=by rw[hF]at hj;exact hj
   refine⟨?_,?_⟩
   ·have m8:j<vs.size:=by omega
    simp only[World.cell?,b4,Bd,N2,CT,FL];rw[Ba m8,DH _ j (by rw[hF];exact hj)];simp
   ·simp[World.frozen?,b4]
  rw[b1];refine(h1 g w b cap _ (by simpa using b6) hF hH Dt).mono ?_
  rintro e w' ⟨rfl,F',EA,n,os,f1,f2,f3,f4,f5,rfl⟩
  have lp : F'.size=es.length*sz:=f1.trans hF;have lD:=J8 F' vs (by omega);have iO : (grow (putRow id (Sort.ahead w n) b 0 F') os).heap[b]?=some (.cells (putCells id 0 F' vs) E (0,0)):=by
   rw[heap_grow_old _ _ (by rw[size_putRow];exact Dt)];show(w.heap.modify b (onCells (putCells id 0 F')))[b]?=_;rw[Lj,Aw rfl,b4];rfl
  have nf:∀k,k<w.heap.size→k≠b→(grow (putRow id (Sort.ahead w n) b 0 F') os).heap[k]?=w.heap[k]?:=fun k hk Dn=>by
   rw[heap_grow_old _ _ (by rw[size_putRow];exact hk)];simp[putRow,mapBlock,Array.getElem?_modify,Ne.symm Dn]
  have Ew:w.heap.size≤(grow (putRow id (Sort.ahead w n) b 0 F') os).heap.size:=by rw[size_grow,size_putRow];show w.heap.size≤w.heap.size+_;omega
  obtain⟨k1,k2⟩:=hI.upd 1000 (.arr sz EA) (g.ρ 1000) (g.ln 1000) (g.tk 1000) (g.own 1000) g.S (grow (putRow id (Sort.ahead w n) b 0 F') os) (some b) ⟨rfl,rfl,rfl,Ew⟩
   (fun k hk Dn=>nf k hk (fun e=>Dn (by rw[e]))) (fun b' e=>by cases e;exact⟨hl,b2⟩) (fun _ _ h=>h) (fun _ _ h=>.inl h) (fun b' o e hs=>by cases e;exact absurd hs (b7 o))
   (fun b' _ e=>by rw[b2]at e;cases e;exact⟨BK Dt Ew,.inl ⟨hl,b2⟩⟩) (by simp) (fun _=>⟨rfl,Ak _,fun _=>rfl,fun _=>rfl⟩) (fun hg hk=>by
    refine⟨by simp[Gh.upd,t1],by simp[Gh.upd,l1,f3],f4,.inr ⟨b,cap,E,_,by simp[Gh.upd,b1,f3],by simp[Gh.upd,b2],by omega,iO,by rw[lD.2,b5],?_,b7⟩⟩
    have:=f5 g w (by simpa using b6)
    rw[f3,←lp,lD.1];exact this.mono hk (fun _ h=>h) (fun _ h=>h.elim))
  rw[Nv]at k1 k2;exact⟨_,.tup [],_,_,rfl,⟨rfl,EA,f2,rfl⟩,.tup _ _ _ rfl (fun i av x h=>by simp at h),k1,k2⟩
end
end Go.Eng

namespace Go.Eng
open Go.Sort Go.Proofs

theorem QK{g:Gh}{w:World}{U:Nat→Prop}{cs YA : List AV}{vs iL : List Value}(h:vs.length=cs.length):CE g w U (cs++YA) (vs++iL)↔CE g w U cs vs∧CE g w U YA iL:=by
 constructor
 ·intro⟨h1,h2,h3⟩;refine⟨⟨h,fun x hx=>h2 x (Bs _ hx),fun i av x q1 q2=>?_⟩,⟨by simp at h1;omega,fun x hx=>h2 x (Bo _ hx),fun i av x q1 q2=>?_⟩⟩
  ·have a1:=(At.1 q1).1;have a2:=(At.1 q2).1;exact h3 i av x (by rw[AX a1];exact q1) (by rw[AX a2];exact q2)
  ·exact h3 (cs.length+i) av x (by rw[A3 (by omega),GS];exact q1) (by rw[A3 (by omega),h,GS];exact q2)
 ·intro⟨⟨h1,h2,h3⟩,k1,k2,k3⟩;refine⟨by simp[h1,k1],fun x hx=>(A2.1 hx).elim (h2 x) (k2 x),fun i av x q1 q2=>?_⟩
  by_cases hi:i<cs.length
  ·rw[AX hi]at q1;rw[AX (by omega)]at q2;exact h3 i av x q1 q2
  ·rw[A3 (by omega)]at q1;rw[A3 (by omega)]at q2;rw[h]at q2;exact k3 _ av x q1 q2
theorem PL{α β:Type}{g:Gh}{w:World}{U:Nat→Prop}{Iw:β→List AV}{enc:α→List Value}(hl:∀x y,(enc x).length=(Iw y).length):∀ps:List (β×α),
  CE g w U (ps.map fun p=>Iw p.1).flatten (ps.map fun p=>enc p.2).flatten↔∀p∈ps,CE g w U (Iw p.1) (enc p.2)
 | []=>by simp[CE]
 |p::ps=>by
  simp only[AM,BL];rw[QK (hl _ _),PL hl ps];simp
theorem Mg{α β:Type}{f:α→β}:∀{m m' : List β},m.Perm m'→∀ps:List α,ps.map f=m→∃gT : List α,gT.Perm ps∧gT.map f=m':=by
 intro m m' h
 induction h with
 |nil=>intro ps e;exact⟨ps,.refl _,e⟩
 |cons x h ih =>
  intro ps e;cases ps with
  |nil=>cases e
  |cons p ps =>
   rw[AM]at e
   injection e with e1 e2
   obtain⟨gT,h1,h2⟩:=ih ps e2;exact⟨p::gT,h1.cons p,by rw[AM,e1,h2]⟩
 |swap x y l =>
  intro ps e
  match ps,e with
  |p::q::ps,e =>
   simp only[AM,FF]at e;exact⟨q::p::ps,List.Perm.swap _ _ _,by simp[e.1,e.2.1,e.2.2]⟩
 |trans h1 h2 ih1 ih2 =>
  intro ps e;obtain⟨ps1,p1,p2⟩:=ih1 ps e;obtain⟨ps2,q1,q2⟩:=ih2 ps1 p2;exact⟨ps2,q1.trans p1,q2⟩
theorem Sq{α:Type}[Inhabited α]{enc:α→List Value}{k:Nat}(hk:∀x,(enc x).length=k)(d:Array α):(flatK enc k d).toList=(d.toList.map enc).flatten:=by
 have hl:∀cs∈d.toList.map enc,cs.length=k:=fun cs hcs=>by
  obtain⟨x,_,rfl⟩:=Ao.1 hcs;exact hk x
 have CM:(d.toList.map enc).flatten.length=d.size*k:=by
  have:∀l:List α,(l.map enc).flatten.length=l.length*k:=fun l=>by
   induction l with
   |nil=>simp
   |cons a l ih=>simp[hk,Nat.succ_mul,ih];omega
  rw[this];simp
 apply Dc;intro t
 by_cases ht:t<d.size*k
 ·have k0:0<k:=Nat.pos_of_ne_zero fun h=>by subst h;simp at ht
  have h1:t / k<d.size:=by rw[Ll k0];exact ht
  have h2:t % k<k:=Nat.mod_lt _ k0;have e:t=t / k*k+t % k:=by rw[Nat.mul_comm];exact(Uf t k).symm
  rw[A4,Ba (by simpa using ht),←DH _ t (by simpa using ht),get_flatK _ _ _ _ ht];have hg:(d.toList.map enc)[t / k]?=some (enc d[t / k]!):=by
   rw[AH,A4,Ba h1,DH d _ h1];rfl
  have:=Fg hl hg h2
  rw[e,this,←e];rw[Ay (by rw[hk];exact h2),DH _ _ (by rw[hk];exact h2)]
 ·rw[AZ (by simp;omega),AZ (by omega)]
theorem aM{α β:Type}:∀{l:List α} {m:List β},l.length=m.length→(l.zip m).map (·.1)=l∧(l.zip m).map (·.2)=m
 | [],[],_=>⟨rfl,rfl⟩
 |a::l,b::m,h=>by
  have:=aM (l:=l) (m:=m) (by simpa using h)
  simp[this.1,this.2]
section
variable {P:Program}
theorem I8{α β:Type}[Inhabited α]{f k:Nat}{rest:List Value}(hE:Gb P f)(Iw:β→List AV)(enc:α→List Value)(hB:∀x,(Iw x).length=k)(hk:∀x,(enc x).length=k)(lt:α→α→Bool)(R:β→α→Prop)(l:List β)(hl:l.length<4611686018427387904)
  (hR:∀x∈l,∀(g:Gh) (w:World) (vs:List Value),CE g w E8 (Iw x) vs→∃a,enc a=vs∧R x a)
  (DE:∀(w:World) (b cap:Nat) (d:Array α),HoldsK enc k w b 0 d→b<w.heap.size→d.size<4611686018427387904→d.size=l.length→Calls P f (#[.slice (some ⟨b,0,none⟩) d.size cap]++rest.toArray) w fun e w' =>
   e=.returned (.tuple #[])∧∃d' n os,PermIn 0 d.size d d'∧SortedIn lt 0 d.size d'∧w'=sortWorldK enc k w b 0 n d' os)
  (qB:l=[]→∀w:World,Calls P f (#[.slice none 0 0]++rest.toArray) w fun e w'=>e=.returned (.tuple #[])∧w'=w) :
  Bn P f (.msl 1000 l.length::rest.map .v) (Ad [(1000,.arr k (l.map Iw))] Aa) fun r h' =>
   r=.tup []∧∃l' : List β,l'.Perm l∧(∃al:List α,al.length=l'.length∧(∀(i:Nat) (x:β) (a:α),l'[i]?=some x→al[i]?=some a→R x a)∧al.Pairwise (fun x y=>lt y x=false))∧h'=Ad [(1000,.arr k (l'.map Iw))] Aa:=by
 have Ik:=Ui (P:=P) (f:=f) (es:=l.map Iw) (sz:=k) (rest:=rest)
  (Q:=fun EA=>∃l' : List β,l'.Perm l∧(∃al:List α,al.length=l'.length∧(∀(i:Nat) (x:β) (a:α),l'[i]?=some x→al[i]?=some a→R x a)∧al.Pairwise (fun x y=>lt y x=false))∧EA=l'.map Iw) hE ?_ ?_
 ·rw[Bp]at Ik;refine⟨hE,fun g w vals q1 q2 q3=>(Ik.2 g w vals q1 q2 q3).mono fun _ _ ⟨v,r,h',g',e1,⟨e2,EA,⟨l',p1,p2,p3⟩,p4⟩,rest⟩=>⟨v,r,h',g',e1,⟨e2,l',p1,p2,by rw[p4,p3]⟩,rest⟩⟩
 ·intro e
  have:l=[]:=by simpa using e
  subst this;exact⟨⟨[],.refl _,⟨[],rfl,fun i x a h=>by simp at h,.nil⟩,rfl⟩,qB rfl⟩
 ·intro g w b cap F hr hF hH hb
  -- the elements in memory
  have nk:∀(m:List β) (vs:List Value),(∀x∈m,x∈l)→CE g w E8 (m.map Iw).flatten vs→∃al:List α,al.length=m.length∧vs=(al.map enc).flatten∧∀(i:Nat) (x:β) (a:α),m[i]?=some x→al[i]?=some a→R x a:=by
   intro m
   induction m with
   |nil =>
    intro vs _ h
    have:vs=[]:=AJ (by simpa using h.1)
    subst this;exact⟨[],rfl,rfl,fun i x a h=>by simp at h⟩
   |cons x m ih =>
    intro vs hm h;rw[AM,BL]at h;have CM:=h.1;rw[Ac,hB]at CM;have e:vs=vs.take k++vs.drop k:=(EQ k vs).symm;rw[e]at h;rw[QK (by rw[AN,hB];omega)]at h;obtain⟨a,a1,a2⟩:=hR x (hm x (Ab ..)) g w _ h.1;obtain⟨al,b1,b2,b3⟩:=ih _ (fun y hy=>hm y (Ag _ hy)) h.2;refine⟨a::al,by simp[b1],by rw[AM,BL,a1,←b2,←e],fun i y c q1 q2=>?_⟩;cases i with
    |zero=>simp only[Bi,Bq]at q1 q2;subst q1;subst q2;exact a2
    |succ i=>exact b3 i y c (by simpa using q1) (by simpa using q2)
  obtain⟨al,s1,s2,s3⟩:=nk l F.toList (fun _ h=>h) hr;have zr:F=flatK enc k al.toArray:=Lv.1 (by rw[Sq hk,s2]);have hd:HoldsK enc k w b 0 al.toArray:=by unfold HoldsK;rw[←zr];exact hH
  have hc:=DE w b cap al.toArray hd hb (by simpa[s1]using hl) (by simp[s1]);have Ew:al.toArray.size=(l.map Iw).length:=by simp[s1]
  rw[Ew]at hc;refine hc.mono ?_
  rintro e w' ⟨rfl,d',n,os,p1,p2,rfl⟩
  obtain⟨z1,z2⟩:=aM s1.symm;obtain⟨fM,_,JK⟩:=p1;have fM : d'.size=al.length:=by rw[fM];simp
  have e1:d'.extract 0 (l.map Iw).length=d':=by rw[show(l.map Iw).length=d'.size by rw[fM];simp[s1]];exact Array.extract_size
  have e2:al.toArray.extract 0 (l.map Iw).length=al.toArray:=by rw[←Ew];exact Array.extract_size
  rw[e1,e2]at JK;have JK:al.Perm d'.toList:=by
   first
   |exact JK.symm
   |exact JK
   |(have:=JK.symm;simpa using this)
  obtain⟨gT,r1,r2⟩:=Mg JK (l.zip al) z2;have rel:∀p∈l.zip al,R p.1 p.2:=fun p hp=>by
   obtain⟨i,hi⟩:=Cb.1 hp;rw[List.getElem?_zip_eq_some]at hi;exact s3 i _ _ hi.1 hi.2
  refine⟨rfl,flatK enc k d',(gT.map (·.1)).map Iw,n,os,by rw[size_flatK,fM,hF];simp[s1],⟨gT.map (·.1),?_,⟨d'.toList,by rw[←r2];simp,fun i x a q1 q2=>?_,?_⟩,rfl⟩,by have:=r1.length_eq;simp[this,s1],fun cs hcs=>?_,fun g w hr=>?_,?_⟩
  ·have:=r1.map (·.1);rw[z1]at this;exact this
  ·rw[←r2]at q2;rw[AH,AW]at q1 q2;obtain⟨p,q1,rfl⟩:=q1;obtain⟨p',q2,rfl⟩:=q2;rw[q1]at q2;cases q2;exact rel p (r1.mem_iff.1 (Av q1))
  ·rw[Bb];intro i j hi hj Qs;have LH : i<d'.size:=by simpa using hi
   have m7 : j<d'.size:=by simpa using hj
   have:=p2 i j (AS _) Qs (by rw[fM]at m7;simp[s1]at m7⊢;omega)
   rw[DH d' j m7,DH d' i LH]at this;simpa using this
  ·obtain⟨x,_,rfl⟩:=Ao.1 hcs;exact hB x
  ·have h1:CE g w E8 ((l.zip al).map fun p=>Iw p.1).flatten ((l.zip al).map fun p=>enc p.2).flatten:=by
    have a1:(l.zip al).map (fun p=>Iw p.1)=l.map Iw:=by
     have:(l.zip al).map (fun p=>Iw p.1)=((l.zip al).map (·.1)).map Iw:=by rw[BW];rfl
     rw[this,z1]
    have a2:(l.zip al).map (fun p=>enc p.2)=al.map enc:=by
     have:(l.zip al).map (fun p=>enc p.2)=((l.zip al).map (·.2)).map enc:=by rw[BW];rfl
     rw[this,z2]
    rw[a1,a2,←s2];exact hr
   have CM:∀(x:α) (y:β),(enc x).length=(Iw y).length:=fun x y=>by rw[hk,hB]
   rw[PL CM]at h1;have h2:=(PL (g:=g) (w:=w) (U:=E8) CM gT).2 fun p hp=>h1 p (r1.mem_iff.1 hp);have b1:(gT.map (·.1)).map Iw=gT.map fun p=>Iw p.1:=by rw[BW];rfl
   have b2:(flatK enc k d').toList=(gT.map fun p=>enc p.2).flatten:=by
    rw[Sq hk,←r2,BW];rfl
   rw[b1,b2];exact h2
  ·rfl
end
end Go.Eng

namespace Go.Eng
section
variable {P:Program}
theorem BD{f:Nat}{fn:Func}{c:Code}{args:List AV}{H0:List (Nat×HO)}{Q:AV→(Nat→HO)→Prop}(cx:Cx)(σ:Hh)(hP:cx.P=P)(hT:Cn P cx.T)(hm:P.follows .mixedOrders=true)(hx:cx.ext=true)(hf:P.funcs[f]?=some fn)
  (hn : (fn.name == "runtime.NumGoroutine") = false) (hb : fn.body = some c) (hN : args.length ≤ fn.ntmps) (hc : Dx fn.ntmps c = true) (hσ : (EH σ && FA σ H0) = true)
  (hk:MX cx c (TV cx fn.results.toList σ fun r h'=>∃r',GO r r'∧Q r' h') ⟨LA args,Ad H0 Aa⟩) (hY:∀l σ g w,cx.yp l σ g w:=by exact fun _ _ _ _=>trivial):Bn P f args (Ad H0 Aa) Q :=
 (eY cx σ hP hT hm hx hf hn hb hN hc hσ hk hY).mono fun _ _ ⟨r',s,q⟩=>⟨r',s,q⟩
end
end Go.Eng

namespace Go.Eng
open Go.Sort
theorem CE.append{g:Gh}{w:World}{U:Nat→Prop}{TS bs:List AV}{xs ys:List Value}(h:CE g w U TS xs)(k:CE g w U bs ys):CE g w U (TS++bs) (xs++ys):=by
 refine⟨by rw[Ac,Ac,h.1,k.1],fun x hx=>?_,fun i av x q1 q2=>?_⟩
 ·rcases A2.1 hx with hx | hx
  ·exact h.2.1 x hx
  ·exact k.2.1 x hx
 ·have hl:=h.1
  by_cases hi:i<TS.length
  ·rw[AX hi]at q1;rw[AX (by omega)]at q2;exact h.2.2 i av x q1 q2
  ·rw[A3 (by omega)]at q1;rw[A3 (by omega),hl]at q2;exact k.2.2 _ av x q1 q2
theorem CE.take{g:Gh}{w:World}{U:Nat→Prop}{TS:List AV}{xs:List Value}(h:CE g w U TS xs)(k:Nat):CE g w U (TS.take k) (xs.take k):=by
 refine⟨by rw[AN,AN,h.1],fun x hx=>h.2.1 x (DQ hx),fun i av x q1 q2=>?_⟩;rw[Jt]at q1 q2;split at q1
 ·rename_i hi;rw[Aw hi]at q2;exact h.2.2 i av x q1 q2
 ·cases q1
theorem CE.drop{g:Gh}{w:World}{U:Nat→Prop}{TS:List AV}{xs:List Value}(h:CE g w U TS xs)(k:Nat):CE g w U (TS.drop k) (xs.drop k):=by
 refine⟨by rw[Da,Da,h.1],fun x hx=>h.2.1 x (Ia hx),fun i av x q1 q2=>?_⟩;rw[Du]at q1 q2;exact h.2.2 _ av x q1 q2
theorem IU{α:Type}{k:Nat}:∀(es:List (List α)) (i:Nat),(∀e∈es,e.length=k)→es.flatten.take (i*k)=(es.take i).flatten
 | [],i,_=>by simp
 |e::es,0,_=>by simp
 |e::es,i+1,h=>by
  have he:=h e (Ab ..);rw[BL,IN,BL,List.take_append,←IU es i fun x hx=>h x (Ag _ hx),AI (by rw[he,DW];omega),he,show(i+1)*k-k=i*k by rw[DW];omega]
theorem Om{α:Type}{k:Nat}:∀(es:List (List α)) (i:Nat),(∀e∈es,e.length=k)→es.flatten.drop (i*k)=(es.drop i).flatten
 | [],i,_=>by simp
 |e::es,0,_=>by simp
 |e::es,i+1,h=>by
  have he:=h e (Ab ..);rw[BL,List.drop_succ_cons,List.drop_append,←Om es i fun x hx=>h x (Ag _ hx),Kc (by rw[he,DW];omega),he,show(i+1)*k-k=i*k by rw[DW];omega,D8]
section
variable {P:Program}
theorem aQ{f:Nat}{es:List (List AV)}{sz:Nat}{rest:List Value}{n' : Nat}{Q:List (List AV)→Prop}(hE:Gb P f)(Dn:es≠[])(Xk : n'≤es.length)
  (h1:∀(g:Gh) (w:World) (b cap:Nat) (F:Array Value),CE g w E8 es.flatten F.toList→F.size=es.length*sz→Holds id w b 0 F→b<w.heap.size→es.length≤cap→Calls P f (#[.slice (some ⟨b,0,none⟩) es.length cap]++rest.toArray) w fun e w' =>
   e=.returned (.slice (some ⟨b,0,none⟩) n' cap)∧∃(F' : Array Value) (EA : List (List AV)) (n:Nat) (os:Array Obj),F'.size=F.size∧Q EA∧EA.length=es.length∧(∀cs∈EA,cs.length=sz) ∧
    (∀(g:Gh) (w:World),CE g w E8 es.flatten F.toList→CE g w E8 EA.flatten F'.toList)∧w'=grow (putRow id (Sort.ahead w n) b 0 F') os) :
  Bn P f (.msl 1000 es.length::rest.map .v) (Ad [(1000,.arr sz es)] Aa) fun r h'=>r=.msl 2000 n'∧∃EA,Q EA∧h'=Ad [(1000,.dead),(2000,.arr sz (EA.take n'))] Aa:=by
 refine⟨hE,fun g w us hs hv hI=>?_⟩;have ho:=hI.objs 1000;have he:Ad [(1000,HO.arr sz es)] Aa 1000=.arr sz es:=rfl;rw[he]at ho;obtain⟨t1,l1,al,a2⟩:=ho;simp only[Al,Bp]at hs;have qO:0<us.size:=by omega
 have bP:=hv 0 (.msl 1000 es.length) us[0] rfl (Ba qO);have hval:us[0]=g.ρ 1000:=by
  generalize us[0]=x at bP;cases bP with
  |msl _ r n a cap hu ht hn ha hx=>exact hx l1.symm
 have Kw:us=#[g.ρ 1000]++rest.toArray:=by
  refine RA (by simp;omega) fun i h1 h2=>?_;cases i with
  |zero=>rw[hval];simp
  |succ i =>
   have hi:i<rest.length:=by omega
   have:=hv (i+1) (.v rest[i]) us[i+1] (by simp[List.getElem?_eq_getElem hi]) (Ba h1)
   rw[this.v_eq];simp
 rw[Kw];rcases a2 with ⟨b1,b2,b3⟩ | ⟨b,cap,E,vs,b1,b2,b3,b4,b5,b6,b7⟩
 ·exact absurd b1 Dn
 ·have hl:(Ad [(1000,HO.arr sz es)] Aa 1000).live:=trivial;have Dt:=(hI.loc 1000 b hl b2).1;have HI:es.length*sz≤vs.size:=by rw[b5];exact Bc _ b3
  have hF:((vs.toList.take (es.length*sz)).toArray).size=es.length*sz:=by simp;omega
  have hH:Holds id w b 0 (vs.toList.take (es.length*sz)).toArray:=fun j hj=>by
   have hj:j<es.length*sz:=by rw[hF]at hj;exact hj
   refine⟨?_,?_⟩
   ·have m8:j<vs.size:=by omega
    simp only[World.cell?,b4,Bd,N2,CT,FL];rw[Ba m8,DH _ j (by rw[hF];exact hj)];simp
   ·simp[World.frozen?,b4]
  rw[b1];refine(h1 g w b cap _ (by simpa using b6) hF hH Dt b3).mono ?_
  rintro e w' ⟨rfl,F',EA,n,os,f1,f2,f3,f4,f5,rfl⟩
  have lp : F'.size=es.length*sz:=f1.trans hF;have lD:=J8 F' vs (by omega);have iO : (grow (putRow id (Sort.ahead w n) b 0 F') os).heap[b]?=some (.cells (putCells id 0 F' vs) E (0,0)):=by
   rw[heap_grow_old _ _ (by rw[size_putRow];exact Dt)];show(w.heap.modify b (onCells (putCells id 0 F')))[b]?=_;rw[Lj,Aw rfl,b4];rfl
  have nf:∀k,k<w.heap.size→k≠b→(grow (putRow id (Sort.ahead w n) b 0 F') os).heap[k]?=w.heap[k]?:=fun k hk Dn=>by
   rw[heap_grow_old _ _ (by rw[size_putRow];exact hk)];simp[putRow,mapBlock,Array.getElem?_modify,Ne.symm Dn]
  have Ew:w.heap.size≤(grow (putRow id (Sort.ahead w n) b 0 F') os).heap.size:=by rw[size_grow,size_putRow];show w.heap.size≤w.heap.size+_;omega
  obtain⟨k1,k2⟩:=hI.upd 1000 (.arr sz EA) (g.ρ 1000) (g.ln 1000) (g.tk 1000) (g.own 1000) g.S (grow (putRow id (Sort.ahead w n) b 0 F') os) (some b) ⟨rfl,rfl,rfl,Ew⟩
   (fun k hk Dn=>nf k hk (fun e=>Dn (by rw[e]))) (fun b' e=>by cases e;exact⟨hl,b2⟩) (fun _ _ h=>h) (fun _ _ h=>.inl h) (fun b' o e hs=>by cases e;exact absurd hs (b7 o))
   (fun b' _ e=>by rw[b2]at e;cases e;exact⟨BK Dt Ew,.inl ⟨hl,b2⟩⟩) (by simp) (fun _=>⟨rfl,Ak _,fun _=>rfl,fun _=>rfl⟩) (fun hg hk=>by
    refine⟨by simp[Gh.upd,t1],by simp[Gh.upd,l1,f3],f4,.inr ⟨b,cap,E,_,by simp[Gh.upd,b1,f3],by simp[Gh.upd,b2],by omega,iO,by rw[lD.2,b5],?_,b7⟩⟩
    have:=f5 g w (by simpa using b6)
    rw[f3,←lp,lD.1];exact this.mono hk (fun _ h=>h) (fun _ h=>h.elim))
  rw[Nv]at k1 k2;generalize Xf : g.upd 1000 (g.ρ 1000) (g.ln 1000) (g.tk 1000) (g.own 1000) g.S=g' at k1 k2;have lB : g'.own 1000=some b:=by rw[←Xf];simp[Gh.upd,b2]
  have fG:=k1.objs 1000;have dw:Ad [(1000,HO.arr sz EA)] Aa 1000=.arr sz EA:=rfl;rw[dw]at fG;obtain⟨m1,m2,m3,m4⟩:=fG;have hρ:g'.ρ 1000=.slice (some ⟨b,0,none⟩) es.length cap:=by rw[←Xf];simp[Gh.upd,b1]
  have na : EA≠[]:=fun e=>Dn (AJ (by rw[←f3,e];rfl));rcases m4 with ⟨m4,_⟩ | ⟨b',Oa,E',iL,c1,c2,c3,c4,c5,c6,c7⟩
  ·exact absurd m4 na
  ·rw[hρ]at c1;simp only[Value.slice.injEq,Bq,Addr.mk.injEq,RL]at c1;obtain⟨tg,yU,th⟩:=c1;subst tg;subst th;have VR : (EA.take n').length=n':=by rw[AN];omega
   obtain⟨k3,k4⟩:=k1.move 1000 2000 (by decide) rfl trivial lB (.arr sz (EA.take n')) (.slice (some ⟨b,0,none⟩) n' cap) n' true (by simp) (fun hk=>by
    refine⟨by simp[Gh.upd],by simp[Gh.upd,VR],fun cs hcs=>m3 cs (DQ hcs),.inr ⟨b,cap,E',iL,by simp[Gh.upd,VR],by simp[Gh.upd],by omega,c4,c5,?_,c7⟩⟩
    have:=(c6.mono hk (fun _ h=>h) (fun _ h=>h.elim)).take (n'*sz)
    rw[IU EA n' m3,N1,Ug (Bc _ (by omega))]at this;rw[VR];exact this)
   have fC:AT (AT (Ad [(1000,HO.arr sz EA)] Aa) 1000 .dead) 2000 (.arr sz (EA.take n'))=Ad [(1000,.dead),(2000,.arr sz (EA.take n'))] Aa:=by
    funext i
    by_cases e1:i=2000
    ·subst e1;rw[A9];rfl
    ·rw[B3 _ _ _ _ e1]
     by_cases e2:i=1000
     ·subst e2;rw[A9];rfl
     ·rw[B3 _ _ _ _ e2];simp[Ad,Cc e1,Cc e2]
   rw[fC]at k3 k4;exact⟨_,.msl 2000 n',_,_,rfl,⟨rfl,EA,f2,rfl⟩,.msl _ 2000 n' (some ⟨b,0,none⟩) cap (by intro c;cases c) (by simp[Gh.upd]) (by simp[Gh.upd]) (.inr ⟨b,rfl⟩) (fun _=>by simp[Gh.upd]),k3,k2.trans k4⟩
end
end Go.Eng

namespace Go.Eng

def eu(a b:FE):Bool :=
 (match a.2 with | some r=>!IB b.1 r | none=>true)&&(match b.2 with | some r=>!IB a.1 r | none=>true)
def Pb(ops:Array Oper)(oi:Oper)(fi:FE)(D:List Nat)(k:Nat):List Oper→List FE→Bool
 |o::r,f::fs=>(IB D k||(oi.apart ops o&&eu fi f))&&Pb ops oi fi D (k+1) r fs
 | [],[]=>true
 |_,_=>false
def UC(ops:Array Oper)(all:List Oper)(k:Nat):List Oper→List FE→Bool
 |o::r,f::fs =>
  let D:=Pi k [] 0 all
  (o.after.toList.all fun e=>!Region.binds .any e||Nat.blt e.on k)&&Ty k D 0 all&&(D.all fun j=>Nat.blt k j&&Nat.blt j all.length)&&Pb ops o f D (k+1) r fs&&UC ops all (k+1) r fs
 | [],[]=>true
 |_,_=>false
def ZH(ops:Array Oper)(fs:List FE):Bool:=Region.noSelect ops&&UC ops ops.toList 0 ops.toList fs
def PP(f:FE):Prop:=∀r,f.2=some r→r<10000000
def Rx:List FE→Prop
 | []=>True
 |f::r=>PP f∧Rx r
theorem AY(l:List Nat):PP (l,none):=fun _ h=>by cases h
theorem D3{l:List Nat}{r:Nat}(h:r<10000000):PP (l,some r):=fun _ e=>by cases e;exact h
theorem ez{a b:FE}(ha:PP a)(hb:PP b)(h:eu a b=true):Sb a b=true:=by
 obtain⟨a1,a2⟩:=a;obtain⟨b1,b2⟩:=b;unfold eu at h;unfold Sb;rw[Af]at h⊢;refine⟨?_,?_⟩
 ·cases a2 with
  |none=>rfl
  |some r =>
   have h1:(!IB b1 r)=true:=h.1;show XS b1 r=true;unfold XS;rw[Cc (show r≠Vu by have:=ha r rfl;unfold Vu;omega),D1,h1,show Nat.blt r 10000000=true by rw[Cg];exact ha r rfl];rfl
 ·cases b2 with
  |none=>rfl
  |some r =>
   have h1:(!IB a1 r)=true:=h.2;show XS a1 r=true;unfold XS;rw[Cc (show r≠Vu by have:=hb r rfl;unfold Vu;omega),D1,h1,show Nat.blt r 10000000=true by rw[Cg];exact hb r rfl];rfl
theorem Ul{ops:Array Oper}{oi:Oper}{fi:FE}{D:List Nat}(hi:PP fi):∀{l:List Oper} {fs:List FE} {k:Nat},Rx fs→Pb ops oi fi D k l fs=true→Ie ops oi fi D k l fs=true
 | [],[],_,_,h=>h
 |o::r,f::fs,k,hs,h=>by
  unfold Pb at h;unfold Ie;rw[Af,CO,Af]at h⊢;exact⟨h.1.imp id (fun q=>⟨q.1,ez hi hs.1 q.2⟩),Ul hi hs.2 h.2⟩
 | [],_::_,_,_,h=>by simp[Pb]at h
 |_::_,[],_,_,h=>by simp[Pb]at h
theorem WM{ops:Array Oper}{all:List Oper}:∀{l:List Oper} {fs:List FE} {k:Nat},Rx fs→UC ops all k l fs=true→LR ops all k l fs=true
 | [],[],_,_,h=>h
 |o::r,f::fs,k,hs,h=>by
  unfold UC at h;unfold LR;simp only[Af]at h⊢;exact⟨⟨h.1.1,Ul hs.1 hs.2 h.1.2⟩,WM hs.2 h.2⟩
 | [],_::_,_,_,h=>by simp[UC]at h
 |_::_,[],_,_,h=>by simp[UC]at h
theorem IR{ops:Array Oper}{fs:List FE}(hs:Rx fs)(h:ZH ops fs=true):Sc ops fs=true:=by
 unfold ZH at h;unfold Sc;rw[Af]at h⊢;exact⟨h.1,WM hs h.2⟩

theorem Qj{cx:Cx}{d:Option Nat}{h:Nat→HO}{ty e m:Nat}{r:Nat}{es es2:List (List AV)}{x:AV}{K:HK}(vz:(cx.T ty).d=.slice e)(hz:Nat.beq (cx.T e).zc.length (cx.T e).size=true)(Ew:(cx.T e).size=m+1)
  (hx:∀K' : List (List AV)→Prop,K' es2→K2 h x K') (hr:h r=.tok (m+1) es.length) (hl:BY (m+1) es2) (hb:(es.length+es2.length)*(cx.T e).bytes≤140737488355328) (hc:es.length+es2.length≤9223372036854775807)
  (hk:K (.slice (.id r (m+1)) (es++es2)) (AT h r (.tok (m+1) (es.length+es2.length)))):H2 cx d h ty (.slice (.id r (m+1)) es) x K:=by
 have hq:Nat.beq (m+1) (m+1)=true:=CU _;unfold H2;rw[vz];rw[Ew]at hz;simp only[Ew,hz];refine hx _ ?_;simp only[hr,hq];exact⟨⟨hl,trivial,hb,hc⟩,hk⟩
theorem Qi{cx:Cx}{d:Nat}{h:Nat→HO}{ty e m:Nat}{es2:List (List AV)}{x:AV}{K:HK}(vz:(cx.T ty).d=.slice e)(hz:Nat.beq (cx.T e).zc.length (cx.T e).size=true)(Ew:(cx.T e).size=m+1)
  (hx:∀K' : List (List AV)→Prop,K' es2→K2 h x K') (hr:h (Kq cx d)=.free) (ha:Eb cx.pl.arr d=none) (hl:BY (m+1) es2) (hb:es2.length*(cx.T e).bytes≤140737488355328) (hc:es2.length≤9223372036854775807)
  (hk:K (.slice (.id (Kq cx d) (m+1)) es2) (AT h (Kq cx d) (.tok (m+1) es2.length))):H2 cx (some d) h ty (.v (.slice none 0 0)) x K:=by
 unfold H2;rw[vz];rw[Ew]at hz;simp only[Ew,hz];refine hx _ ?_;refine⟨⟨Ew▸hl,hb,hc⟩,?_⟩;unfold Ep;simp only[hr,ha];exact hk
end Go.Eng

namespace Go.Eng
open Go.RowKit
section
variable {P:Program}
end
end Go.Eng

namespace Go.Eng

def TU:Obj→Bool
 |.cells ..=>false
 |.map ..=>false
 |.mapIter ..=>false
 |.loop r=>!Lz [] r.body
 |_=>true
structure Vp(n0 x:Nat)(w:World)(g:Gh)(h:Nat→HO)(w' : World)(g' : Gh)(h' : Nat→HO):Prop where
 os:w'.os=w.os
 tape:w'.tape=w.tape
 output:w'.output=w.output
 size:w.heap.size≤w'.heap.size
 frame:∀b,b<n0→b≠x→(∀r,(h r).live→g.own r≠some b)→w'.heap[b]?=w.heap[b]?
 loc:∀r b,(h' r).live→g'.own r=some b→n0≤b∨∃r',(h r').live∧g.own r'=some b
 sg:∀b o,g'.S b o→g.S b o∨n0≤b∨∃r',(h r').live∧g.own r'=some b
 le:Le h g w h' g' w'
section
variable {P:Program}{N:Nat}{ds:List Deferred}{n0 x:Nat}{w w' w1 w2:World}{g g' g1 g2:Gh}{h h' h1 h2:Nat→HO}

theorem Vp.trans(a:Vp n0 x w g h w1 g1 h1)(b:Vp n0 x w1 g1 h1 w2 g2 h2):Vp n0 x w g h w2 g2 h2 where
 os:=b.os.trans a.os
 tape:=b.tape.trans a.tape
 output:=b.output.trans a.output
 size:=Bh a.size b.size
 frame c hc hx hn:=(b.frame c hc hx fun r hl e=>by
  rcases a.loc r c hl e with h | ⟨r',h1,h2⟩
  ·omega
  ·exact hn r' h1 h2).trans (a.frame c hc hx hn)
 loc r c hl e:=by
  rcases b.loc r c hl e with h | ⟨r',h1,h2⟩
  ·exact .inl h
  ·exact a.loc r' c h1 h2
 sg c o hs:=by
  rcases b.sg c o hs with h | h | ⟨r',h1,h2⟩
  ·exact a.sg c o h
  ·exact .inr (.inl h)
  ·rcases a.loc r' c h1 h2 with h | h
   ·exact .inr (.inl h)
   ·exact .inr (.inr h)
 le:=a.le.trans b.le
theorem Vp.of_inv(hI:Dk w g h h' g' w')(hL:Le h g w h' g' w')(hn:n0≤w.heap.size):Vp n0 x w g h w' g' h' where
 os:=hI.os
 tape:=hI.tape
 output:=hI.output
 size:=hI.size
 frame c hc _ Xk:=hI.frame c (by omega) Xk
 loc r c hl e:=by
  rcases(hI.loc r c hl e).2 with h | h
  ·exact .inl (by omega)
  ·exact .inr h
 sg c o hs:=by
  rcases hI.sg c o hs with h | h | h
  ·exact .inl h
  ·exact .inr (.inl (by omega))
  ·exact .inr (.inr h)
 le:=hL
theorem Dk.base(hI:Dk w g h h' g' w'):Dk w' g' h' h' g' w' where
 os:=rfl
 tape:=rfl
 output:=rfl
 size:=Ak _
 frame _ _ _:=rfl
 slt:=hI.slt
 objs:=hI.objs
 inj:=hI.inj
 loc r b hl e:=⟨(hI.loc r b hl e).1,.inr ⟨r,hl,e⟩⟩
 sg _ _ hs:=.inl hs
 glob:=hI.glob
theorem Dk.of_seg(hI:Dk w' g' h' h' g' w')(s:Vp w.heap.size x w g h w' g' h')(hx:x<w.heap.size→w'.heap[x]?=w.heap[x]?):Dk w g h h' g' w' where
 os:=s.os
 tape:=s.tape
 output:=s.output
 size:=s.size
 frame b hb hn:=by
  by_cases e:b=x
  ·subst e;exact hx hb
  ·exact s.frame b hb e hn
 slt:=hI.slt
 objs:=hI.objs
 inj:=hI.inj
 loc r b hl e:=⟨(hI.loc r b hl e).1,s.loc r b hl e⟩
 sg:=s.sg
 glob:=hI.glob
theorem KE{U:Nat→Prop}{r b:Nat}{o:HO}{ob:Obj}(ho:D4 g w U r o)(hl:o.live)(e:g.own r=some b)(hb:w.heap[b]?=some ob)(hd:TU ob=true):False:=by
 cases o with
 |free=>exact hl
 |dead=>exact hl
 |ro cs=>exact hl
 |rom sh B5=>exact hl
 |cells cs =>
  obtain⟨_,b',E,vs,h1,_,h3,_⟩:=ho;rw[e]at h1;cases h1;rw[hb]at h3;cases h3;cases hd
 |tok sz n =>
  obtain⟨_,_,a,cap,_,(⟨_,h1⟩ | ⟨_,b',E,vs,off,_,h1,h3,_⟩)⟩:=ho
  ·rw[e]at h1;cases h1
  ·rw[e]at h1;cases h1;rw[hb]at h3;cases h3;cases hd
 |vox v=>exact hl
 |raw b' ob' =>
  obtain⟨_,h1,h2,h3,_⟩:=ho;rw[e]at h1;cases h1;rw[hb]at h2;cases h2;cases ob<;>simp[TU,mg]at hd h3
  rw[hd]at h3;cases h3
 |var sz v n =>
  obtain⟨_,_,a,cap,_,(⟨_,h1⟩ | ⟨_,b',E,vs,off,_,h1,h3,_⟩)⟩:=ho
  ·rw[e]at h1;cases h1
  ·rw[e]at h1;cases h1;rw[hb]at h3;cases h3;cases hd
 |arr sz es =>
  obtain⟨_,_,_,(⟨_,_,h1⟩ | ⟨b',cap,E,vs,_,h1,_,h3,_⟩)⟩:=ho
  ·rw[e]at h1;cases h1
  ·rw[e]at h1;cases h1;rw[hb]at h3;cases h3;cases hd
 |map sh B5 =>
  obtain⟨_,b',es,ck,h1,_,h3,_⟩:=ho;rw[e]at h1;cases h1;rw[hb]at h3;cases h3;cases hd
 |mapU sh B5 =>
  obtain⟨_,b',es,ck,h1,_,h3,_⟩:=ho;rw[e]at h1;cases h1;rw[hb]at h3;cases h3;cases hd
 |iter all rem F2 =>
  obtain⟨_,b',mb,JU,seen,st,es,ck,h1,_,h3,_⟩:=ho;rw[e]at h1;cases h1;rw[hb]at h3;cases h3;cases hd
theorem Dk.dullS(hI:Dk w g h h g w)(ho:w'.os=w.os∧w'.tape=w.tape∧w'.output=w.output)(Ew:w.heap.size≤w'.heap.size)
  (hb:∀b,b<w.heap.size→w'.heap[b]?=w.heap[b]?∨∃o o',w.heap[b]?=some o∧w'.heap[b]?=some o'∧TU o=true∧TU o'=true)
  (hn:∀b,b<n0→b≠x→w'.heap[b]?=w.heap[b]?):Dk w' g h h g w'∧Vp n0 x w g h w' g h:=by
 have hk:EP g w g w':=fun b o hs=>by
  refine⟨hs,?_⟩;rcases hb b (hI.slt b o hs)with e | ⟨ob,ob',e1,e2,d1,d2⟩
  ·exact⟨by simp only[World.cell?,e],fun es ck he=>e.trans he⟩
  ·refine⟨?_,fun es ck he=>?_⟩
   ·simp only[World.cell?,e1,e2];cases ob<;>cases ob'<;>first | rfl | (cases d1;done) | (cases d2;done)
   ·rw[e1]at he;cases he;cases d1
 have VT:∀r b,(h r).live→g.own r=some b→w'.heap[b]?=w.heap[b]?:=fun r b hl e=>by
  rcases hb b (hI.loc r b hl e).1 with e' | ⟨ob,ob',e1,_,d1,_⟩
  ·exact e'
  ·exact(KE (hI.objs r) hl e e1 d1).elim
 refine⟨⟨rfl,rfl,rfl,Ak _,fun _ _ _=>rfl,fun b o hs=>BK (hI.slt b o hs) Ew,fun r=>?_,hI.inj,fun r b hl e=>⟨BK (hI.loc r b hl e).1 Ew,.inr ⟨r,hl,e⟩⟩,fun _ _ hs=>.inl hs,hI.glob.keep hk⟩,⟨ho.1,ho.2.1,ho.2.2,Ew,fun b iO hx _=>hn b iO hx,fun r b hl e=>.inr ⟨r,hl,e⟩,fun _ _ hs=>.inl hs,⟨.refl _ _,fun _ h=>h,hk⟩⟩⟩;exact(hI.objs r).same hk (fun _ h=>h) (.refl _ _) rfl rfl rfl rfl fun b hl e=>⟨VT r b hl e,fun _ h=>h⟩
theorem Dk.put(hI:Dk w g h h g w){l:Nat}{o o' : Obj}(hl:w.heap[l]?=some o)(hd:TU o=true)(W7 : TU o'=true)(hx:n0≤l∨l=x) :
  Dk (w.putObj l o') g h h g (w.putObj l o')∧Vp n0 x w g h (w.putObj l o') g h:=by
 have Dt:l<w.heap.size:=(Bl.1 hl).1;refine hI.dullS ⟨rfl,rfl,rfl⟩ (by simp[World.putObj]) (fun b _=>?_) (fun b hb Dn=>?_)
 ·by_cases e:b=l
  ·subst e;exact .inr ⟨o,o',hl,World.putObj_heap_same Dt,hd,W7⟩
  ·exact .inl (World.putObj_heap_other e)
 ·refine World.putObj_heap_other fun e=>?_;rcases hx with h | h
  ·omega
  ·exact Dn (e.trans h)
theorem Dk.allocS(hI:Dk w g h h g w)(o:Obj)(hn:n0≤w.heap.size):Dk (w.alloc o) g h h g (w.alloc o)∧Vp n0 x w g h (w.alloc o) g h:=by
 refine hI.dullS ⟨rfl,rfl,rfl⟩ (by rw[World.size_alloc];omega) (fun b hb=>.inl (heap_alloc_old _ _ hb)) (fun b hb _=>heap_alloc_old _ _ (by omega))
end
end Go.Eng
