/- Lemmas for the claims of this seat, without a condition: part 15 (Tab, EngZG, EngZH, EngZI, EngZJ, EngZK, EngZM, EngZN, EngZO). -/
import Derived.Test.YtkmnnpmneamgoaaGreatDoorA14
import Derived.Test.YtkmnnpmneamgoaaGreatDoorProg
import Derived.Sort.Grow
import Derived.Shelf.GgSortFunc.InsertionK
import Derived.Below
import Derived.RangeFuncLeaves
import Derived.RangeFuncNested
namespace Go.Eng
open Go.Proofs
abbrev zm:TI := jE
abbrev tF:TI := ⟨.func,1,8,.nilFunc,true⟩
abbrev tI:TI := ⟨.int .i64,1,8,.int .i64 0,true⟩
abbrev tP(n:Nat):TI := ⟨.ptr n,1,8,.pointer none,true⟩
abbrev tS(n:Nat):TI := ⟨.slice n,1,24,.slice none 0 0,true⟩
def iO{α:Type}(d:α):List α → Nat → α
 | [],_ => d
 |a::r,n => match n with |0 => a |n + 1 => iO d r n
def yw:List TI := [⟨.other,1,0,(.tuple #[]),true⟩,tF,tI,tI,⟨.bool,1,1,(.bool .false),true⟩,⟨.int .u8,1,1,(.int .u8 0),true⟩,⟨.int .u8,1,1,(.int .u8 0),true⟩,⟨.struct [(2,0),(3,1),(4,2),(6,3)],4,24,(.agg #[.int .i64 0,.int .i64 0,.bool .false,.int .u8 0]),true⟩,⟨.struct [(2,0),(3,1),(4,2),(6,3)],4,24,(.agg #[.int .i64 0,.int .i64 0,.bool .false,.int .u8 0]),true⟩,⟨.string,1,16,(.string ⟨#[]⟩),true⟩,⟨.string,1,16,(.string ⟨#[]⟩),true⟩,⟨.string,1,16,(.string ⟨#[]⟩),true⟩,⟨.int .u64,1,8,(.int .u64 0),true⟩,⟨.struct [(9,0),(12,1)],2,24,(.agg #[.string ⟨#[]⟩,.int .u64 0]),false⟩,⟨.struct [(9,0),(12,1)],2,24,(.agg #[.string ⟨#[]⟩,.int .u64 0]),false⟩,tP 331]
def yx:List TI := [tP 334,tP 343,⟨.struct [(17,0)],1,8,(.agg #[.pointer none]),false⟩,⟨.struct [(17,0)],1,8,(.agg #[.pointer none]),false⟩,⟨.iface,1,16,.nilIface,true⟩,⟨.int .i32,1,4,(.int .i32 0),true⟩,tS 67,tS 349,⟨.struct [(22,0),(23,1)],2,48,(.agg #[.slice none 0 0,.slice none 0 0]),true⟩,⟨.struct [(22,0),(23,1)],2,48,(.agg #[.slice none 0 0,.slice none 0 0]),true⟩,tS 45,tF,tF,tS 39,tI,⟨.other,1,0,(.tuple #[.slice none 0 0,.int .i64 0]),true⟩]
def yy:List TI := [tF,tF,tF,tS 3,⟨.other,1,0,(.tuple #[.slice none 0 0,.int .i64 0]),true⟩,tF,tF,tS 51,⟨.other,1,0,(.tuple #[.slice none 0 0,.int .i64 0]),true⟩,tF,tS 65,tS 65,⟨.struct [(9,0),(43,1)],2,40,(.agg #[.string ⟨#[]⟩,.slice none 0 0]),true⟩,⟨.struct [(9,0),(43,1)],2,40,(.agg #[.string ⟨#[]⟩,.slice none 0 0]),true⟩,tF,tF]
def yz:List TI := [⟨.struct [(3,0),(3,1),(3,2)],3,24,(.agg #[.int .i64 0,.int .i64 0,.int .i64 0]),true⟩,⟨.struct [(3,0),(3,1),(3,2)],3,24,(.agg #[.int .i64 0,.int .i64 0,.int .i64 0]),true⟩,⟨.struct [(9,0),(49,1)],4,40,(.agg #[.string ⟨#[]⟩,.int .i64 0,.int .i64 0,.int .i64 0]),true⟩,⟨.struct [(9,0),(49,1)],4,40,(.agg #[.string ⟨#[]⟩,.int .i64 0,.int .i64 0,.int .i64 0]),true⟩,tS 9,⟨.other,1,0,(.tuple #[.slice none 0 0,.int .i64 0]),true⟩,tF,tF,tS 136,tS 151,⟨.struct [(4,0),(39,1),(56,2),(57,3)],4,80,(.agg #[.bool .false,.slice none 0 0,.slice none 0 0,.slice none 0 0]),true⟩,⟨.struct [(4,0),(39,1),(56,2),(57,3)],4,80,(.agg #[.bool .false,.slice none 0 0,.slice none 0 0,.slice none 0 0]),true⟩,⟨.other,1,0,(.tuple #[.agg #[.bool .false,.slice none 0 0,.slice none 0 0,.slice none 0 0],.int .i64 0]),true⟩,tF,tF,tF]
def yA:List TI := [⟨.struct [(3,0),(3,1)],2,16,(.agg #[.int .i64 0,.int .i64 0]),true⟩,⟨.struct [(3,0),(3,1)],2,16,(.agg #[.int .i64 0,.int .i64 0]),true⟩,⟨.struct [(9,0),(49,1),(26,4),(9,5),(9,6),(9,7),(4,8)],9,120,(.agg #[.string ⟨#[]⟩,.int .i64 0,.int .i64 0,.int .i64 0,.slice none 0 0,.string ⟨#[]⟩,.string ⟨#[]⟩,.string ⟨#[]⟩,.bool .false]),true⟩,⟨.struct [(9,0),(49,1),(26,4),(9,5),(9,6),(9,7),(4,8)],9,120,(.agg #[.string ⟨#[]⟩,.int .i64 0,.int .i64 0,.int .i64 0,.slice none 0 0,.string ⟨#[]⟩,.string ⟨#[]⟩,.string ⟨#[]⟩,.bool .false]),true⟩,tF,tF,tF,tF,tF,tP 99,tF,tF,tF,tF,tF,tF]
def yB:List TI := [tF,tS 26,tP 134,⟨.other,1,0,(.tuple #[.pointer none,.int .i64 0]),true⟩,tF,tF,tF,tF,⟨.other,1,0,(.tuple #[.int .i64 0,.int .i64 0]),true⟩,tF,⟨.other,1,0,(.tuple #[.int .i64 0,.bool .false]),true⟩,tF,⟨.map 9 96,1,8,(.map none),true⟩,⟨.map 9 43,1,8,(.map none),true⟩,tS 149,⟨.map 136 3,1,8,(.map none),true⟩]
def yC:List TI := [tS 115,tS 57,⟨.struct [(26,0),(92,1),(93,2),(56,3),(94,4),(95,5),(4,6),(96,7),(39,8),(97,9)],10,176,(.agg #[.slice none 0 0,.map none,.map none,.slice none 0 0,.slice none 0 0,.map none,.bool .false,.slice none 0 0,.slice none 0 0,.slice none 0 0]),true⟩,⟨.struct [(26,0),(92,1),(93,2),(56,3),(94,4),(95,5),(4,6),(96,7),(39,8),(97,9)],10,176,(.agg #[.slice none 0 0,.map none,.map none,.slice none 0 0,.slice none 0 0,.map none,.bool .false,.slice none 0 0,.slice none 0 0,.slice none 0 0]),true⟩,tF,tF,tF,tF,tF,⟨.other,1,0,(.tuple #[.slice none 0 0,.bool .false]),true⟩,tF,⟨.other,1,0,(.tuple #[.slice none 0 0,.int .i64 0]),true⟩,tF,tF,tF,tF]
def yD:List TI := [tF,tF,⟨.struct [(3,0),(67,1)],10,128,(.agg #[.int .i64 0,.string ⟨#[]⟩,.int .i64 0,.int .i64 0,.int .i64 0,.slice none 0 0,.string ⟨#[]⟩,.string ⟨#[]⟩,.string ⟨#[]⟩,.bool .false]),true⟩,⟨.struct [(3,0),(67,1)],10,128,(.agg #[.int .i64 0,.string ⟨#[]⟩,.int .i64 0,.int .i64 0,.int .i64 0,.slice none 0 0,.string ⟨#[]⟩,.string ⟨#[]⟩,.string ⟨#[]⟩,.bool .false]),true⟩,tF,tS 122,⟨.other,1,0,(.tuple #[.string ⟨#[]⟩,.slice none 0 0]),true⟩,tF,tF,⟨.struct [(45,0),(9,2),(3,3),(3,4)],5,72,(.agg #[.string ⟨#[]⟩,.slice none 0 0,.string ⟨#[]⟩,.int .i64 0,.int .i64 0]),true⟩,⟨.struct [(45,0),(9,2),(3,3),(3,4)],5,72,(.agg #[.string ⟨#[]⟩,.slice none 0 0,.string ⟨#[]⟩,.int .i64 0,.int .i64 0]),true⟩,tF,tF,⟨.other,1,0,(.tuple #[.agg #[.string ⟨#[]⟩,.slice none 0 0,.string ⟨#[]⟩,.int .i64 0,.int .i64 0],.bool .false]),true⟩,tF,tF]
def yE:List TI := [⟨.other,1,0,(.tuple #[.string ⟨#[]⟩,.bool .false]),true⟩,tF,tF,tF,tF,⟨.struct [(25,0),(26,2),(94,3)],4,96,(.agg #[.slice none 0 0,.slice none 0 0,.slice none 0 0,.slice none 0 0]),true⟩,⟨.struct [(25,0),(26,2),(94,3)],4,96,(.agg #[.slice none 0 0,.slice none 0 0,.slice none 0 0,.slice none 0 0]),true⟩,⟨.struct [(3,0),(9,1),(3,2),(3,3),(3,4),(3,5)],6,56,(.agg #[.int .i64 0,.string ⟨#[]⟩,.int .i64 0,.int .i64 0,.int .i64 0,.int .i64 0]),true⟩,⟨.struct [(3,0),(9,1),(3,2),(3,3),(3,4),(3,5)],6,56,(.agg #[.int .i64 0,.string ⟨#[]⟩,.int .i64 0,.int .i64 0,.int .i64 0,.int .i64 0]),true⟩,tF,tF,tF,tF,⟨.other,1,0,(.tuple #[.agg #[.string ⟨#[]⟩,.int .i64 0,.int .i64 0,.int .i64 0,.slice none 0 0,.string ⟨#[]⟩,.string ⟨#[]⟩,.string ⟨#[]⟩,.bool .false],.bool .false]),true⟩,tF,tF]
def yF:List TI := [tF,tF,tF,tF,tS 208,tS 208,⟨.struct [(9,0),(3,1),(3,2)],3,32,(.agg #[.string ⟨#[]⟩,.int .i64 0,.int .i64 0]),true⟩,⟨.struct [(9,0),(3,1),(3,2)],3,32,(.agg #[.string ⟨#[]⟩,.int .i64 0,.int .i64 0]),true⟩,tF,tF,tF,⟨.int .u64,1,8,(.int .u64 0),true⟩,⟨.map 51 67,1,8,(.map none),true⟩,⟨.map 9 22,1,8,(.map none),true⟩,⟨.struct [(156,0),(157,1)],2,16,(.agg #[.map none,.map none]),true⟩,⟨.struct [(156,0),(157,1)],2,16,(.agg #[.map none,.map none]),true⟩]
def te:List TI := [⟨.other,1,0,(.tuple #[.agg #[.map none,.map none],.int .i64 0]),true⟩,tF,⟨.other,1,0,(.tuple #[.slice none 0 0,.int .i64 0]),true⟩,tF,⟨.map 9 67,1,8,(.map none),true⟩,tF,tF,tF,⟨.map 9 4,1,8,(.map none),true⟩,tF,⟨.other,1,0,(.tuple #[.slice none 0 0,.bool .false]),true⟩,tF,tF,tF,tF,tF]
def tf:List TI := [tF,tF,tF,tF,tP 45,tF,tF,tF,tF,tF,tF,tF,tF,tF,tF,tF]
def tg:List TI := [⟨.other,1,0,(.tuple #[.agg #[.string ⟨#[]⟩,.int .i64 0,.int .i64 0,.int .i64 0],.bool .false]),true⟩,tF,tF,tF,⟨.struct [(194,0),(195,1)],2,16,(.agg #[.nilFunc,.nilFunc]),true⟩,⟨.struct [(194,0),(195,1)],2,16,(.agg #[.nilFunc,.nilFunc]),true⟩,⟨.array 4 197,8,64,(.agg #[.nilFunc,.nilFunc,.nilFunc,.nilFunc,.nilFunc,.nilFunc,.nilFunc,.nilFunc]),true⟩,tF,tF,⟨.array 3 3,3,24,(.agg #[.int .i64 0,.int .i64 0,.int .i64 0]),true⟩,tF,tF,tF,tF,tF,⟨.struct [(9,0),(4,1),(43,2)],3,48,(.agg #[.string ⟨#[]⟩,.bool .false,.slice none 0 0]),true⟩]
def th:List TI := [⟨.struct [(9,0),(4,1),(43,2)],3,48,(.agg #[.string ⟨#[]⟩,.bool .false,.slice none 0 0]),true⟩,tF,tF,⟨.other,1,0,(.tuple #[.slice none 0 0,.int .i64 0]),true⟩,tF,tF,tI,⟨.other,1,0,(.tuple #[.int .i64 0,.int .i64 0]),true⟩,tF,tF,tF,tF,tF,⟨.int .u32,1,4,(.int .u32 0),true⟩,tF,⟨.int .u64,1,8,(.int .u64 0),true⟩]
def ti:List TI := [tF,tF,tS 4,tF,tF,⟨.other,1,0,(.tuple #[.string ⟨#[]⟩,.int .i64 0,.int .i64 0]),true⟩,tF,tF,tF,tF,tF,tF,tF,tF,tF,tF]
def tj:List TI := [tF,tF,⟨.other,1,0,(.tuple #[.agg #[.string ⟨#[]⟩,.bool .false,.slice none 0 0],.slice none 0 0,.bool .false]),true⟩,tF,tF,tF,⟨.int .u64,1,8,(.int .u64 0),true⟩,tF,tF,tF,tP 3,tF,tF,tF,tF,tF]
def tn:List TI := [⟨.other,1,0,(.tuple #[.agg #[.string ⟨#[]⟩,.bool .false,.slice none 0 0],.bool .false]),true⟩,tF,tF,tS 43,tF,tF,tF,tF,tF,tF,tF,tF,tF,⟨.map 9 208,1,8,(.map none),true⟩,tF,tF]
def tp:List TI := [tF,tF,tP 246,⟨.other,1,0,(.tuple #[.int .i64 0,.int .i64 0]),true⟩,tF,tF,tF,tF,tF,tF,tF,tF,tF,tF,tF,tF]
def tq:List TI := [⟨.map 3 3,1,8,(.map none),true⟩,tF,tF,tF,tF,tF,⟨.other,1,0,(.tuple #[.int .u32 0,.int .u32 0]),true⟩,tF,tF,tF,tS 5,tF,tF,tF,tF,tF]
def tt:List TI := [tF,tF,tF,tF,tF,tF,tF,tF,tF,tF,tF,tF,tF,tF,⟨.other,1,0,(.tuple #[.int .i32 0,.int .i64 0]),true⟩,tF]
def tu:List TI := [tF,tF,tF,tF,tF,⟨.array 256 5,256,256,(.agg (([.int .u8 0,.int .u8 0,.int .u8 0,.int .u8 0,.int .u8 0,.int .u8 0,.int .u8 0,.int .u8 0,.int .u8 0,.int .u8 0,.int .u8 0,.int .u8 0,.int .u8 0,.int .u8 0,.int .u8 0,.int .u8 0,.int .u8 0,.int .u8 0,.int .u8 0,.int .u8 0,.int .u8 0,.int .u8 0,.int .u8 0,.int .u8 0,.int .u8 0,.int .u8 0,.int .u8 0,.int .u8 0,.int .u8 0,.int .u8 0,.int .u8 0,.int .u8 0,.int .u8 0,.int .u8 0,.int .u8 0,.int .u8 0,.int .u8 0,.int .u8 0,.int .u8 0,.int .u8 0,.int .u8 0,.int .u8 0,.int .u8 0,.int .u8 0,.int .u8 0,.int .u8 0,.int .u8 0,.int .u8 0,.int .u8 0,.int .u8 0,.int .u8 0,.int .u8 0,.int .u8 0,.int .u8 0,.int .u8 0,.int .u8 0,.int .u8 0,.int .u8 0,.int .u8 0,.int .u8 0,.int .u8 0,.int .u8 0,.int .u8 0,.int .u8 0].append [.int .u8 0,.int .u8 0,.int .u8 0,.int .u8 0,.int .u8 0,.int .u8 0,.int .u8 0,.int .u8 0,.int .u8 0,.int .u8 0,.int .u8 0,.int .u8 0,.int .u8 0,.int .u8 0,.int .u8 0,.int .u8 0,.int .u8 0,.int .u8 0,.int .u8 0,.int .u8 0,.int .u8 0,.int .u8 0,.int .u8 0,.int .u8 0,.int .u8 0,.int .u8 0,.int .u8 0,.int .u8 0,.int .u8 0,.int .u8 0,.int .u8 0,.int .u8 0,.int .u8 0,.int .u8 0,.int .u8 0,.int .u8 0,.int .u8 0,.int .u8 0,.int .u8 0,.int .u8 0,.int .u8 0,.int .u8 0,.int .u8 0,.int .u8 0,.int .u8 0,.int .u8 0,.int .u8 0,.int .u8 0,.int .u8 0,.int .u8 0,.int .u8 0,.int .u8 0,.int .u8 0,.int .u8 0,.int .u8 0,.int .u8 0,.int .u8 0,.int .u8 0,.int .u8 0,.int .u8 0,.int .u8 0,.int .u8 0,.int .u8 0,.int .u8 0]).append ([.int .u8 0,.int .u8 0,.int .u8 0,.int .u8 0,.int .u8 0,.int .u8 0,.int .u8 0,.int .u8 0,.int .u8 0,.int .u8 0,.int .u8 0,.int .u8 0,.int .u8 0,.int .u8 0,.int .u8 0,.int .u8 0,.int .u8 0,.int .u8 0,.int .u8 0,.int .u8 0,.int .u8 0,.int .u8 0,.int .u8 0,.int .u8 0,.int .u8 0,.int .u8 0,.int .u8 0,.int .u8 0,.int .u8 0,.int .u8 0,.int .u8 0,.int .u8 0,.int .u8 0,.int .u8 0,.int .u8 0,.int .u8 0,.int .u8 0,.int .u8 0,.int .u8 0,.int .u8 0,.int .u8 0,.int .u8 0,.int .u8 0,.int .u8 0,.int .u8 0,.int .u8 0,.int .u8 0,.int .u8 0,.int .u8 0,.int .u8 0,.int .u8 0,.int .u8 0,.int .u8 0,.int .u8 0,.int .u8 0,.int .u8 0,.int .u8 0,.int .u8 0,.int .u8 0,.int .u8 0,.int .u8 0,.int .u8 0,.int .u8 0,.int .u8 0].append [.int .u8 0,.int .u8 0,.int .u8 0,.int .u8 0,.int .u8 0,.int .u8 0,.int .u8 0,.int .u8 0,.int .u8 0,.int .u8 0,.int .u8 0,.int .u8 0,.int .u8 0,.int .u8 0,.int .u8 0,.int .u8 0,.int .u8 0,.int .u8 0,.int .u8 0,.int .u8 0,.int .u8 0,.int .u8 0,.int .u8 0,.int .u8 0,.int .u8 0,.int .u8 0,.int .u8 0,.int .u8 0,.int .u8 0,.int .u8 0,.int .u8 0,.int .u8 0,.int .u8 0,.int .u8 0,.int .u8 0,.int .u8 0,.int .u8 0,.int .u8 0,.int .u8 0,.int .u8 0,.int .u8 0,.int .u8 0,.int .u8 0,.int .u8 0,.int .u8 0,.int .u8 0,.int .u8 0,.int .u8 0,.int .u8 0,.int .u8 0,.int .u8 0,.int .u8 0,.int .u8 0,.int .u8 0,.int .u8 0,.int .u8 0,.int .u8 0,.int .u8 0,.int .u8 0,.int .u8 0,.int .u8 0,.int .u8 0,.int .u8 0,.int .u8 0])).toArray),true⟩,⟨.struct [(5,0),(5,1)],2,2,(.agg #[.int .u8 0,.int .u8 0]),true⟩,⟨.struct [(5,0),(5,1)],2,2,(.agg #[.int .u8 0,.int .u8 0]),true⟩,⟨.array 16 327,32,32,(.agg (Array.replicate 32 (.int .u8 0))),true⟩,tF,⟨.struct [(17,0),(17,1),(17,2),(9,3)],4,40,(.agg #[.pointer none,.pointer none,.pointer none,.string ⟨#[]⟩]),false⟩,⟨.struct [(17,0),(17,1),(17,2),(9,3)],4,40,(.agg #[.pointer none,.pointer none,.pointer none,.string ⟨#[]⟩]),false⟩,⟨.array 0 16,0,0,(.agg #[]),true⟩,⟨.other,0,0,(.agg #[]),false⟩,⟨.other,0,0,(.agg #[]),false⟩,tF]
def tv:List TI := [⟨.int .u8,1,1,(.int .u8 0),true⟩,⟨.int .u8,1,1,(.int .u8 0),true⟩,tF,tP 5,⟨.int .i32,1,4,(.int .i32 0),true⟩,⟨.int .i32,1,4,(.int .i32 0),true⟩,⟨.struct [(12,0),(12,1),(221,2),(336,3),(5,4),(5,5),(337,6),(338,7),(339,8),(340,9),(341,10)],11,48,(.agg #[.int .u64 0,.int .u64 0,.int .u32 0,.int .u8 0,.int .u8 0,.int .u8 0,.int .u8 0,.nilFunc,.pointer none,.int .i32 0,.int .i32 0]),false⟩,⟨.struct [(12,0),(12,1),(221,2),(336,3),(5,4),(5,5),(337,6),(338,7),(339,8),(340,9),(341,10)],11,48,(.agg #[.int .u64 0,.int .u64 0,.int .u32 0,.int .u8 0,.int .u8 0,.int .u8 0,.int .u8 0,.nilFunc,.pointer none,.int .i32 0,.int .i32 0]),false⟩,tS 357,tS 359,tS 361,tS 363,⟨.struct [(9,0),(344,1),(345,2),(346,3),(347,4)],5,112,(.agg #[.string ⟨#[]⟩,.slice none 0 0,.slice none 0 0,.slice none 0 0,.slice none 0 0]),true⟩,⟨.struct [(9,0),(344,1),(345,2),(346,3),(347,4)],5,112,(.agg #[.string ⟨#[]⟩,.slice none 0 0,.slice none 0 0,.slice none 0 0,.slice none 0 0]),true⟩,⟨.other,1,8,(.pointer none),true⟩,tS 365]
def tw:List TI := [tS 355,tS 367,⟨.struct [(3,0),(9,1),(9,2),(352,3),(353,4)],5,88,(.agg #[.int .i64 0,.string ⟨#[]⟩,.string ⟨#[]⟩,.slice none 0 0,.slice none 0 0]),true⟩,⟨.struct [(3,0),(9,1),(9,2),(352,3),(353,4)],5,88,(.agg #[.int .i64 0,.string ⟨#[]⟩,.string ⟨#[]⟩,.slice none 0 0,.slice none 0 0]),true⟩,⟨.struct [(9,0),(351,1),(355,2),(355,7)],12,216,(.agg #[.string ⟨#[]⟩,.slice none 0 0,.int .i64 0,.string ⟨#[]⟩,.string ⟨#[]⟩,.slice none 0 0,.slice none 0 0,.int .i64 0,.string ⟨#[]⟩,.string ⟨#[]⟩,.slice none 0 0,.slice none 0 0]),true⟩,⟨.struct [(9,0),(351,1),(355,2),(355,7)],12,216,(.agg #[.string ⟨#[]⟩,.slice none 0 0,.int .i64 0,.string ⟨#[]⟩,.string ⟨#[]⟩,.slice none 0 0,.slice none 0 0,.int .i64 0,.string ⟨#[]⟩,.string ⟨#[]⟩,.slice none 0 0,.slice none 0 0]),true⟩,⟨.struct [(9,0),(351,1),(355,2)],7,128,(.agg #[.string ⟨#[]⟩,.slice none 0 0,.int .i64 0,.string ⟨#[]⟩,.string ⟨#[]⟩,.slice none 0 0,.slice none 0 0]),true⟩,⟨.struct [(9,0),(351,1),(355,2)],7,128,(.agg #[.string ⟨#[]⟩,.slice none 0 0,.int .i64 0,.string ⟨#[]⟩,.string ⟨#[]⟩,.slice none 0 0,.slice none 0 0]),true⟩,⟨.struct [(9,0),(9,1),(9,2)],3,48,(.agg #[.string ⟨#[]⟩,.string ⟨#[]⟩,.string ⟨#[]⟩]),true⟩,⟨.struct [(9,0),(9,1),(9,2)],3,48,(.agg #[.string ⟨#[]⟩,.string ⟨#[]⟩,.string ⟨#[]⟩]),true⟩,⟨.struct [(9,0),(9,1)],2,32,(.agg #[.string ⟨#[]⟩,.string ⟨#[]⟩]),true⟩,⟨.struct [(9,0),(9,1)],2,32,(.agg #[.string ⟨#[]⟩,.string ⟨#[]⟩]),true⟩,⟨.struct [(9,0),(3,1),(355,2)],7,112,(.agg #[.string ⟨#[]⟩,.int .i64 0,.int .i64 0,.string ⟨#[]⟩,.string ⟨#[]⟩,.slice none 0 0,.slice none 0 0]),true⟩,⟨.struct [(9,0),(3,1),(355,2)],7,112,(.agg #[.string ⟨#[]⟩,.int .i64 0,.int .i64 0,.string ⟨#[]⟩,.string ⟨#[]⟩,.slice none 0 0,.slice none 0 0]),true⟩,⟨.struct [(9,0),(355,1),(4,6)],7,112,(.agg #[.string ⟨#[]⟩,.int .i64 0,.string ⟨#[]⟩,.string ⟨#[]⟩,.slice none 0 0,.slice none 0 0,.bool .false]),true⟩,⟨.struct [(9,0),(355,1),(4,6)],7,112,(.agg #[.string ⟨#[]⟩,.int .i64 0,.string ⟨#[]⟩,.string ⟨#[]⟩,.slice none 0 0,.slice none 0 0,.bool .false]),true⟩]
def tbl:List (List TI) := [yw,yx,yy,yz,yA,yB,yC,yD,yE,yF,te,tf,tg,th,ti,tj,tn,tp,tq,tt,tu,tv,tw]
def kc:GT := fun t => iO zm (iO [] tbl (t / 16)) (t % 16)
theorem jD:(List.range 368).map kc = (List.range 368).map (eJ Tryz.prog) := by kernel_rfl
theorem bC{α:Type}(d:α):∀(l:List α) (n:Nat),l.length ≤ n → iO d l n = d
 | [],_,_ => rfl
 |_::_,0,h => by simp at h
 |_::r,n + 1,h => bC d r n (by simpa using h)
theorem CI:Cu Tryz.prog kc := by
 intro t
 by_cases h:t<368
 ·have := Ac (fun l => l[t]?) jD
  rw[AJ,AJ,List.getElem?_range h,Gv,Gv]at this
  exact .inr (Ck this)
 ·have h1:iO ([]:List TI) tbl (t / 16) = [] := bC _ _ _ (by show 23 ≤ t / 16;omega)
  have h2:kc t = zm := by unfold kc;rw[h1];rfl
  exact .inl h2
end Go.Eng

namespace Go.Eng

section
variable {P:Program}
theorem cB {f : Nat} {fn : Func} {c : Code} (hf : P.funcs[f]? = some fn) (hn : (fn.name == "runtime.NumGoroutine") = false) (hb : fn.body = some c) : Gi P f := ⟨fn, hf, hn, by simp [hb]⟩
theorem Lx{f:Nat}{args:List AV}{res:AV}(vals:List Value)(v:Value)(hE:Gi P f)(ha:args=vals.map .v)(cX:∀g w,BK g w Fp res v)
  (h:∀w,(∃m,w.cell? ⟨gB,0,none⟩=some (.int .i64 m))→Calls P f vals.toArray w fun e w'=>e=.returned v∧w'=w):LG P f args res:=by
 refine⟨hE,fun g w us hs hv hI=>?_⟩;have hu:us=vals.toArray:=by
  subst ha;rw[Bs]at hs;refine Sf (by simpa using hs) fun i h1 h2=>?_
  have:=hv i (.v (vals[i]'(by simpa using h2))) us[i] (by rw[AJ,AE (by simpa using h2)];rfl) (by rw[Bh h1])
  rw[this.v_eq];simp
 subst hu;refine(h w hI.glob.1.2).mono ?_
 rintro e w' ⟨rfl,rfl⟩
 exact⟨v,res,Aa,g,rfl,⟨rfl,rfl⟩,(cX g _).up _,hI,.refl _ _ _⟩
theorem jl{g:Gh}{w:World}:∀(vs:List Value),BK g w Fp (.tup (vs.map .v)) (.tuple vs.toArray):=fun vs =>
 .tup _ _ _ (by simp) fun i av x h1 h2=>by
  rw[AJ,AQ]at h1;obtain⟨a,e1,rfl⟩:=h1
  have:vs[i]?=some x:=by simpa using h2
  rw[e1]at this;cases this;exact .v _ _
theorem dY{f:Nat}{args:List AV}(vals:List Value)(es:List Value)(T:TypeId)(hE:Gi P f)(ha:args=vals.map .v)(h1:∀x∈es,x.oneCell'=true)
  (h:∀w,(∃m,w.cell? ⟨gB,0,none⟩=some (.int .i64 m))→Calls P f vals.toArray w fun e w'=>e=.returned (.slice (some ⟨w.heap.size,0,none⟩) es.length es.length)∧w'=w.alloc (.cells es.toArray T)) :
  LG P f args (.slice .none (es.map fun x=>[.v x])):=by
 refine⟨hE,fun g w us hs hv hI=>?_⟩;have hu:us=vals.toArray:=by
  subst ha;rw[Bs]at hs;refine Sf (by simpa using hs) fun i h1 h2=>?_
  have:=hv i (.v (vals[i]'(by simpa using h2))) us[i] (by rw[AJ,AE (by simpa using h2)];rfl) (by rw[Bh h1])
  rw[this.v_eq];simp
 subst hu;refine(h w hI.glob.1.2).mono ?_
 rintro e w' ⟨rfl,rfl⟩
 have Fx:(w.alloc (.cells es.toArray T)).heap[w.heap.size]?=some (.cells es.toArray T (0,0)):=HM w _ rfl;have WA:∀b,b<w.heap.size→(w.alloc (.cells es.toArray T)).heap[b]?=w.heap[b]?:=fun b hb=>heap_alloc_old _ _ hb;have hK:E5 g w ⟨g.ρ,g.ln,g.tk,g.own,g.more w.heap.size es.length⟩ (w.alloc (.cells es.toArray T)):=fun b o hb=>by
  have Dy:=hI.slt b o hb;exact⟨.inl hb,by simp only[World.cell?,WA b Dy],fun es ck he=>(WA b Dy).trans he⟩
 refine⟨_,_,Aa,⟨g.ρ,g.ln,g.tk,g.own,g.more w.heap.size es.length⟩,rfl,⟨rfl,rfl⟩,?_,⟨rfl,rfl,rfl,?_,fun b hb _=>WA b hb,fun b o hs=>?_,fun _=>trivial,fun _ _ _ h=>h.elim,fun _ _ h=>h.elim,fun b o hs=>?_,hI.glob.keep hK⟩,⟨.refl _ _,fun _ h=>h,hK⟩⟩
 ·have hr:CY ⟨g.ρ,g.ln,g.tk,g.own,g.more w.heap.size es.length⟩ (w.alloc (.cells es.toArray T)) Fp (es.map fun x=>[AV.v x]).flatten (es.toArray.toList.take ((es.map fun x=>[AV.v x]).length*1)):=by
   have hfl:∀l:List Value,(l.map fun x=>[AV.v x]).flatten=l.map .v:=fun l=>by
    induction l with
    |nil=>rfl
    |cons a l ih=>rw[AN,Bu,ih];rfl
   rw[hfl];simp only[Bs,Nat.mul_one,CN];refine⟨by simp,fun x hx=>h1 x (by simpa using hx),fun i av x q1 q2=>?_⟩;rw[AJ,AQ]at q1;obtain⟨a,e1,rfl⟩:=q1;rw[e1]at q2;cases q2;exact .v _ _
  have:=BK.slice_row (U:=AM Aa) (cap:=es.length) (sz:=1) (es:=es.map fun x=>[AV.v x]) Fx (fun cs hcs=>by
   obtain⟨x,_,rfl⟩:=Ar.1 hcs;rfl) (by simp) hr (fun o ho=>.inr ⟨rfl,by simpa using ho⟩)
  simpa using this
 ·rw[World.size_alloc];omega
 ·rw[World.size_alloc];rcases hs with hs | ⟨rfl,_⟩
  ·have:=hI.slt b o hs;omega
  ·omega
 ·rcases hs with hs | ⟨rfl,_⟩
  ·exact .inl hs
  ·exact .inr (.inl (Ao _))
end
end Go.Eng

namespace Go.Eng
open Go.Sort

section
variable {P:Program}
theorem Kq(F c:Array Value)(h:F.size≤c.size):(putCells id 0 F c).toList.take F.size=F.toList∧(putCells id 0 F c).size=c.size:=by
 have hs:(putCells id 0 F c).size=c.size:=by simp[putCells]
 refine⟨?_,hs⟩;apply Dr;intro i;rw[JR,AO,AO]
 by_cases hi:i<F.size
 ·rw[Ax hi];have hi2:i<c.size:=by omega
  simp only[putCells,Array.getElem?_mapIdx,Bh hi2,Bh hi,Gv,AL,true_and,Be,hi,L5,Nat.sub_zero,id_eq];rw[DV F i hi]
 ·rw[Aq hi,Un (by omega)]
theorem NW(r:Nat)(o o' : HO):AZ (Ag [(r,o)] Aa) r o'=Ag [(r,o')] Aa:=by
 funext i
 by_cases e:i=r
 ·subst e;rw[Bg];simp[Ag]
 ·rw[B9 _ _ _ _ e];simp[Ag,Cn e]
theorem UU{f:Nat}{es:List (List AV)}{sz:Nat}{rest:List Value}{Q:List (List AV)→Prop}(hE:Gi P f)
  (h0:es=[]→Q []∧∀w,Calls P f (#[.slice none 0 0]++rest.toArray) w fun e w'=>e=.returned (.tuple #[])∧w'=w)
  (h1:∀(g:Gh) (w:World) (b cap:Nat) (F:Array Value),CY g w Fp es.flatten F.toList→F.size=es.length*sz→Holds id w b 0 F→b<w.heap.size→Calls P f (#[.slice (some ⟨b,0,none⟩) es.length cap]++rest.toArray) w fun e w' =>
   e=.returned (.tuple #[])∧∃(F' : Array Value) (ET : List (List AV)) (n:Nat) (os:Array Obj),F'.size=F.size∧Q ET∧ET.length=es.length∧(∀cs∈ET,cs.length=sz) ∧
    (∀(g:Gh) (w:World),CY g w Fp es.flatten F.toList→CY g w Fp ET.flatten F'.toList)∧w'=grow (putRow id (Sort.ahead w n) b 0 F') os) :
  Bo P f (.msl 1000 es.length::rest.map .v) (Ag [(1000,.arr sz es)] Aa) fun r h'=>r=.tup []∧∃ET,Q ET∧h'=Ag [(1000,.arr sz ET)] Aa:=by
 refine⟨hE,fun g w us hs hv hI=>?_⟩;have ho:=hI.objs 1000;have he:Ag [(1000,HO.arr sz es)] Aa 1000=.arr sz es:=rfl;rw[he]at ho;obtain⟨t1,l1,al,a2⟩:=ho;simp only[Aj,Bs]at hs
 -- the arguments
 have sC:0<us.size:=by omega
 have ZQ:=hv 0 (.msl 1000 es.length) us[0] rfl (Bh sC);have hval:us[0]=g.ρ 1000:=by
  generalize us[0]=x at ZQ;cases ZQ with
  |msl _ r n a cap hu ht hn ha hx=>exact hx l1.symm
 have KN:us=#[g.ρ 1000]++rest.toArray:=by
  refine Sf (by simp;omega) fun i h1 h2=>?_;cases i with
  |zero=>rw[hval];simp
  |succ i =>
   have hi:i<rest.length:=by omega
   have:=hv (i+1) (.v rest[i]) us[i+1] (by simp[List.getElem?_eq_getElem hi]) (Bh h1)
   rw[this.v_eq];simp
 rw[KN];rcases a2 with ⟨b1,b2,b3⟩ | ⟨b,cap,E,vs,b1,b2,b3,b4,b5,b6,b7⟩
 ·subst b1;obtain⟨q,h0⟩:=h0 rfl;rw[b2];refine(h0 w).mono ?_
  rintro e w' ⟨rfl,rfl⟩
  exact⟨_,.tup [],_,g,rfl,⟨rfl,[],q,rfl⟩,.tup _ _ _ rfl (fun i av x h=>by simp at h),hI,.refl _ _ _⟩
 ·have hl:(Ag [(1000,HO.arr sz es)] Aa 1000).live:=trivial;have Dy:=(hI.loc 1000 b hl b2).1;have HN:es.length*sz≤vs.size:=by rw[b5];exact Bi _ b3
  have hF:((vs.toList.take (es.length*sz)).toArray).size=es.length*sz:=by simp;omega
  have hH:Holds id w b 0 (vs.toList.take (es.length*sz)).toArray:=fun j hj=>by
   have hj:j<es.length*sz:=by rw[hF]at hj;exact hj
   refine⟨?_,?_⟩
   ·have oR:j<vs.size:=by omega
    simp only[World.cell?,b4,Be,Ou,Df,Gc];rw[Bh oR,DV _ j (by rw[hF];exact hj)];simp
   ·simp[World.frozen?,b4]
  rw[b1];refine(h1 g w b cap _ (by simpa using b6) hF hH Dy).mono ?_
  rintro e w' ⟨rfl,F',ET,n,os,f1,f2,f3,f4,f5,rfl⟩
  have mV : F'.size=es.length*sz:=f1.trans hF;have m8:=Kq F' vs (by omega);have jS : (grow (putRow id (Sort.ahead w n) b 0 F') os).heap[b]?=some (.cells (putCells id 0 F' vs) E (0,0)):=by
   rw[heap_grow_old _ _ (by rw[size_putRow];exact Dy)];show(w.heap.modify b (onCells (putCells id 0 F')))[b]?=_;rw[LD,Ax rfl,b4];rfl
  have oY:∀k,k<w.heap.size→k≠b→(grow (putRow id (Sort.ahead w n) b 0 F') os).heap[k]?=w.heap[k]?:=fun k hk DB=>by
   rw[heap_grow_old _ _ (by rw[size_putRow];exact hk)];simp[putRow,mapBlock,Array.getElem?_modify,Ne.symm DB]
  have En:w.heap.size≤(grow (putRow id (Sort.ahead w n) b 0 F') os).heap.size:=by rw[size_grow,size_putRow];show w.heap.size≤w.heap.size+_;omega
  obtain⟨k1,k2⟩:=hI.upd 1000 (.arr sz ET) (g.ρ 1000) (g.ln 1000) (g.tk 1000) (g.own 1000) g.S (grow (putRow id (Sort.ahead w n) b 0 F') os) (some b) ⟨rfl,rfl,rfl,En⟩
   (fun k hk DB=>oY k hk (fun e=>DB (by rw[e]))) (fun b' e=>by cases e;exact⟨hl,b2⟩) (fun _ _ h=>h) (fun _ _ h=>.inl h) (fun b' o e hs=>by cases e;exact absurd hs (b7 o))
   (fun b' _ e=>by rw[b2]at e;cases e;exact⟨BP Dy En,.inl ⟨hl,b2⟩⟩) (by simp) (fun _=>⟨rfl,Ao _,fun _=>rfl,fun _=>rfl⟩) (fun hg hk=>by
    refine⟨by simp[Gh.upd,t1],by simp[Gh.upd,l1,f3],f4,.inr ⟨b,cap,E,_,by simp[Gh.upd,b1,f3],by simp[Gh.upd,b2],by omega,jS,by rw[m8.2,b5],?_,b7⟩⟩
    have:=f5 g w (by simpa using b6)
    rw[f3,←mV,m8.1];exact this.mono hk (fun _ h=>h) (fun _ h=>h.elim))
  rw[NW]at k1 k2;exact⟨_,.tup [],_,_,rfl,⟨rfl,ET,f2,rfl⟩,.tup _ _ _ rfl (fun i av x h=>by simp at h),k1,k2⟩
end
end Go.Eng

namespace Go.Eng
open Go.Sort Go.Proofs

theorem Rp{g:Gh}{w:World}{U:Nat→Prop}{cs Zu : List AV}{vs jO : List Value}(h:vs.length=cs.length):CY g w U (cs++Zu) (vs++jO)↔CY g w U cs vs∧CY g w U Zu jO:=by
 constructor
 ·intro⟨h1,h2,h3⟩;refine⟨⟨h,fun x hx=>h2 x (Bz _ hx),fun i av x q1 q2=>?_⟩,⟨by simp at h1;omega,fun x hx=>h2 x (Bq _ hx),fun i av x q1 q2=>?_⟩⟩
  ·have a1:=(Aw.1 q1).1;have a2:=(Aw.1 q2).1;exact h3 i av x (by rw[A2 a1];exact q1) (by rw[A2 a2];exact q2)
  ·exact h3 (cs.length+i) av x (by rw[AR (by omega),G1];exact q1) (by rw[AR (by omega),h,G1];exact q2)
 ·intro⟨⟨h1,h2,h3⟩,k1,k2,k3⟩;refine⟨by simp[h1,k1],fun x hx=>(A4.1 hx).elim (h2 x) (k2 x),fun i av x q1 q2=>?_⟩
  by_cases hi:i<cs.length
  ·rw[A2 hi]at q1;rw[A2 (by omega)]at q2;exact h3 i av x q1 q2
  ·rw[AR (by omega)]at q1;rw[AR (by omega)]at q2;rw[h]at q2;exact k3 _ av x q1 q2
theorem Qr{α β:Type}{g:Gh}{w:World}{U:Nat→Prop}{IR:β→List AV}{enc:α→List Value}(hl:∀x y,(enc x).length=(IR y).length):∀ps:List (β×α),
  CY g w U (ps.map fun p=>IR p.1).flatten (ps.map fun p=>enc p.2).flatten↔∀p∈ps,CY g w U (IR p.1) (enc p.2)
 | []=>by simp[CY]
 |p::ps=>by
  simp only[AN,Bu];rw[Rp (hl _ _),Qr hl ps];simp
theorem Mz{α β:Type}{f:α→β}:∀{m m' : List β},m.Perm m'→∀ps:List α,ps.map f=m→∃jj : List α,jj.Perm ps∧jj.map f=m':=by
 intro m m' h
 induction h with
 |nil=>intro ps e;exact⟨ps,.refl _,e⟩
 |cons x h ih =>
  intro ps e;cases ps with
  |nil=>cases e
  |cons p ps =>
   rw[AN]at e
   injection e with e1 e2
   obtain⟨jj,h1,h2⟩:=ih ps e2;exact⟨p::jj,h1.cons p,by rw[AN,e1,h2]⟩
 |swap x y l =>
  intro ps e
  match ps,e with
  |p::q::ps,e =>
   simp only[AN,FL]at e;exact⟨q::p::ps,List.Perm.swap _ _ _,by simp[e.1,e.2.1,e.2.2]⟩
 |trans h1 h2 ih1 ih2 =>
  intro ps e;obtain⟨ps1,p1,p2⟩:=ih1 ps e;obtain⟨ps2,q1,q2⟩:=ih2 ps1 p2;exact⟨ps2,q1.trans p1,q2⟩
theorem S0{α:Type}[Inhabited α]{enc:α→List Value}{k:Nat}(hk:∀x,(enc x).length=k)(d:Array α):(flatK enc k d).toList=(d.toList.map enc).flatten:=by
 have hl:∀cs∈d.toList.map enc,cs.length=k:=fun cs hcs=>by
  obtain⟨x,_,rfl⟩:=Ar.1 hcs;exact hk x
 have CW:(d.toList.map enc).flatten.length=d.size*k:=by
  have:∀l:List α,(l.map enc).flatten.length=l.length*k:=fun l=>by
   induction l with
   |nil=>simp
   |cons a l ih=>simp[hk,Nat.succ_mul,ih];omega
  rw[this];simp
 apply Dr;intro t
 by_cases ht:t<d.size*k
 ·have k0:0<k:=Nat.pos_of_ne_zero fun h=>by subst h;simp at ht
  have h1:t / k<d.size:=by rw[LF k0];exact ht
  have h2:t % k<k:=Nat.mod_lt _ k0;have e:t=t / k*k+t % k:=by rw[Nat.mul_comm];exact(UR t k).symm
  rw[AO,Bh (by simpa using ht),←DV _ t (by simpa using ht),get_flatK _ _ _ _ ht];have hg:(d.toList.map enc)[t / k]?=some (enc d[t / k]!):=by
   rw[AJ,AO,Bh h1,DV d _ h1];rfl
  have:=Fv hl hg h2
  rw[e,this,←e];rw[AE (by rw[hk];exact h2),DV _ _ (by rw[hk];exact h2)]
 ·rw[A6 (by simp;omega),A6 (by omega)]
theorem bW{α β:Type}:∀{l:List α} {m:List β},l.length=m.length→(l.zip m).map (·.1)=l∧(l.zip m).map (·.2)=m
 | [],[],_=>⟨rfl,rfl⟩
 |a::l,b::m,h=>by
  have:=bW (l:=l) (m:=m) (by simpa using h)
  simp[this.1,this.2]
section
variable {P:Program}
theorem Jt{α β:Type}[Inhabited α]{f k:Nat}{rest:List Value}(hE:Gi P f)(IR:β→List AV)(enc:α→List Value)(hB:∀x,(IR x).length=k)(hk:∀x,(enc x).length=k)(lt:α→α→Bool)(R:β→α→Prop)(l:List β)(hl:l.length<4611686018427387904)
  (hR:∀x∈l,∀(g:Gh) (w:World) (vs:List Value),CY g w Fp (IR x) vs→∃a,enc a=vs∧R x a)
  (D2:∀(w:World) (b cap:Nat) (d:Array α),HoldsK enc k w b 0 d→b<w.heap.size→d.size<4611686018427387904→d.size=l.length→Calls P f (#[.slice (some ⟨b,0,none⟩) d.size cap]++rest.toArray) w fun e w' =>
   e=.returned (.tuple #[])∧∃d' n os,PermIn 0 d.size d d'∧SortedIn lt 0 d.size d'∧w'=sortWorldK enc k w b 0 n d' os)
  (sj:l=[]→∀w:World,Calls P f (#[.slice none 0 0]++rest.toArray) w fun e w'=>e=.returned (.tuple #[])∧w'=w) :
  Bo P f (.msl 1000 l.length::rest.map .v) (Ag [(1000,.arr k (l.map IR))] Aa) fun r h' =>
   r=.tup []∧∃l' : List β,l'.Perm l∧(∃al:List α,al.length=l'.length∧(∀(i:Nat) (x:β) (a:α),l'[i]?=some x→al[i]?=some a→R x a)∧al.Pairwise (fun x y=>lt y x=false))∧h'=Ag [(1000,.arr k (l'.map IR))] Aa:=by
 have IE:=UU (P:=P) (f:=f) (es:=l.map IR) (sz:=k) (rest:=rest)
  (Q:=fun ET=>∃l' : List β,l'.Perm l∧(∃al:List α,al.length=l'.length∧(∀(i:Nat) (x:β) (a:α),l'[i]?=some x→al[i]?=some a→R x a)∧al.Pairwise (fun x y=>lt y x=false))∧ET=l'.map IR) hE ?_ ?_
 ·rw[Bs]at IE;refine⟨hE,fun g w vals q1 q2 q3=>(IE.2 g w vals q1 q2 q3).mono fun _ _ ⟨v,r,h',g',e1,⟨e2,ET,⟨l',p1,p2,p3⟩,p4⟩,rest⟩=>⟨v,r,h',g',e1,⟨e2,l',p1,p2,by rw[p4,p3]⟩,rest⟩⟩
 ·intro e
  have:l=[]:=by simpa using e
  subst this;exact⟨⟨[],.refl _,⟨[],rfl,fun i x a h=>by simp at h,.nil⟩,rfl⟩,sj rfl⟩
 ·intro g w b cap F hr hF hH hb
  -- the elements in memory
  have o5:∀(m:List β) (vs:List Value),(∀x∈m,x∈l)→CY g w Fp (m.map IR).flatten vs→∃al:List α,al.length=m.length∧vs=(al.map enc).flatten∧∀(i:Nat) (x:β) (a:α),m[i]?=some x→al[i]?=some a→R x a:=by
   intro m
   induction m with
   |nil =>
    intro vs _ h
    have:vs=[]:=AK (by simpa using h.1)
    subst this;exact⟨[],rfl,rfl,fun i x a h=>by simp at h⟩
   |cons x m ih =>
    intro vs hm h;rw[AN,Bu]at h;have CW:=h.1;rw[Ad,hB]at CW;have e:vs=vs.take k++vs.drop k:=(Ek k vs).symm;rw[e]at h;rw[Rp (by rw[AG,hB];omega)]at h;obtain⟨a,a1,a2⟩:=hR x (hm x (Ab ..)) g w _ h.1;obtain⟨al,b1,b2,b3⟩:=ih _ (fun y hy=>hm y (Ai _ hy)) h.2;refine⟨a::al,by simp[b1],by rw[AN,Bu,a1,←b2,←e],fun i y c q1 q2=>?_⟩;cases i with
    |zero=>simp only[Bk,Bv]at q1 q2;subst q1;subst q2;exact a2
    |succ i=>exact b3 i y c (by simpa using q1) (by simpa using q2)
  obtain⟨al,s1,s2,s3⟩:=o5 l F.toList (fun _ h=>h) hr;have hFd:F=flatK enc k al.toArray:=LT.1 (by rw[S0 hk,s2]);have hd:HoldsK enc k w b 0 al.toArray:=by unfold HoldsK;rw[←hFd];exact hH
  have hc:=D2 w b cap al.toArray hd hb (by simpa[s1]using hl) (by simp[s1]);have En:al.toArray.size=(l.map IR).length:=by simp[s1]
  rw[En]at hc;refine hc.mono ?_
  rintro e w' ⟨rfl,d',n,os,p1,p2,rfl⟩
  obtain⟨z1,z2⟩:=bW s1.symm;obtain⟨hJ,_,J4⟩:=p1;have hJ : d'.size=al.length:=by rw[hJ];simp
  have e1:d'.extract 0 (l.map IR).length=d':=by rw[show(l.map IR).length=d'.size by rw[hJ];simp[s1]];exact Array.extract_size
  have e2:al.toArray.extract 0 (l.map IR).length=al.toArray:=by rw[←En];exact Array.extract_size
  rw[e1,e2]at J4;have J4:al.Perm d'.toList:=by
   first
   |exact J4.symm
   |exact J4
   |(have:=J4.symm;simpa using this)
  obtain⟨jj,r1,r2⟩:=Mz J4 (l.zip al) z2;have rel:∀p∈l.zip al,R p.1 p.2:=fun p hp=>by
   obtain⟨i,hi⟩:=Cj.1 hp;rw[List.getElem?_zip_eq_some]at hi;exact s3 i _ _ hi.1 hi.2
  refine⟨rfl,flatK enc k d',(jj.map (·.1)).map IR,n,os,by rw[size_flatK,hJ,hF];simp[s1],⟨jj.map (·.1),?_,⟨d'.toList,by rw[←r2];simp,fun i x a q1 q2=>?_,?_⟩,rfl⟩,by have:=r1.length_eq;simp[this,s1],fun cs hcs=>?_,fun g w hr=>?_,?_⟩
  ·have:=r1.map (·.1);rw[z1]at this;exact this
  ·rw[←r2]at q2;rw[AJ,AQ]at q1 q2;obtain⟨p,q1,rfl⟩:=q1;obtain⟨p',q2,rfl⟩:=q2;rw[q1]at q2;cases q2;exact rel p (r1.mem_iff.1 (AA q1))
  ·rw[Bm];intro i j hi hj Wy;have L4 : i<d'.size:=by simpa using hi
   have oQ : j<d'.size:=by simpa using hj
   have:=p2 i j (AL _) Wy (by rw[hJ]at oQ;simp[s1]at oQ⊢;omega)
   rw[DV d' j oQ,DV d' i L4]at this;simpa using this
  ·obtain⟨x,_,rfl⟩:=Ar.1 hcs;exact hB x
  ·have h1:CY g w Fp ((l.zip al).map fun p=>IR p.1).flatten ((l.zip al).map fun p=>enc p.2).flatten:=by
    have a1:(l.zip al).map (fun p=>IR p.1)=l.map IR:=by
     have:(l.zip al).map (fun p=>IR p.1)=((l.zip al).map (·.1)).map IR:=by rw[BY];rfl
     rw[this,z1]
    have a2:(l.zip al).map (fun p=>enc p.2)=al.map enc:=by
     have:(l.zip al).map (fun p=>enc p.2)=((l.zip al).map (·.2)).map enc:=by rw[BY];rfl
     rw[this,z2]
    rw[a1,a2,←s2];exact hr
   have CW:∀(x:α) (y:β),(enc x).length=(IR y).length:=fun x y=>by rw[hk,hB]
   rw[Qr CW]at h1;have h2:=(Qr (g:=g) (w:=w) (U:=Fp) CW jj).2 fun p hp=>h1 p (r1.mem_iff.1 hp);have b1:(jj.map (·.1)).map IR=jj.map fun p=>IR p.1:=by rw[BY];rfl
   have b2:(flatK enc k d').toList=(jj.map fun p=>enc p.2).flatten:=by
    rw[S0 hk,←r2,BY];rfl
   rw[b1,b2];exact h2
  ·rfl
end
end Go.Eng

namespace Go.Eng
section
variable {P:Program}
theorem CH{f:Nat}{fn:Func}{c:Code}{args:List AV}{H0:List (Nat×HO)}{Q:AV→(Nat→HO)→Prop}(cx:Cx)(σ:Hy)(hP:cx.P=P)(hT:Cu P cx.T)(hm:P.follows .mixedOrders=true)(hx:cx.ext=true)(hf:P.funcs[f]?=some fn)
  (hn : (fn.name == "runtime.NumGoroutine") = false) (hb : fn.body = some c) (hN : args.length ≤ fn.ntmps) (hc : DJ fn.ntmps c = true) (hσ : (Fb σ && FQ σ H0) = true)
  (hk:MK cx c (Uv cx fn.results.toList σ fun r h'=>∃r',GI r r'∧Q r' h') ⟨LZ args,Ag H0 Aa⟩) (hY:∀l σ g w,cx.yp l σ g w:=by exact fun _ _ _ _=>trivial):Bo P f args (Ag H0 Aa) Q :=
 (gp cx σ hP hT hm hx hf hn hb hN hc hσ hk hY).mono fun _ _ ⟨r',s,q⟩=>⟨r',s,q⟩
end
end Go.Eng

namespace Go.Eng
open Go.Sort
theorem CY.append{g:Gh}{w:World}{U:Nat→Prop}{Ut bs:List AV}{xs ys:List Value}(h:CY g w U Ut xs)(k:CY g w U bs ys):CY g w U (Ut++bs) (xs++ys):=by
 refine⟨by rw[Ad,Ad,h.1,k.1],fun x hx=>?_,fun i av x q1 q2=>?_⟩
 ·rcases A4.1 hx with hx | hx
  ·exact h.2.1 x hx
  ·exact k.2.1 x hx
 ·have hl:=h.1
  by_cases hi:i<Ut.length
  ·rw[A2 hi]at q1;rw[A2 (by omega)]at q2;exact h.2.2 i av x q1 q2
  ·rw[AR (by omega)]at q1;rw[AR (by omega),hl]at q2;exact k.2.2 _ av x q1 q2
theorem CY.take{g:Gh}{w:World}{U:Nat→Prop}{Ut:List AV}{xs:List Value}(h:CY g w U Ut xs)(k:Nat):CY g w U (Ut.take k) (xs.take k):=by
 refine⟨by rw[AG,AG,h.1],fun x hx=>h.2.1 x (D1 hx),fun i av x q1 q2=>?_⟩;rw[JR]at q1 q2;split at q1
 ·rename_i hi;rw[Ax hi]at q2;exact h.2.2 i av x q1 q2
 ·cases q1
theorem CY.drop{g:Gh}{w:World}{U:Nat→Prop}{Ut:List AV}{xs:List Value}(h:CY g w U Ut xs)(k:Nat):CY g w U (Ut.drop k) (xs.drop k):=by
 refine⟨by rw[B4,B4,h.1],fun x hx=>h.2.1 x (Iv hx),fun i av x q1 q2=>?_⟩;rw[DI]at q1 q2;exact h.2.2 _ av x q1 q2
theorem Jd{α:Type}{k:Nat}:∀(es:List (List α)) (i:Nat),(∀e∈es,e.length=k)→es.flatten.take (i*k)=(es.take i).flatten
 | [],i,_=>by simp
 |e::es,0,_=>by simp
 |e::es,i+1,h=>by
  have he:=h e (Ab ..);rw[Bu,I6,Bu,List.take_append,←Jd es i fun x hx=>h x (Ai _ hx),AC (by rw[he,D8];omega),he,show(i+1)*k-k=i*k by rw[D8];omega]
theorem OP{α:Type}{k:Nat}:∀(es:List (List α)) (i:Nat),(∀e∈es,e.length=k)→es.flatten.drop (i*k)=(es.drop i).flatten
 | [],i,_=>by simp
 |e::es,0,_=>by simp
 |e::es,i+1,h=>by
  have he:=h e (Ab ..);rw[Bu,List.drop_succ_cons,List.drop_append,←OP es i fun x hx=>h x (Ai _ hx),Kw (by rw[he,D8];omega),he,show(i+1)*k-k=i*k by rw[D8];omega,DL]
section
variable {P:Program}
theorem bY{f:Nat}{es:List (List AV)}{sz:Nat}{rest:List Value}{n' : Nat}{Q:List (List AV)→Prop}(hE:Gi P f)(DB:es≠[])(X7 : n'≤es.length)
  (h1:∀(g:Gh) (w:World) (b cap:Nat) (F:Array Value),CY g w Fp es.flatten F.toList→F.size=es.length*sz→Holds id w b 0 F→b<w.heap.size→es.length≤cap→Calls P f (#[.slice (some ⟨b,0,none⟩) es.length cap]++rest.toArray) w fun e w' =>
   e=.returned (.slice (some ⟨b,0,none⟩) n' cap)∧∃(F' : Array Value) (ET : List (List AV)) (n:Nat) (os:Array Obj),F'.size=F.size∧Q ET∧ET.length=es.length∧(∀cs∈ET,cs.length=sz) ∧
    (∀(g:Gh) (w:World),CY g w Fp es.flatten F.toList→CY g w Fp ET.flatten F'.toList)∧w'=grow (putRow id (Sort.ahead w n) b 0 F') os) :
  Bo P f (.msl 1000 es.length::rest.map .v) (Ag [(1000,.arr sz es)] Aa) fun r h'=>r=.msl 2000 n'∧∃ET,Q ET∧h'=Ag [(1000,.dead),(2000,.arr sz (ET.take n'))] Aa:=by
 refine⟨hE,fun g w us hs hv hI=>?_⟩;have ho:=hI.objs 1000;have he:Ag [(1000,HO.arr sz es)] Aa 1000=.arr sz es:=rfl;rw[he]at ho;obtain⟨t1,l1,al,a2⟩:=ho;simp only[Aj,Bs]at hs;have sC:0<us.size:=by omega
 have ZQ:=hv 0 (.msl 1000 es.length) us[0] rfl (Bh sC);have hval:us[0]=g.ρ 1000:=by
  generalize us[0]=x at ZQ;cases ZQ with
  |msl _ r n a cap hu ht hn ha hx=>exact hx l1.symm
 have KN:us=#[g.ρ 1000]++rest.toArray:=by
  refine Sf (by simp;omega) fun i h1 h2=>?_;cases i with
  |zero=>rw[hval];simp
  |succ i =>
   have hi:i<rest.length:=by omega
   have:=hv (i+1) (.v rest[i]) us[i+1] (by simp[List.getElem?_eq_getElem hi]) (Bh h1)
   rw[this.v_eq];simp
 rw[KN];rcases a2 with ⟨b1,b2,b3⟩ | ⟨b,cap,E,vs,b1,b2,b3,b4,b5,b6,b7⟩
 ·exact absurd b1 DB
 ·have hl:(Ag [(1000,HO.arr sz es)] Aa 1000).live:=trivial;have Dy:=(hI.loc 1000 b hl b2).1;have HN:es.length*sz≤vs.size:=by rw[b5];exact Bi _ b3
  have hF:((vs.toList.take (es.length*sz)).toArray).size=es.length*sz:=by simp;omega
  have hH:Holds id w b 0 (vs.toList.take (es.length*sz)).toArray:=fun j hj=>by
   have hj:j<es.length*sz:=by rw[hF]at hj;exact hj
   refine⟨?_,?_⟩
   ·have oR:j<vs.size:=by omega
    simp only[World.cell?,b4,Be,Ou,Df,Gc];rw[Bh oR,DV _ j (by rw[hF];exact hj)];simp
   ·simp[World.frozen?,b4]
  rw[b1];refine(h1 g w b cap _ (by simpa using b6) hF hH Dy b3).mono ?_
  rintro e w' ⟨rfl,F',ET,n,os,f1,f2,f3,f4,f5,rfl⟩
  have mV : F'.size=es.length*sz:=f1.trans hF;have m8:=Kq F' vs (by omega);have jS : (grow (putRow id (Sort.ahead w n) b 0 F') os).heap[b]?=some (.cells (putCells id 0 F' vs) E (0,0)):=by
   rw[heap_grow_old _ _ (by rw[size_putRow];exact Dy)];show(w.heap.modify b (onCells (putCells id 0 F')))[b]?=_;rw[LD,Ax rfl,b4];rfl
  have oY:∀k,k<w.heap.size→k≠b→(grow (putRow id (Sort.ahead w n) b 0 F') os).heap[k]?=w.heap[k]?:=fun k hk DB=>by
   rw[heap_grow_old _ _ (by rw[size_putRow];exact hk)];simp[putRow,mapBlock,Array.getElem?_modify,Ne.symm DB]
  have En:w.heap.size≤(grow (putRow id (Sort.ahead w n) b 0 F') os).heap.size:=by rw[size_grow,size_putRow];show w.heap.size≤w.heap.size+_;omega
  obtain⟨k1,k2⟩:=hI.upd 1000 (.arr sz ET) (g.ρ 1000) (g.ln 1000) (g.tk 1000) (g.own 1000) g.S (grow (putRow id (Sort.ahead w n) b 0 F') os) (some b) ⟨rfl,rfl,rfl,En⟩
   (fun k hk DB=>oY k hk (fun e=>DB (by rw[e]))) (fun b' e=>by cases e;exact⟨hl,b2⟩) (fun _ _ h=>h) (fun _ _ h=>.inl h) (fun b' o e hs=>by cases e;exact absurd hs (b7 o))
   (fun b' _ e=>by rw[b2]at e;cases e;exact⟨BP Dy En,.inl ⟨hl,b2⟩⟩) (by simp) (fun _=>⟨rfl,Ao _,fun _=>rfl,fun _=>rfl⟩) (fun hg hk=>by
    refine⟨by simp[Gh.upd,t1],by simp[Gh.upd,l1,f3],f4,.inr ⟨b,cap,E,_,by simp[Gh.upd,b1,f3],by simp[Gh.upd,b2],by omega,jS,by rw[m8.2,b5],?_,b7⟩⟩
    have:=f5 g w (by simpa using b6)
    rw[f3,←mV,m8.1];exact this.mono hk (fun _ h=>h) (fun _ h=>h.elim))
  rw[NW]at k1 k2;generalize X2 : g.upd 1000 (g.ρ 1000) (g.ln 1000) (g.tk 1000) (g.own 1000) g.S=g' at k1 k2;have m6 : g'.own 1000=some b:=by rw[←X2];simp[Gh.upd,b2]
  have gU:=k1.objs 1000;have eY:Ag [(1000,HO.arr sz ET)] Aa 1000=.arr sz ET:=rfl;rw[eY]at gU;obtain⟨m1,m2,m3,m4⟩:=gU;have hρ:g'.ρ 1000=.slice (some ⟨b,0,none⟩) es.length cap:=by rw[←X2];simp[Gh.upd,b1]
  have oW : ET≠[]:=fun e=>DB (AK (by rw[←f3,e];rfl));rcases m4 with ⟨m4,_⟩ | ⟨b',OC,E',jO,c1,c2,c3,c4,c5,c6,c7⟩
  ·exact absurd m4 oW
  ·rw[hρ]at c1;simp only[Value.slice.injEq,Bv,Addr.mk.injEq,Sr]at c1;obtain⟨vv,c1b,vw⟩:=c1;subst vv;subst vw;have Wz : (ET.take n').length=n':=by rw[AG];omega
   obtain⟨k3,k4⟩:=k1.move 1000 2000 (by decide) rfl trivial m6 (.arr sz (ET.take n')) (.slice (some ⟨b,0,none⟩) n' cap) n' true (by simp) (fun hk=>by
    refine⟨by simp[Gh.upd],by simp[Gh.upd,Wz],fun cs hcs=>m3 cs (D1 hcs),.inr ⟨b,cap,E',jO,by simp[Gh.upd,Wz],by simp[Gh.upd],by omega,c4,c5,?_,c7⟩⟩
    have:=(c6.mono hk (fun _ h=>h) (fun _ h=>h.elim)).take (n'*sz)
    rw[Jd ET n' m3,KA,M8 (Bi _ (by omega))]at this;rw[Wz];exact this)
   have gR:AZ (AZ (Ag [(1000,HO.arr sz ET)] Aa) 1000 .dead) 2000 (.arr sz (ET.take n'))=Ag [(1000,.dead),(2000,.arr sz (ET.take n'))] Aa:=by
    funext i
    by_cases e1:i=2000
    ·subst e1;rw[Bg];rfl
    ·rw[B9 _ _ _ _ e1]
     by_cases e2:i=1000
     ·subst e2;rw[Bg];rfl
     ·rw[B9 _ _ _ _ e2];simp[Ag,Cn e1,Cn e2]
   rw[gR]at k3 k4;exact⟨_,.msl 2000 n',_,_,rfl,⟨rfl,ET,f2,rfl⟩,.msl _ 2000 n' (some ⟨b,0,none⟩) cap (by intro c;cases c) (by simp[Gh.upd]) (by simp[Gh.upd]) (.inr ⟨b,rfl⟩) (fun _=>by simp[Gh.upd]),k3,k2.trans k4⟩
end
end Go.Eng

namespace Go.Eng

def fW(a b:FK):Bool :=
 (match a.2 with | some r=>!IU b.1 r | none=>true)&&(match b.2 with | some r=>!IU a.1 r | none=>true)
def PF(ops:Array Oper)(oi:Oper)(fi:FK)(D:List Nat)(k:Nat):List Oper→List FK→Bool
 |o::r,f::fs=>(IU D k||(oi.apart ops o&&fW fi f))&&PF ops oi fi D (k+1) r fs
 | [],[]=>true
 |_,_=>false
def Vb(ops:Array Oper)(all:List Oper)(k:Nat):List Oper→List FK→Bool
 |o::r,f::fs =>
  let D:=PN k [] 0 all
  (o.after.toList.all fun e=>!Region.binds .any e||Nat.blt e.on k)&&Uc k D 0 all&&(D.all fun j=>Nat.blt k j&&Nat.blt j all.length)&&PF ops o f D (k+1) r fs&&Vb ops all (k+1) r fs
 | [],[]=>true
 |_,_=>false
def aV(ops:Array Oper)(fs:List FK):Bool:=Region.noSelect ops&&Vb ops ops.toList 0 ops.toList fs
def Qx(f:FK):Prop:=∀r,f.2=some r→r<10000000
def Sc:List FK→Prop
 | []=>True
 |f::r=>Qx f∧Sc r
theorem A3(l:List Nat):Qx (l,none):=fun _ h=>by cases h
theorem Ei{l:List Nat}{r:Nat}(h:r<10000000):Qx (l,some r):=fun _ e=>by cases e;exact h
theorem fX{a b:FK}(ha:Qx a)(hb:Qx b)(h:fW a b=true):SL a b=true:=by
 obtain⟨a1,a2⟩:=a;obtain⟨b1,b2⟩:=b;unfold fW at h;unfold SL;rw[Af]at h⊢;refine⟨?_,?_⟩
 ·cases a2 with
  |none=>rfl
  |some r =>
   have h1:(!IU b1 r)=true:=h.1;show YI b1 r=true;unfold YI;rw[Cn (show r≠Wd by have:=ha r rfl;unfold Wd;omega),Ef,h1,show Nat.blt r 10000000=true by rw[Cp];exact ha r rfl];rfl
 ·cases b2 with
  |none=>rfl
  |some r =>
   have h1:(!IU a1 r)=true:=h.2;show YI a1 r=true;unfold YI;rw[Cn (show r≠Wd by have:=hb r rfl;unfold Wd;omega),Ef,h1,show Nat.blt r 10000000=true by rw[Cp];exact hb r rfl];rfl
theorem UW{ops:Array Oper}{oi:Oper}{fi:FK}{D:List Nat}(hi:Qx fi):∀{l:List Oper} {fs:List FK} {k:Nat},Sc fs→PF ops oi fi D k l fs=true→Iy ops oi fi D k l fs=true
 | [],[],_,_,h=>h
 |o::r,f::fs,k,hs,h=>by
  unfold PF at h;unfold Iy;rw[Af,CU,Af]at h⊢;exact⟨h.1.imp id (fun q=>⟨q.1,fX hi hs.1 q.2⟩),UW hi hs.2 h.2⟩
 | [],_::_,_,_,h=>by simp[PF]at h
 |_::_,[],_,_,h=>by simp[PF]at h
theorem Xz{ops:Array Oper}{all:List Oper}:∀{l:List Oper} {fs:List FK} {k:Nat},Sc fs→Vb ops all k l fs=true→Mh ops all k l fs=true
 | [],[],_,_,h=>h
 |o::r,f::fs,k,hs,h=>by
  unfold Vb at h;unfold Mh;simp only[Af]at h⊢;exact⟨⟨h.1.1,UW hs.1 hs.2 h.1.2⟩,Xz hs.2 h.2⟩
 | [],_::_,_,_,h=>by simp[Vb]at h
 |_::_,[],_,_,h=>by simp[Vb]at h
theorem Jb{ops:Array Oper}{fs:List FK}(hs:Sc fs)(h:aV ops fs=true):SM ops fs=true:=by
 unfold aV at h;unfold SM;rw[Af]at h⊢;exact⟨h.1,Xz hs h.2⟩

theorem QR{cx:Cx}{d:Option Nat}{h:Nat→HO}{ty e m:Nat}{r:Nat}{es es2:List (List AV)}{x:AV}{K:HK}(xA:(cx.T ty).d=.slice e)(hz:Nat.beq (cx.T e).zc.length (cx.T e).size=true)(En:(cx.T e).size=m+1)
  (hx:∀K' : List (List AV)→Prop,K' es2→Lj h x K') (hr:h r=.tok (m+1) es.length) (hl:BW (m+1) es2) (hb:(es.length+es2.length)*(cx.T e).bytes≤140737488355328) (hc:es.length+es2.length≤9223372036854775807)
  (hk:K (.slice (.id r (m+1)) (es++es2)) (AZ h r (.tok (m+1) (es.length+es2.length)))):Io cx d h ty (.slice (.id r (m+1)) es) x K:=by
 have hq:Nat.beq (m+1) (m+1)=true:=Ds _;unfold Io;rw[xA];rw[En]at hz;simp only[En,hz];refine hx _ ?_;simp only[hr,hq];exact⟨⟨hl,trivial,hb,hc⟩,hk⟩
theorem QQ{cx:Cx}{d:Nat}{h:Nat→HO}{ty e m:Nat}{es2:List (List AV)}{x:AV}{K:HK}(xA:(cx.T ty).d=.slice e)(hz:Nat.beq (cx.T e).zc.length (cx.T e).size=true)(En:(cx.T e).size=m+1)
  (hx:∀K' : List (List AV)→Prop,K' es2→Lj h x K') (hr:h (KJ cx d)=.free) (ha:EA cx.pl.arr d=none) (hl:BW (m+1) es2) (hb:es2.length*(cx.T e).bytes≤140737488355328) (hc:es2.length≤9223372036854775807)
  (hk:K (.slice (.id (KJ cx d) (m+1)) es2) (AZ h (KJ cx d) (.tok (m+1) es2.length))):Io cx (some d) h ty (.v (.slice none 0 0)) x K:=by
 unfold Io;rw[xA];rw[En]at hz;simp only[En,hz];refine hx _ ?_;refine⟨⟨En▸hl,hb,hc⟩,?_⟩;unfold EL;simp only[hr,ha];exact hk
end Go.Eng

namespace Go.Eng
open Go.RowKit
section
variable {P:Program}
end
end Go.Eng

namespace Go.Eng

def Zw:Obj→Bool
 |.cells ..=>false
 |.map ..=>false
 |.mapIter ..=>false
 |_=>true
structure UT(n0 x:Nat)(w:World)(g:Gh)(h:Nat→HO)(w' : World)(g' : Gh)(h' : Nat→HO):Prop where
 os:w'.os=w.os
 tape:w'.tape=w.tape
 output:w'.output=w.output
 size:w.heap.size≤w'.heap.size
 frame:∀b,b<n0→b≠x→(∀r,(h r).live→g.own r≠some b)→w'.heap[b]?=w.heap[b]?
 loc:∀r b,(h' r).live→g'.own r=some b→n0≤b∨∃r',(h r').live∧g.own r'=some b
 sg:∀b o,g'.S b o→g.S b o∨n0≤b∨∃r',(h r').live∧g.own r'=some b
 le:Le h g w h' g' w'
section
variable {P:Program}{N:Nat}{ds:List Deferred}{n0 x:Nat}{w w' w1 w2:World}{g g' g1 g2:Gh}{h h' h1 h2:Nat→HO}

theorem UT.trans(a:UT n0 x w g h w1 g1 h1)(b:UT n0 x w1 g1 h1 w2 g2 h2):UT n0 x w g h w2 g2 h2 where
 os:=b.os.trans a.os
 tape:=b.tape.trans a.tape
 output:=b.output.trans a.output
 size:=Bw a.size b.size
 frame c hc hx hn:=(b.frame c hc hx fun r hl e=>by
  rcases a.loc r c hl e with h | ⟨r',h1,h2⟩
  ·omega
  ·exact hn r' h1 h2).trans (a.frame c hc hx hn)
 loc r c hl e:=by
  rcases b.loc r c hl e with h | ⟨r',h1,h2⟩
  ·exact .inl h
  ·exact a.loc r' c h1 h2
 sg c o hs:=by
  rcases b.sg c o hs with h | h | ⟨r',h1,h2⟩
  ·exact a.sg c o h
  ·exact .inr (.inl h)
  ·rcases a.loc r' c h1 h2 with h | h
   ·exact .inr (.inl h)
   ·exact .inr (.inr h)
 le:=a.le.trans b.le
theorem UT.of_inv(hI:DF w g h h' g' w')(hL:Le h g w h' g' w')(hn:n0≤w.heap.size):UT n0 x w g h w' g' h' where
 os:=hI.os
 tape:=hI.tape
 output:=hI.output
 size:=hI.size
 frame c hc _ X7:=hI.frame c (by omega) X7
 loc r c hl e:=by
  rcases(hI.loc r c hl e).2 with h | h
  ·exact .inl (by omega)
  ·exact .inr h
 sg c o hs:=by
  rcases hI.sg c o hs with h | h | h
  ·exact .inl h
  ·exact .inr (.inl (by omega))
  ·exact .inr (.inr h)
 le:=hL
theorem DF.base(hI:DF w g h h' g' w'):DF w' g' h' h' g' w' where
 os:=rfl
 tape:=rfl
 output:=rfl
 size:=Ao _
 frame _ _ _:=rfl
 slt:=hI.slt
 objs:=hI.objs
 inj:=hI.inj
 loc r b hl e:=⟨(hI.loc r b hl e).1,.inr ⟨r,hl,e⟩⟩
 sg _ _ hs:=.inl hs
 glob:=hI.glob
theorem DF.of_seg(hI:DF w' g' h' h' g' w')(s:UT w.heap.size x w g h w' g' h')(hx:x<w.heap.size→w'.heap[x]?=w.heap[x]?):DF w g h h' g' w' where
 os:=s.os
 tape:=s.tape
 output:=s.output
 size:=s.size
 frame b hb hn:=by
  by_cases e:b=x
  ·subst e;exact hx hb
  ·exact s.frame b hb e hn
 slt:=hI.slt
 objs:=hI.objs
 inj:=hI.inj
 loc r b hl e:=⟨(hI.loc r b hl e).1,s.loc r b hl e⟩
 sg:=s.sg
 glob:=hI.glob
theorem IH{U:Nat→Prop}{r b:Nat}{o:HO}{ob:Obj}(ho:Ej g w U r o)(hl:o.live)(e:g.own r=some b)(hb:w.heap[b]?=some ob)(hd:Zw ob=true):False:=by
 cases o with
 |free=>exact hl
 |dead=>exact hl
 |ro cs=>exact hl
 |rom sh Cb=>exact hl
 |cells cs =>
  obtain⟨_,b',E,vs,h1,_,h3,_⟩:=ho;rw[e]at h1;cases h1;rw[hb]at h3;cases h3;cases hd
 |tok sz n =>
  obtain⟨_,_,a,cap,_,(⟨_,h1⟩ | ⟨_,b',E,vs,off,_,h1,h3,_⟩)⟩:=ho
  ·rw[e]at h1;cases h1
  ·rw[e]at h1;cases h1;rw[hb]at h3;cases h3;cases hd
 |vox v=>exact hl
 |var sz v n =>
  obtain⟨_,_,a,cap,_,(⟨_,h1⟩ | ⟨_,b',E,vs,off,_,h1,h3,_⟩)⟩:=ho
  ·rw[e]at h1;cases h1
  ·rw[e]at h1;cases h1;rw[hb]at h3;cases h3;cases hd
 |arr sz es =>
  obtain⟨_,_,_,(⟨_,_,h1⟩ | ⟨b',cap,E,vs,_,h1,_,h3,_⟩)⟩:=ho
  ·rw[e]at h1;cases h1
  ·rw[e]at h1;cases h1;rw[hb]at h3;cases h3;cases hd
 |map sh Cb =>
  obtain⟨_,b',es,ck,h1,_,h3,_⟩:=ho;rw[e]at h1;cases h1;rw[hb]at h3;cases h3;cases hd
 |mapU sh Cb =>
  obtain⟨_,b',es,ck,h1,_,h3,_⟩:=ho;rw[e]at h1;cases h1;rw[hb]at h3;cases h3;cases hd
 |iter all rem F9 =>
  obtain⟨_,b',mb,Kc,seen,st,es,ck,h1,_,h3,_⟩:=ho;rw[e]at h1;cases h1;rw[hb]at h3;cases h3;cases hd
theorem DF.dullS(hI:DF w g h h g w)(ho:w'.os=w.os∧w'.tape=w.tape∧w'.output=w.output)(En:w.heap.size≤w'.heap.size)
  (hb:∀b,b<w.heap.size→w'.heap[b]?=w.heap[b]?∨∃o o',w.heap[b]?=some o∧w'.heap[b]?=some o'∧Zw o=true∧Zw o'=true)
  (hn:∀b,b<n0→b≠x→w'.heap[b]?=w.heap[b]?):DF w' g h h g w'∧UT n0 x w g h w' g h:=by
 have hk:E5 g w g w':=fun b o hs=>by
  refine⟨hs,?_⟩;rcases hb b (hI.slt b o hs)with e | ⟨ob,dK,e1,e2,d1,d2⟩
  ·exact⟨by simp only[World.cell?,e],fun es ck he=>e.trans he⟩
  ·refine⟨?_,fun es ck he=>?_⟩
   ·simp only[World.cell?,e1,e2];cases ob<;>cases dK<;>first | rfl | (cases d1;done) | (cases d2;done)
   ·rw[e1]at he;cases he;cases d1
 have WB:∀r b,(h r).live→g.own r=some b→w'.heap[b]?=w.heap[b]?:=fun r b hl e=>by
  rcases hb b (hI.loc r b hl e).1 with e' | ⟨ob,dK,e1,_,d1,_⟩
  ·exact e'
  ·exact(IH (hI.objs r) hl e e1 d1).elim
 refine⟨⟨rfl,rfl,rfl,Ao _,fun _ _ _=>rfl,fun b o hs=>BP (hI.slt b o hs) En,fun r=>?_,hI.inj,fun r b hl e=>⟨BP (hI.loc r b hl e).1 En,.inr ⟨r,hl,e⟩⟩,fun _ _ hs=>.inl hs,hI.glob.keep hk⟩,⟨ho.1,ho.2.1,ho.2.2,En,fun b jS hx _=>hn b jS hx,fun r b hl e=>.inr ⟨r,hl,e⟩,fun _ _ hs=>.inl hs,⟨.refl _ _,fun _ h=>h,hk⟩⟩⟩;exact(hI.objs r).same hk (fun _ h=>h) (.refl _ _) rfl rfl rfl rfl fun b hl e=>⟨WB r b hl e,fun _ h=>h⟩
theorem DF.put(hI:DF w g h h g w){l:Nat}{o o' : Obj}(hl:w.heap[l]?=some o)(hd:Zw o=true)(jT : Zw o'=true)(hx:n0≤l∨l=x) :
  DF (w.putObj l o') g h h g (w.putObj l o')∧UT n0 x w g h (w.putObj l o') g h:=by
 have Dy:l<w.heap.size:=(A7.1 hl).1;refine hI.dullS ⟨rfl,rfl,rfl⟩ (by simp[World.putObj]) (fun b _=>?_) (fun b hb DB=>?_)
 ·by_cases e:b=l
  ·subst e;exact .inr ⟨o,o',hl,World.putObj_heap_same Dy,hd,jT⟩
  ·exact .inl (World.putObj_heap_other e)
 ·refine World.putObj_heap_other fun e=>?_;rcases hx with h | h
  ·omega
  ·exact DB (e.trans h)
theorem DF.allocS(hI:DF w g h h g w)(o:Obj)(hn:n0≤w.heap.size):DF (w.alloc o) g h h g (w.alloc o)∧UT n0 x w g h (w.alloc o) g h:=by
 refine hI.dullS ⟨rfl,rfl,rfl⟩ (by rw[World.size_alloc];omega) (fun b hb=>.inl (heap_alloc_old _ _ hb)) (fun b hb _=>heap_alloc_old _ _ (by omega))
end
end Go.Eng
