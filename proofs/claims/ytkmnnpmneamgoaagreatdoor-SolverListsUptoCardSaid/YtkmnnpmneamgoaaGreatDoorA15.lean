/- Lemmas for the claims of this seat, without a condition: part 15 (Tab, EngZG, EngZH, EngZI, EngZJ, EngZK, EngZM, EngZN, EngZO). -/
import Derived.Test.YtkmnnpmneamgoaaGreatDoorA14
import Derived.Test.YtkmnnpmneamgoaaGreatDoorProg
import Derived.Sort.Grow
import Derived.Shelf.GgSortFunc.InsertionK
import Derived.Below
import Derived.RangeFuncLeaves
import Derived.RangeFuncNested
namespace Go.Eng
open Go.Proofs
abbrev yH:TI := jj
abbrev tF:TI := ⟨.func,1,8,.nilFunc,true⟩
abbrev tI:TI := ⟨.int .i64,1,8,.int .i64 0,true⟩
abbrev tP(n:Nat):TI := ⟨.ptr n,1,8,.pointer none,true⟩
abbrev tS(n:Nat):TI := ⟨.slice n,1,24,.slice none 0 0,true⟩
def iq{α:Type}(d:α):List α → Nat → α
 | [],_ => d
 |a::r,n => match n with |0 => a |n + 1 => iq d r n
def xQ:List TI := [⟨.other,1,0,(.tuple #[]),true⟩,tF,tI,tI,⟨.bool,1,1,(.bool .false),true⟩,⟨.int .u8,1,1,(.int .u8 0),true⟩,⟨.int .u8,1,1,(.int .u8 0),true⟩,⟨.struct [(2,0),(3,1),(4,2),(6,3)],4,24,(.agg #[.int .i64 0,.int .i64 0,.bool .false,.int .u8 0]),true⟩,⟨.struct [(2,0),(3,1),(4,2),(6,3)],4,24,(.agg #[.int .i64 0,.int .i64 0,.bool .false,.int .u8 0]),true⟩,⟨.string,1,16,(.string ⟨#[]⟩),true⟩,⟨.string,1,16,(.string ⟨#[]⟩),true⟩,⟨.string,1,16,(.string ⟨#[]⟩),true⟩,⟨.int .u64,1,8,(.int .u64 0),true⟩,⟨.struct [(9,0),(12,1)],2,24,(.agg #[.string ⟨#[]⟩,.int .u64 0]),false⟩,⟨.struct [(9,0),(12,1)],2,24,(.agg #[.string ⟨#[]⟩,.int .u64 0]),false⟩,tP 331]
def xR:List TI := [tP 334,tP 343,⟨.struct [(17,0)],1,8,(.agg #[.pointer none]),false⟩,⟨.struct [(17,0)],1,8,(.agg #[.pointer none]),false⟩,⟨.iface,1,16,.nilIface,true⟩,⟨.int .i32,1,4,(.int .i32 0),true⟩,tS 67,tS 349,⟨.struct [(22,0),(23,1)],2,48,(.agg #[.slice none 0 0,.slice none 0 0]),true⟩,⟨.struct [(22,0),(23,1)],2,48,(.agg #[.slice none 0 0,.slice none 0 0]),true⟩,tS 45,tF,tF,tS 39,tI,⟨.other,1,0,(.tuple #[.slice none 0 0,.int .i64 0]),true⟩]
def xS:List TI := [tF,tF,tF,tS 3,⟨.other,1,0,(.tuple #[.slice none 0 0,.int .i64 0]),true⟩,tF,tF,tS 51,⟨.other,1,0,(.tuple #[.slice none 0 0,.int .i64 0]),true⟩,tF,tS 65,tS 65,⟨.struct [(9,0),(43,1)],2,40,(.agg #[.string ⟨#[]⟩,.slice none 0 0]),true⟩,⟨.struct [(9,0),(43,1)],2,40,(.agg #[.string ⟨#[]⟩,.slice none 0 0]),true⟩,tF,tF]
def xT:List TI := [⟨.struct [(3,0),(3,1),(3,2)],3,24,(.agg #[.int .i64 0,.int .i64 0,.int .i64 0]),true⟩,⟨.struct [(3,0),(3,1),(3,2)],3,24,(.agg #[.int .i64 0,.int .i64 0,.int .i64 0]),true⟩,⟨.struct [(9,0),(49,1)],4,40,(.agg #[.string ⟨#[]⟩,.int .i64 0,.int .i64 0,.int .i64 0]),true⟩,⟨.struct [(9,0),(49,1)],4,40,(.agg #[.string ⟨#[]⟩,.int .i64 0,.int .i64 0,.int .i64 0]),true⟩,tS 9,⟨.other,1,0,(.tuple #[.slice none 0 0,.int .i64 0]),true⟩,tF,tF,tS 136,tS 151,⟨.struct [(4,0),(39,1),(56,2),(57,3)],4,80,(.agg #[.bool .false,.slice none 0 0,.slice none 0 0,.slice none 0 0]),true⟩,⟨.struct [(4,0),(39,1),(56,2),(57,3)],4,80,(.agg #[.bool .false,.slice none 0 0,.slice none 0 0,.slice none 0 0]),true⟩,⟨.other,1,0,(.tuple #[.agg #[.bool .false,.slice none 0 0,.slice none 0 0,.slice none 0 0],.int .i64 0]),true⟩,tF,tF,tF]
def xU:List TI := [⟨.struct [(3,0),(3,1)],2,16,(.agg #[.int .i64 0,.int .i64 0]),true⟩,⟨.struct [(3,0),(3,1)],2,16,(.agg #[.int .i64 0,.int .i64 0]),true⟩,⟨.struct [(9,0),(49,1),(26,4),(9,5),(9,6),(9,7),(4,8)],9,120,(.agg #[.string ⟨#[]⟩,.int .i64 0,.int .i64 0,.int .i64 0,.slice none 0 0,.string ⟨#[]⟩,.string ⟨#[]⟩,.string ⟨#[]⟩,.bool .false]),true⟩,⟨.struct [(9,0),(49,1),(26,4),(9,5),(9,6),(9,7),(4,8)],9,120,(.agg #[.string ⟨#[]⟩,.int .i64 0,.int .i64 0,.int .i64 0,.slice none 0 0,.string ⟨#[]⟩,.string ⟨#[]⟩,.string ⟨#[]⟩,.bool .false]),true⟩,tF,tF,tF,tF,tF,tP 99,tF,tF,tF,tF,tF,tF]
def xV:List TI := [tF,tS 26,tP 134,⟨.other,1,0,(.tuple #[.pointer none,.int .i64 0]),true⟩,tF,tF,tF,tF,⟨.other,1,0,(.tuple #[.int .i64 0,.int .i64 0]),true⟩,tF,⟨.other,1,0,(.tuple #[.int .i64 0,.bool .false]),true⟩,tF,⟨.map 9 96,1,8,(.map none),true⟩,⟨.map 9 43,1,8,(.map none),true⟩,tS 149,⟨.map 136 3,1,8,(.map none),true⟩]
def xW:List TI := [tS 115,tS 57,⟨.struct [(26,0),(92,1),(93,2),(56,3),(94,4),(95,5),(4,6),(96,7),(39,8),(97,9)],10,176,(.agg #[.slice none 0 0,.map none,.map none,.slice none 0 0,.slice none 0 0,.map none,.bool .false,.slice none 0 0,.slice none 0 0,.slice none 0 0]),true⟩,⟨.struct [(26,0),(92,1),(93,2),(56,3),(94,4),(95,5),(4,6),(96,7),(39,8),(97,9)],10,176,(.agg #[.slice none 0 0,.map none,.map none,.slice none 0 0,.slice none 0 0,.map none,.bool .false,.slice none 0 0,.slice none 0 0,.slice none 0 0]),true⟩,tF,tF,tF,tF,tF,⟨.other,1,0,(.tuple #[.slice none 0 0,.bool .false]),true⟩,tF,⟨.other,1,0,(.tuple #[.slice none 0 0,.int .i64 0]),true⟩,tF,tF,tF,tF]
def xX:List TI := [tF,tF,⟨.struct [(3,0),(67,1)],10,128,(.agg #[.int .i64 0,.string ⟨#[]⟩,.int .i64 0,.int .i64 0,.int .i64 0,.slice none 0 0,.string ⟨#[]⟩,.string ⟨#[]⟩,.string ⟨#[]⟩,.bool .false]),true⟩,⟨.struct [(3,0),(67,1)],10,128,(.agg #[.int .i64 0,.string ⟨#[]⟩,.int .i64 0,.int .i64 0,.int .i64 0,.slice none 0 0,.string ⟨#[]⟩,.string ⟨#[]⟩,.string ⟨#[]⟩,.bool .false]),true⟩,tF,tS 122,⟨.other,1,0,(.tuple #[.string ⟨#[]⟩,.slice none 0 0]),true⟩,tF,tF,⟨.struct [(45,0),(9,2),(3,3),(3,4)],5,72,(.agg #[.string ⟨#[]⟩,.slice none 0 0,.string ⟨#[]⟩,.int .i64 0,.int .i64 0]),true⟩,⟨.struct [(45,0),(9,2),(3,3),(3,4)],5,72,(.agg #[.string ⟨#[]⟩,.slice none 0 0,.string ⟨#[]⟩,.int .i64 0,.int .i64 0]),true⟩,tF,tF,⟨.other,1,0,(.tuple #[.agg #[.string ⟨#[]⟩,.slice none 0 0,.string ⟨#[]⟩,.int .i64 0,.int .i64 0],.bool .false]),true⟩,tF,tF]
def xY:List TI := [⟨.other,1,0,(.tuple #[.string ⟨#[]⟩,.bool .false]),true⟩,tF,tF,tF,tF,⟨.struct [(25,0),(26,2),(94,3)],4,96,(.agg #[.slice none 0 0,.slice none 0 0,.slice none 0 0,.slice none 0 0]),true⟩,⟨.struct [(25,0),(26,2),(94,3)],4,96,(.agg #[.slice none 0 0,.slice none 0 0,.slice none 0 0,.slice none 0 0]),true⟩,⟨.struct [(3,0),(9,1),(3,2),(3,3),(3,4),(3,5)],6,56,(.agg #[.int .i64 0,.string ⟨#[]⟩,.int .i64 0,.int .i64 0,.int .i64 0,.int .i64 0]),true⟩,⟨.struct [(3,0),(9,1),(3,2),(3,3),(3,4),(3,5)],6,56,(.agg #[.int .i64 0,.string ⟨#[]⟩,.int .i64 0,.int .i64 0,.int .i64 0,.int .i64 0]),true⟩,tF,tF,tF,tF,⟨.other,1,0,(.tuple #[.agg #[.string ⟨#[]⟩,.int .i64 0,.int .i64 0,.int .i64 0,.slice none 0 0,.string ⟨#[]⟩,.string ⟨#[]⟩,.string ⟨#[]⟩,.bool .false],.bool .false]),true⟩,tF,tF]
def xZ:List TI := [tF,tF,tF,tF,tS 208,tS 208,⟨.struct [(9,0),(3,1),(3,2)],3,32,(.agg #[.string ⟨#[]⟩,.int .i64 0,.int .i64 0]),true⟩,⟨.struct [(9,0),(3,1),(3,2)],3,32,(.agg #[.string ⟨#[]⟩,.int .i64 0,.int .i64 0]),true⟩,tF,tF,tF,⟨.int .u64,1,8,(.int .u64 0),true⟩,⟨.map 51 67,1,8,(.map none),true⟩,⟨.map 9 22,1,8,(.map none),true⟩,⟨.struct [(156,0),(157,1)],2,16,(.agg #[.map none,.map none]),true⟩,⟨.struct [(156,0),(157,1)],2,16,(.agg #[.map none,.map none]),true⟩]
def sA:List TI := [⟨.other,1,0,(.tuple #[.agg #[.map none,.map none],.int .i64 0]),true⟩,tF,⟨.other,1,0,(.tuple #[.slice none 0 0,.int .i64 0]),true⟩,tF,⟨.map 9 67,1,8,(.map none),true⟩,tF,tF,tF,⟨.map 9 4,1,8,(.map none),true⟩,tF,⟨.other,1,0,(.tuple #[.slice none 0 0,.bool .false]),true⟩,tF,tF,tF,tF,tF]
def sC:List TI := [tF,tF,tF,tF,tP 45,tF,tF,tF,tF,tF,tF,tF,tF,tF,tF,tF]
def sD:List TI := [⟨.other,1,0,(.tuple #[.agg #[.string ⟨#[]⟩,.int .i64 0,.int .i64 0,.int .i64 0],.bool .false]),true⟩,tF,tF,tF,⟨.struct [(194,0),(195,1)],2,16,(.agg #[.nilFunc,.nilFunc]),true⟩,⟨.struct [(194,0),(195,1)],2,16,(.agg #[.nilFunc,.nilFunc]),true⟩,⟨.array 4 197,8,64,(.agg #[.nilFunc,.nilFunc,.nilFunc,.nilFunc,.nilFunc,.nilFunc,.nilFunc,.nilFunc]),true⟩,tF,tF,⟨.array 3 3,3,24,(.agg #[.int .i64 0,.int .i64 0,.int .i64 0]),true⟩,tF,tF,tF,tF,tF,⟨.struct [(9,0),(4,1),(43,2)],3,48,(.agg #[.string ⟨#[]⟩,.bool .false,.slice none 0 0]),true⟩]
def sE:List TI := [⟨.struct [(9,0),(4,1),(43,2)],3,48,(.agg #[.string ⟨#[]⟩,.bool .false,.slice none 0 0]),true⟩,tF,tF,⟨.other,1,0,(.tuple #[.slice none 0 0,.int .i64 0]),true⟩,tF,tF,tI,⟨.other,1,0,(.tuple #[.int .i64 0,.int .i64 0]),true⟩,tF,tF,tF,tF,tF,⟨.int .u32,1,4,(.int .u32 0),true⟩,tF,⟨.int .u64,1,8,(.int .u64 0),true⟩]
def sF:List TI := [tF,tF,tS 4,tF,tF,⟨.other,1,0,(.tuple #[.string ⟨#[]⟩,.int .i64 0,.int .i64 0]),true⟩,tF,tF,tF,tF,tF,tF,tF,tF,tF,tF]
def sG:List TI := [tF,tF,⟨.other,1,0,(.tuple #[.agg #[.string ⟨#[]⟩,.bool .false,.slice none 0 0],.slice none 0 0,.bool .false]),true⟩,tF,tF,tF,⟨.int .u64,1,8,(.int .u64 0),true⟩,tF,tF,tF,tP 3,tF,tF,tF,tF,tF]
def sH:List TI := [⟨.other,1,0,(.tuple #[.agg #[.string ⟨#[]⟩,.bool .false,.slice none 0 0],.bool .false]),true⟩,tF,tF,tS 43,tF,tF,tF,tF,tF,tF,tF,tF,tF,⟨.map 9 208,1,8,(.map none),true⟩,tF,tF]
def sI:List TI := [tF,tF,tP 246,⟨.other,1,0,(.tuple #[.int .i64 0,.int .i64 0]),true⟩,tF,tF,tF,tF,tF,tF,tF,tF,tF,tF,tF,tF]
def sJ:List TI := [⟨.map 3 3,1,8,(.map none),true⟩,tF,tF,tF,tF,tF,⟨.other,1,0,(.tuple #[.int .u32 0,.int .u32 0]),true⟩,tF,tF,tF,tS 5,tF,tF,tF,tF,tF]
def sK:List TI := [tF,tF,tF,tF,tF,tF,tF,tF,tF,tF,tF,tF,tF,tF,⟨.other,1,0,(.tuple #[.int .i32 0,.int .i64 0]),true⟩,tF]
def sL:List TI := [tF,tF,tF,tF,tF,⟨.array 256 5,256,256,(.agg (([.int .u8 0,.int .u8 0,.int .u8 0,.int .u8 0,.int .u8 0,.int .u8 0,.int .u8 0,.int .u8 0,.int .u8 0,.int .u8 0,.int .u8 0,.int .u8 0,.int .u8 0,.int .u8 0,.int .u8 0,.int .u8 0,.int .u8 0,.int .u8 0,.int .u8 0,.int .u8 0,.int .u8 0,.int .u8 0,.int .u8 0,.int .u8 0,.int .u8 0,.int .u8 0,.int .u8 0,.int .u8 0,.int .u8 0,.int .u8 0,.int .u8 0,.int .u8 0,.int .u8 0,.int .u8 0,.int .u8 0,.int .u8 0,.int .u8 0,.int .u8 0,.int .u8 0,.int .u8 0,.int .u8 0,.int .u8 0,.int .u8 0,.int .u8 0,.int .u8 0,.int .u8 0,.int .u8 0,.int .u8 0,.int .u8 0,.int .u8 0,.int .u8 0,.int .u8 0,.int .u8 0,.int .u8 0,.int .u8 0,.int .u8 0,.int .u8 0,.int .u8 0,.int .u8 0,.int .u8 0,.int .u8 0,.int .u8 0,.int .u8 0,.int .u8 0].append [.int .u8 0,.int .u8 0,.int .u8 0,.int .u8 0,.int .u8 0,.int .u8 0,.int .u8 0,.int .u8 0,.int .u8 0,.int .u8 0,.int .u8 0,.int .u8 0,.int .u8 0,.int .u8 0,.int .u8 0,.int .u8 0,.int .u8 0,.int .u8 0,.int .u8 0,.int .u8 0,.int .u8 0,.int .u8 0,.int .u8 0,.int .u8 0,.int .u8 0,.int .u8 0,.int .u8 0,.int .u8 0,.int .u8 0,.int .u8 0,.int .u8 0,.int .u8 0,.int .u8 0,.int .u8 0,.int .u8 0,.int .u8 0,.int .u8 0,.int .u8 0,.int .u8 0,.int .u8 0,.int .u8 0,.int .u8 0,.int .u8 0,.int .u8 0,.int .u8 0,.int .u8 0,.int .u8 0,.int .u8 0,.int .u8 0,.int .u8 0,.int .u8 0,.int .u8 0,.int .u8 0,.int .u8 0,.int .u8 0,.int .u8 0,.int .u8 0,.int .u8 0,.int .u8 0,.int .u8 0,.int .u8 0,.int .u8 0,.int .u8 0,.int .u8 0]).append ([.int .u8 0,.int .u8 0,.int .u8 0,.int .u8 0,.int .u8 0,.int .u8 0,.int .u8 0,.int .u8 0,.int .u8 0,.int .u8 0,.int .u8 0,.int .u8 0,.int .u8 0,.int .u8 0,.int .u8 0,.int .u8 0,.int .u8 0,.int .u8 0,.int .u8 0,.int .u8 0,.int .u8 0,.int .u8 0,.int .u8 0,.int .u8 0,.int .u8 0,.int .u8 0,.int .u8 0,.int .u8 0,.int .u8 0,.int .u8 0,.int .u8 0,.int .u8 0,.int .u8 0,.int .u8 0,.int .u8 0,.int .u8 0,.int .u8 0,.int .u8 0,.int .u8 0,.int .u8 0,.int .u8 0,.int .u8 0,.int .u8 0,.int .u8 0,.int .u8 0,.int .u8 0,.int .u8 0,.int .u8 0,.int .u8 0,.int .u8 0,.int .u8 0,.int .u8 0,.int .u8 0,.int .u8 0,.int .u8 0,.int .u8 0,.int .u8 0,.int .u8 0,.int .u8 0,.int .u8 0,.int .u8 0,.int .u8 0,.int .u8 0,.int .u8 0].append [.int .u8 0,.int .u8 0,.int .u8 0,.int .u8 0,.int .u8 0,.int .u8 0,.int .u8 0,.int .u8 0,.int .u8 0,.int .u8 0,.int .u8 0,.int .u8 0,.int .u8 0,.int .u8 0,.int .u8 0,.int .u8 0,.int .u8 0,.int .u8 0,.int .u8 0,.int .u8 0,.int .u8 0,.int .u8 0,.int .u8 0,.int .u8 0,.int .u8 0,.int .u8 0,.int .u8 0,.int .u8 0,.int .u8 0,.int .u8 0,.int .u8 0,.int .u8 0,.int .u8 0,.int .u8 0,.int .u8 0,.int .u8 0,.int .u8 0,.int .u8 0,.int .u8 0,.int .u8 0,.int .u8 0,.int .u8 0,.int .u8 0,.int .u8 0,.int .u8 0,.int .u8 0,.int .u8 0,.int .u8 0,.int .u8 0,.int .u8 0,.int .u8 0,.int .u8 0,.int .u8 0,.int .u8 0,.int .u8 0,.int .u8 0,.int .u8 0,.int .u8 0,.int .u8 0,.int .u8 0,.int .u8 0,.int .u8 0,.int .u8 0,.int .u8 0])).toArray),true⟩,⟨.struct [(5,0),(5,1)],2,2,(.agg #[.int .u8 0,.int .u8 0]),true⟩,⟨.struct [(5,0),(5,1)],2,2,(.agg #[.int .u8 0,.int .u8 0]),true⟩,⟨.array 16 327,32,32,(.agg (Array.replicate 32 (.int .u8 0))),true⟩,tF,⟨.struct [(17,0),(17,1),(17,2),(9,3)],4,40,(.agg #[.pointer none,.pointer none,.pointer none,.string ⟨#[]⟩]),false⟩,⟨.struct [(17,0),(17,1),(17,2),(9,3)],4,40,(.agg #[.pointer none,.pointer none,.pointer none,.string ⟨#[]⟩]),false⟩,⟨.array 0 16,0,0,(.agg #[]),true⟩,⟨.other,0,0,(.agg #[]),false⟩,⟨.other,0,0,(.agg #[]),false⟩,tF]
def sM:List TI := [⟨.int .u8,1,1,(.int .u8 0),true⟩,⟨.int .u8,1,1,(.int .u8 0),true⟩,tF,tP 5,⟨.int .i32,1,4,(.int .i32 0),true⟩,⟨.int .i32,1,4,(.int .i32 0),true⟩,⟨.struct [(12,0),(12,1),(221,2),(336,3),(5,4),(5,5),(337,6),(338,7),(339,8),(340,9),(341,10)],11,48,(.agg #[.int .u64 0,.int .u64 0,.int .u32 0,.int .u8 0,.int .u8 0,.int .u8 0,.int .u8 0,.nilFunc,.pointer none,.int .i32 0,.int .i32 0]),false⟩,⟨.struct [(12,0),(12,1),(221,2),(336,3),(5,4),(5,5),(337,6),(338,7),(339,8),(340,9),(341,10)],11,48,(.agg #[.int .u64 0,.int .u64 0,.int .u32 0,.int .u8 0,.int .u8 0,.int .u8 0,.int .u8 0,.nilFunc,.pointer none,.int .i32 0,.int .i32 0]),false⟩,tS 357,tS 359,tS 361,tS 363,⟨.struct [(9,0),(344,1),(345,2),(346,3),(347,4)],5,112,(.agg #[.string ⟨#[]⟩,.slice none 0 0,.slice none 0 0,.slice none 0 0,.slice none 0 0]),true⟩,⟨.struct [(9,0),(344,1),(345,2),(346,3),(347,4)],5,112,(.agg #[.string ⟨#[]⟩,.slice none 0 0,.slice none 0 0,.slice none 0 0,.slice none 0 0]),true⟩,⟨.other,1,8,(.pointer none),true⟩,tS 365]
def sN:List TI := [tS 355,tS 367,⟨.struct [(3,0),(9,1),(9,2),(352,3),(353,4)],5,88,(.agg #[.int .i64 0,.string ⟨#[]⟩,.string ⟨#[]⟩,.slice none 0 0,.slice none 0 0]),true⟩,⟨.struct [(3,0),(9,1),(9,2),(352,3),(353,4)],5,88,(.agg #[.int .i64 0,.string ⟨#[]⟩,.string ⟨#[]⟩,.slice none 0 0,.slice none 0 0]),true⟩,⟨.struct [(9,0),(351,1),(355,2),(355,7)],12,216,(.agg #[.string ⟨#[]⟩,.slice none 0 0,.int .i64 0,.string ⟨#[]⟩,.string ⟨#[]⟩,.slice none 0 0,.slice none 0 0,.int .i64 0,.string ⟨#[]⟩,.string ⟨#[]⟩,.slice none 0 0,.slice none 0 0]),true⟩,⟨.struct [(9,0),(351,1),(355,2),(355,7)],12,216,(.agg #[.string ⟨#[]⟩,.slice none 0 0,.int .i64 0,.string ⟨#[]⟩,.string ⟨#[]⟩,.slice none 0 0,.slice none 0 0,.int .i64 0,.string ⟨#[]⟩,.string ⟨#[]⟩,.slice none 0 0,.slice none 0 0]),true⟩,⟨.struct [(9,0),(351,1),(355,2)],7,128,(.agg #[.string ⟨#[]⟩,.slice none 0 0,.int .i64 0,.string ⟨#[]⟩,.string ⟨#[]⟩,.slice none 0 0,.slice none 0 0]),true⟩,⟨.struct [(9,0),(351,1),(355,2)],7,128,(.agg #[.string ⟨#[]⟩,.slice none 0 0,.int .i64 0,.string ⟨#[]⟩,.string ⟨#[]⟩,.slice none 0 0,.slice none 0 0]),true⟩,⟨.struct [(9,0),(9,1),(9,2)],3,48,(.agg #[.string ⟨#[]⟩,.string ⟨#[]⟩,.string ⟨#[]⟩]),true⟩,⟨.struct [(9,0),(9,1),(9,2)],3,48,(.agg #[.string ⟨#[]⟩,.string ⟨#[]⟩,.string ⟨#[]⟩]),true⟩,⟨.struct [(9,0),(9,1)],2,32,(.agg #[.string ⟨#[]⟩,.string ⟨#[]⟩]),true⟩,⟨.struct [(9,0),(9,1)],2,32,(.agg #[.string ⟨#[]⟩,.string ⟨#[]⟩]),true⟩,⟨.struct [(9,0),(3,1),(355,2)],7,112,(.agg #[.string ⟨#[]⟩,.int .i64 0,.int .i64 0,.string ⟨#[]⟩,.string ⟨#[]⟩,.slice none 0 0,.slice none 0 0]),true⟩,⟨.struct [(9,0),(3,1),(355,2)],7,112,(.agg #[.string ⟨#[]⟩,.int .i64 0,.int .i64 0,.string ⟨#[]⟩,.string ⟨#[]⟩,.slice none 0 0,.slice none 0 0]),true⟩,⟨.struct [(9,0),(355,1),(4,6)],7,112,(.agg #[.string ⟨#[]⟩,.int .i64 0,.string ⟨#[]⟩,.string ⟨#[]⟩,.slice none 0 0,.slice none 0 0,.bool .false]),true⟩,⟨.struct [(9,0),(355,1),(4,6)],7,112,(.agg #[.string ⟨#[]⟩,.int .i64 0,.string ⟨#[]⟩,.string ⟨#[]⟩,.slice none 0 0,.slice none 0 0,.bool .false]),true⟩]
def zV:List (List TI) := [xQ,xR,xS,xT,xU,xV,xW,xX,xY,xZ,sA,sC,sD,sE,sF,sG,sH,sI,sJ,sK,sL,sM,sN]
def jI:GQ := fun t => iq yH (iq [] zV (t / 16)) (t % 16)
theorem ji:(List.range 368).map jI = (List.range 368).map (dP Tryz.prog) := by kernel_rfl
theorem aV{α:Type}(d:α):∀(l:List α) (n:Nat),l.length ≤ n → iq d l n = d
 | [],_,_ => rfl
 |_::_,0,h => by simp at h
 |_::r,n + 1,h => aV d r n (by simpa using h)
theorem CG:Cu Tryz.prog jI := by
 intro t
 by_cases h:t<368
 ·have := Ac (fun l => l[t]?) ji
  rw[AI,AI,List.getElem?_range h,Gq,Gq]at this
  exact .inr (Ch this)
 ·have h1:iq ([]:List TI) zV (t / 16) = [] := aV _ _ _ (by show 23 ≤ t / 16;omega)
  have h2:jI t = yH := by unfold jI;rw[h1];rfl
  exact .inl h2
end Go.Eng

namespace Go.Eng

section
variable {P:Program}
theorem bT {f : Nat} {fn : Func} {c : Code} (hf : P.funcs[f]? = some fn) (hn : (fn.name == "runtime.NumGoroutine") = false) (hb : fn.body = some c) : Gd P f := ⟨fn, hf, hn, by simp [hb]⟩
theorem Lq{f:Nat}{args:List AV}{res:AV}(vals:List Value)(v:Value)(hE:Gd P f)(ha:args=vals.map .v)(cq:∀g w,BI g w Fj res v)
  (h:∀w,(∃m,w.cell? ⟨gB,0,none⟩=some (.int .i64 m))→Calls P f vals.toArray w fun e w'=>e=.returned v∧w'=w):LA P f args res:=by
 refine⟨hE,fun g w us hs hv hI=>?_⟩;have hu:us=vals.toArray:=by
  subst ha;rw[Bx]at hs;refine RP (by simpa using hs) fun i h1 h2=>?_
  have:=hv i (.v (vals[i]'(by simpa using h2))) us[i] (by rw[AI,AD (by simpa using h2)];rfl) (by rw[Be h1])
  rw[this.v_eq];simp
 subst hu;refine(h w hI.glob.1.2).mono ?_
 rintro e w' ⟨rfl,rfl⟩
 exact⟨v,res,Aa,g,rfl,⟨rfl,rfl⟩,(cq g _).up _,hI,.refl _ _ _⟩
theorem iT{g:Gh}{w:World}:∀(vs:List Value),BI g w Fj (.tup (vs.map .v)) (.tuple vs.toArray):=fun vs =>
 .tup _ _ _ (by simp) fun i av x h1 h2=>by
  rw[AI,AQ]at h1;obtain⟨a,e1,rfl⟩:=h1
  have:vs[i]?=some x:=by simpa using h2
  rw[e1]at this;cases this;exact .v _ _
theorem du{f:Nat}{args:List AV}(vals:List Value)(es:List Value)(T:TypeId)(hE:Gd P f)(ha:args=vals.map .v)(h1:∀x∈es,x.oneCell'=true)
  (h:∀w,(∃m,w.cell? ⟨gB,0,none⟩=some (.int .i64 m))→Calls P f vals.toArray w fun e w'=>e=.returned (.slice (some ⟨w.heap.size,0,none⟩) es.length es.length)∧w'=w.alloc (.cells es.toArray T)) :
  LA P f args (.slice .none (es.map fun x=>[.v x])):=by
 refine⟨hE,fun g w us hs hv hI=>?_⟩;have hu:us=vals.toArray:=by
  subst ha;rw[Bx]at hs;refine RP (by simpa using hs) fun i h1 h2=>?_
  have:=hv i (.v (vals[i]'(by simpa using h2))) us[i] (by rw[AI,AD (by simpa using h2)];rfl) (by rw[Be h1])
  rw[this.v_eq];simp
 subst hu;refine(h w hI.glob.1.2).mono ?_
 rintro e w' ⟨rfl,rfl⟩
 have Fr:(w.alloc (.cells es.toArray T)).heap[w.heap.size]?=some (.cells es.toArray T (0,0)):=HF w _ rfl;have Wh:∀b,b<w.heap.size→(w.alloc (.cells es.toArray T)).heap[b]?=w.heap[b]?:=fun b hb=>heap_alloc_old _ _ hb;have hK:E0 g w ⟨g.ρ,g.ln,g.tk,g.own,g.more w.heap.size es.length⟩ (w.alloc (.cells es.toArray T)):=fun b o hb=>by
  have Dz:=hI.slt b o hb;exact⟨.inl hb,by simp only[World.cell?,Wh b Dz],fun es ck he=>(Wh b Dz).trans he⟩
 refine⟨_,_,Aa,⟨g.ρ,g.ln,g.tk,g.own,g.more w.heap.size es.length⟩,rfl,⟨rfl,rfl⟩,?_,⟨rfl,rfl,rfl,?_,fun b hb _=>Wh b hb,fun b o hs=>?_,fun _=>trivial,fun _ _ _ h=>h.elim,fun _ _ h=>h.elim,fun b o hs=>?_,hI.glob.keep hK⟩,⟨.refl _ _,fun _ h=>h,hK⟩⟩
 ·have hr:CT ⟨g.ρ,g.ln,g.tk,g.own,g.more w.heap.size es.length⟩ (w.alloc (.cells es.toArray T)) Fj (es.map fun x=>[AV.v x]).flatten (es.toArray.toList.take ((es.map fun x=>[AV.v x]).length*1)):=by
   have hfl:∀l:List Value,(l.map fun x=>[AV.v x]).flatten=l.map .v:=fun l=>by
    induction l with
    |nil=>rfl
    |cons a l ih=>rw[AN,Bq,ih];rfl
   rw[hfl];simp only[Bx,Nat.mul_one,Do];refine⟨by simp,fun x hx=>h1 x (by simpa using hx),fun i av x q1 q2=>?_⟩;rw[AI,AQ]at q1;obtain⟨a,e1,rfl⟩:=q1;rw[e1]at q2;cases q2;exact .v _ _
  have:=BI.slice_row (U:=AM Aa) (cap:=es.length) (sz:=1) (es:=es.map fun x=>[AV.v x]) Fr (fun cs hcs=>by
   obtain⟨x,_,rfl⟩:=Aq.1 hcs;rfl) (by simp) hr (fun o ho=>.inr ⟨rfl,by simpa using ho⟩)
  simpa using this
 ·rw[World.size_alloc];omega
 ·rw[World.size_alloc];rcases hs with hs | ⟨rfl,_⟩
  ·have:=hI.slt b o hs;omega
  ·omega
 ·rcases hs with hs | ⟨rfl,_⟩
  ·exact .inl hs
  ·exact .inr (.inl (Ao _))
end
end Go.Eng

namespace Go.Eng
open Go.Sort

section
variable {P:Program}
theorem Kk(F c:Array Value)(h:F.size≤c.size):(putCells id 0 F c).toList.take F.size=F.toList∧(putCells id 0 F c).size=c.size:=by
 have hs:(putCells id 0 F c).size=c.size:=by simp[putCells]
 refine⟨?_,hs⟩;apply Dq;intro i;rw[JH,AO,AO]
 by_cases hi:i<F.size
 ·rw[AB hi];have hi2:i<c.size:=by omega
  simp only[putCells,Array.getElem?_mapIdx,Be hi2,Be hi,Gq,AL,true_and,Bc,hi,NM,Nat.sub_zero,id_eq];rw[DN F i hi]
 ·rw[Ar hi,T6 (by omega)]
theorem NJ(r:Nat)(o o' : HO):AW (Af [(r,o)] Aa) r o'=Af [(r,o')] Aa:=by
 funext i
 by_cases e:i=r
 ·subst e;rw[Bd];simp[Af]
 ·rw[B9 _ _ _ _ e];simp[Af,Ci e]
theorem UC{f:Nat}{es:List (List AV)}{sz:Nat}{rest:List Value}{Q:List (List AV)→Prop}(hE:Gd P f)
  (h0:es=[]→Q []∧∀w,Calls P f (#[.slice none 0 0]++rest.toArray) w fun e w'=>e=.returned (.tuple #[])∧w'=w)
  (h1:∀(g:Gh) (w:World) (b cap:Nat) (F:Array Value),CT g w Fj es.flatten F.toList→F.size=es.length*sz→Holds id w b 0 F→b<w.heap.size→Calls P f (#[.slice (some ⟨b,0,none⟩) es.length cap]++rest.toArray) w fun e w' =>
   e=.returned (.tuple #[])∧∃(F' : Array Value) (EM : List (List AV)) (n:Nat) (os:Array Obj),F'.size=F.size∧Q EM∧EM.length=es.length∧(∀cs∈EM,cs.length=sz) ∧
    (∀(g:Gh) (w:World),CT g w Fj es.flatten F.toList→CT g w Fj EM.flatten F'.toList)∧w'=grow (putRow id (Sort.ahead w n) b 0 F') os) :
  Bo P f (.msl 1000 es.length::rest.map .v) (Af [(1000,.arr sz es)] Aa) fun r h'=>r=.tup []∧∃EM,Q EM∧h'=Af [(1000,.arr sz EM)] Aa:=by
 refine⟨hE,fun g w us hs hv hI=>?_⟩;have ho:=hI.objs 1000;have he:Af [(1000,HO.arr sz es)] Aa 1000=.arr sz es:=rfl;rw[he]at ho;obtain⟨t1,l1,al,a2⟩:=ho;simp only[Ak,Bx]at hs
 -- the arguments
 have rW:0<us.size:=by omega
 have Wj:=hv 0 (.msl 1000 es.length) us[0] rfl (Be rW);have hval:us[0]=g.ρ 1000:=by
  generalize us[0]=x at Wj;cases Wj with
  |msl _ r n a cap hu ht hn ha hx=>exact hx l1.symm
 have KH:us=#[g.ρ 1000]++rest.toArray:=by
  refine RP (by simp;omega) fun i h1 h2=>?_;cases i with
  |zero=>rw[hval];simp
  |succ i =>
   have hi:i<rest.length:=by omega
   have:=hv (i+1) (.v rest[i]) us[i+1] (by simp[List.getElem?_eq_getElem hi]) (Be h1)
   rw[this.v_eq];simp
 rw[KH];rcases a2 with ⟨b1,b2,b3⟩ | ⟨b,cap,E,vs,b1,b2,b3,b4,b5,b6,b7⟩
 ·subst b1;obtain⟨q,h0⟩:=h0 rfl;rw[b2];refine(h0 w).mono ?_
  rintro e w' ⟨rfl,rfl⟩
  exact⟨_,.tup [],_,g,rfl,⟨rfl,[],q,rfl⟩,.tup _ _ _ rfl (fun i av x h=>by simp at h),hI,.refl _ _ _⟩
 ·have hl:(Af [(1000,HO.arr sz es)] Aa 1000).live:=trivial;have Dz:=(hI.loc 1000 b hl b2).1;have Hs:es.length*sz≤vs.size:=by rw[b5];exact Bg _ b3
  have hF:((vs.toList.take (es.length*sz)).toArray).size=es.length*sz:=by simp;omega
  have hH:Holds id w b 0 (vs.toList.take (es.length*sz)).toArray:=fun j hj=>by
   have hj:j<es.length*sz:=by rw[hF]at hj;exact hj
   refine⟨?_,?_⟩
   ·have nY:j<vs.size:=by omega
    simp only[World.cell?,b4,Bc,Og,Da,Ga];rw[Be nY,DN _ j (by rw[hF];exact hj)];simp
   ·simp[World.frozen?,b4]
  rw[b1];refine(h1 g w b cap _ (by simpa using b6) hF hH Dz).mono ?_
  rintro e w' ⟨rfl,F',EM,n,os,f1,f2,f3,f4,f5,rfl⟩
  have me : F'.size=es.length*sz:=f1.trans hF;have mp:=Kk F' vs (by omega);have jv : (grow (putRow id (Sort.ahead w n) b 0 F') os).heap[b]?=some (.cells (putCells id 0 F' vs) E (0,0)):=by
   rw[heap_grow_old _ _ (by rw[size_putRow];exact Dz)];show(w.heap.modify b (onCells (putCells id 0 F')))[b]?=_;rw[Lx,AB rfl,b4];rfl
  have n8:∀k,k<w.heap.size→k≠b→(grow (putRow id (Sort.ahead w n) b 0 F') os).heap[k]?=w.heap[k]?:=fun k hk Dy=>by
   rw[heap_grow_old _ _ (by rw[size_putRow];exact hk)];simp[putRow,mapBlock,Array.getElem?_modify,Ne.symm Dy]
  have Ed:w.heap.size≤(grow (putRow id (Sort.ahead w n) b 0 F') os).heap.size:=by rw[size_grow,size_putRow];show w.heap.size≤w.heap.size+_;omega
  obtain⟨k1,k2⟩:=hI.upd 1000 (.arr sz EM) (g.ρ 1000) (g.ln 1000) (g.tk 1000) (g.own 1000) g.S (grow (putRow id (Sort.ahead w n) b 0 F') os) (some b) ⟨rfl,rfl,rfl,Ed⟩
   (fun k hk Dy=>n8 k hk (fun e=>Dy (by rw[e]))) (fun b' e=>by cases e;exact⟨hl,b2⟩) (fun _ _ h=>h) (fun _ _ h=>.inl h) (fun b' o e hs=>by cases e;exact absurd hs (b7 o))
   (fun b' _ e=>by rw[b2]at e;cases e;exact⟨BP Dz Ed,.inl ⟨hl,b2⟩⟩) (by simp) (fun _=>⟨rfl,Ao _,fun _=>rfl,fun _=>rfl⟩) (fun hg hk=>by
    refine⟨by simp[Gh.upd,t1],by simp[Gh.upd,l1,f3],f4,.inr ⟨b,cap,E,_,by simp[Gh.upd,b1,f3],by simp[Gh.upd,b2],by omega,jv,by rw[mp.2,b5],?_,b7⟩⟩
    have:=f5 g w (by simpa using b6)
    rw[f3,←me,mp.1];exact this.mono hk (fun _ h=>h) (fun _ h=>h.elim))
  rw[NJ]at k1 k2;exact⟨_,.tup [],_,_,rfl,⟨rfl,EM,f2,rfl⟩,.tup _ _ _ rfl (fun i av x h=>by simp at h),k1,k2⟩
end
end Go.Eng

namespace Go.Eng
open Go.Sort Go.Proofs

theorem Ra{g:Gh}{w:World}{U:Nat→Prop}{cs Y4 : List AV}{vs js : List Value}(h:vs.length=cs.length):CT g w U (cs++Y4) (vs++js)↔CT g w U cs vs∧CT g w U Y4 js:=by
 constructor
 ·intro⟨h1,h2,h3⟩;refine⟨⟨h,fun x hx=>h2 x (Bz _ hx),fun i av x q1 q2=>?_⟩,⟨by simp at h1;omega,fun x hx=>h2 x (Bp _ hx),fun i av x q1 q2=>?_⟩⟩
  ·have a1:=(Aw.1 q1).1;have a2:=(Aw.1 q2).1;exact h3 i av x (by rw[AZ a1];exact q1) (by rw[AZ a2];exact q2)
  ·exact h3 (cs.length+i) av x (by rw[AR (by omega),GX];exact q1) (by rw[AR (by omega),h,GX];exact q2)
 ·intro⟨⟨h1,h2,h3⟩,k1,k2,k3⟩;refine⟨by simp[h1,k1],fun x hx=>(A5.1 hx).elim (h2 x) (k2 x),fun i av x q1 q2=>?_⟩
  by_cases hi:i<cs.length
  ·rw[AZ hi]at q1;rw[AZ (by omega)]at q2;exact h3 i av x q1 q2
  ·rw[AR (by omega)]at q1;rw[AR (by omega)]at q2;rw[h]at q2;exact k3 _ av x q1 q2
theorem Qe{α β:Type}{g:Gh}{w:World}{U:Nat→Prop}{IF:β→List AV}{enc:α→List Value}(hl:∀x y,(enc x).length=(IF y).length):∀ps:List (β×α),
  CT g w U (ps.map fun p=>IF p.1).flatten (ps.map fun p=>enc p.2).flatten↔∀p∈ps,CT g w U (IF p.1) (enc p.2)
 | []=>by simp[CT]
 |p::ps=>by
  simp only[AN,Bq];rw[Ra (hl _ _),Qe hl ps];simp
theorem Mr{α β:Type}{f:α→β}:∀{m m' : List β},m.Perm m'→∀ps:List α,ps.map f=m→∃iM : List α,iM.Perm ps∧iM.map f=m':=by
 intro m m' h
 induction h with
 |nil=>intro ps e;exact⟨ps,.refl _,e⟩
 |cons x h ih =>
  intro ps e;cases ps with
  |nil=>cases e
  |cons p ps =>
   rw[AN]at e
   injection e with e1 e2
   obtain⟨iM,h1,h2⟩:=ih ps e2;exact⟨p::iM,h1.cons p,by rw[AN,e1,h2]⟩
 |swap x y l =>
  intro ps e
  match ps,e with
  |p::q::ps,e =>
   simp only[AN,FF]at e;exact⟨q::p::ps,List.Perm.swap _ _ _,by simp[e.1,e.2.1,e.2.2]⟩
 |trans h1 h2 ih1 ih2 =>
  intro ps e;obtain⟨ps1,p1,p2⟩:=ih1 ps e;obtain⟨ps2,q1,q2⟩:=ih2 ps1 p2;exact⟨ps2,q1.trans p1,q2⟩
theorem SF{α:Type}[Inhabited α]{enc:α→List Value}{k:Nat}(hk:∀x,(enc x).length=k)(d:Array α):(flatK enc k d).toList=(d.toList.map enc).flatten:=by
 have hl:∀cs∈d.toList.map enc,cs.length=k:=fun cs hcs=>by
  obtain⟨x,_,rfl⟩:=Aq.1 hcs;exact hk x
 have CW:(d.toList.map enc).flatten.length=d.size*k:=by
  have:∀l:List α,(l.map enc).flatten.length=l.length*k:=fun l=>by
   induction l with
   |nil=>simp
   |cons a l ih=>simp[hk,Nat.succ_mul,ih];omega
  rw[this];simp
 apply Dq;intro t
 by_cases ht:t<d.size*k
 ·have k0:0<k:=Nat.pos_of_ne_zero fun h=>by subst h;simp at ht
  have h1:t / k<d.size:=by rw[Lz k0];exact ht
  have h2:t % k<k:=Nat.mod_lt _ k0;have e:t=t / k*k+t % k:=by rw[Nat.mul_comm];exact(Uz t k).symm
  rw[AO,Be (by simpa using ht),←DN _ t (by simpa using ht),get_flatK _ _ _ _ ht];have hg:(d.toList.map enc)[t / k]?=some (enc d[t / k]!):=by
   rw[AI,AO,Be h1,DN d _ h1];rfl
  have:=Fp hl hg h2
  rw[e,this,←e];rw[AD (by rw[hk];exact h2),DN _ _ (by rw[hk];exact h2)]
 ·rw[A4 (by simp;omega),A4 (by omega)]
theorem bv{α β:Type}:∀{l:List α} {m:List β},l.length=m.length→(l.zip m).map (·.1)=l∧(l.zip m).map (·.2)=m
 | [],[],_=>⟨rfl,rfl⟩
 |a::l,b::m,h=>by
  have:=bv (l:=l) (m:=m) (by simpa using h)
  simp[this.1,this.2]
section
variable {P:Program}
theorem Jm{α β:Type}[Inhabited α]{f k:Nat}{rest:List Value}(hE:Gd P f)(IF:β→List AV)(enc:α→List Value)(hB:∀x,(IF x).length=k)(hk:∀x,(enc x).length=k)(lt:α→α→Bool)(R:β→α→Prop)(l:List β)(hl:l.length<4611686018427387904)
  (hR:∀x∈l,∀(g:Gh) (w:World) (vs:List Value),CT g w Fj (IF x) vs→∃a,enc a=vs∧R x a)
  (DU:∀(w:World) (b cap:Nat) (d:Array α),HoldsK enc k w b 0 d→b<w.heap.size→d.size<4611686018427387904→d.size=l.length→Calls P f (#[.slice (some ⟨b,0,none⟩) d.size cap]++rest.toArray) w fun e w' =>
   e=.returned (.tuple #[])∧∃d' n os,PermIn 0 d.size d d'∧SortedIn lt 0 d.size d'∧w'=sortWorldK enc k w b 0 n d' os)
  (rK:l=[]→∀w:World,Calls P f (#[.slice none 0 0]++rest.toArray) w fun e w'=>e=.returned (.tuple #[])∧w'=w) :
  Bo P f (.msl 1000 l.length::rest.map .v) (Af [(1000,.arr k (l.map IF))] Aa) fun r h' =>
   r=.tup []∧∃l' : List β,l'.Perm l∧(∃al:List α,al.length=l'.length∧(∀(i:Nat) (x:β) (a:α),l'[i]?=some x→al[i]?=some a→R x a)∧al.Pairwise (fun x y=>lt y x=false))∧h'=Af [(1000,.arr k (l'.map IF))] Aa:=by
 have Iu:=UC (P:=P) (f:=f) (es:=l.map IF) (sz:=k) (rest:=rest)
  (Q:=fun EM=>∃l' : List β,l'.Perm l∧(∃al:List α,al.length=l'.length∧(∀(i:Nat) (x:β) (a:α),l'[i]?=some x→al[i]?=some a→R x a)∧al.Pairwise (fun x y=>lt y x=false))∧EM=l'.map IF) hE ?_ ?_
 ·rw[Bx]at Iu;refine⟨hE,fun g w vals q1 q2 q3=>(Iu.2 g w vals q1 q2 q3).mono fun _ _ ⟨v,r,h',g',e1,⟨e2,EM,⟨l',p1,p2,p3⟩,p4⟩,rest⟩=>⟨v,r,h',g',e1,⟨e2,l',p1,p2,by rw[p4,p3]⟩,rest⟩⟩
 ·intro e
  have:l=[]:=by simpa using e
  subst this;exact⟨⟨[],.refl _,⟨[],rfl,fun i x a h=>by simp at h,.nil⟩,rfl⟩,rK rfl⟩
 ·intro g w b cap F hr hF hH hb
  -- the elements in memory
  have od:∀(m:List β) (vs:List Value),(∀x∈m,x∈l)→CT g w Fj (m.map IF).flatten vs→∃al:List α,al.length=m.length∧vs=(al.map enc).flatten∧∀(i:Nat) (x:β) (a:α),m[i]?=some x→al[i]?=some a→R x a:=by
   intro m
   induction m with
   |nil =>
    intro vs _ h
    have:vs=[]:=AJ (by simpa using h.1)
    subst this;exact⟨[],rfl,rfl,fun i x a h=>by simp at h⟩
   |cons x m ih =>
    intro vs hm h;rw[AN,Bq]at h;have CW:=h.1;rw[Ad,hB]at CW;have e:vs=vs.take k++vs.drop k:=(Ee k vs).symm;rw[e]at h;rw[Ra (by rw[AK,hB];omega)]at h;obtain⟨a,a1,a2⟩:=hR x (hm x (Ab ..)) g w _ h.1;obtain⟨al,b1,b2,b3⟩:=ih _ (fun y hy=>hm y (Ai _ hy)) h.2;refine⟨a::al,by simp[b1],by rw[AN,Bq,a1,←b2,←e],fun i y c q1 q2=>?_⟩;cases i with
    |zero=>simp only[Bj,Br]at q1 q2;subst q1;subst q2;exact a2
    |succ i=>exact b3 i y c (by simpa using q1) (by simpa using q2)
  obtain⟨al,s1,s2,s3⟩:=od l F.toList (fun _ h=>h) hr;have hFd:F=flatK enc k al.toArray:=LK.1 (by rw[SF hk,s2]);have hd:HoldsK enc k w b 0 al.toArray:=by unfold HoldsK;rw[←hFd];exact hH
  have hc:=DU w b cap al.toArray hd hb (by simpa[s1]using hl) (by simp[s1]);have Ed:al.toArray.size=(l.map IF).length:=by simp[s1]
  rw[Ed]at hc;refine hc.mono ?_
  rintro e w' ⟨rfl,d',n,os,p1,p2,rfl⟩
  obtain⟨z1,z2⟩:=bv s1.symm;obtain⟨gH,_,JU⟩:=p1;have gH : d'.size=al.length:=by rw[gH];simp
  have e1:d'.extract 0 (l.map IF).length=d':=by rw[show(l.map IF).length=d'.size by rw[gH];simp[s1]];exact Array.extract_size
  have e2:al.toArray.extract 0 (l.map IF).length=al.toArray:=by rw[←Ed];exact Array.extract_size
  rw[e1,e2]at JU;have JU:al.Perm d'.toList:=by
   first
   |exact JU.symm
   |exact JU
   |(have:=JU.symm;simpa using this)
  obtain⟨iM,r1,r2⟩:=Mr JU (l.zip al) z2;have rel:∀p∈l.zip al,R p.1 p.2:=fun p hp=>by
   obtain⟨i,hi⟩:=Cg.1 hp;rw[List.getElem?_zip_eq_some]at hi;exact s3 i _ _ hi.1 hi.2
  refine⟨rfl,flatK enc k d',(iM.map (·.1)).map IF,n,os,by rw[size_flatK,gH,hF];simp[s1],⟨iM.map (·.1),?_,⟨d'.toList,by rw[←r2];simp,fun i x a q1 q2=>?_,?_⟩,rfl⟩,by have:=r1.length_eq;simp[this,s1],fun cs hcs=>?_,fun g w hr=>?_,?_⟩
  ·have:=r1.map (·.1);rw[z1]at this;exact this
  ·rw[←r2]at q2;rw[AI,AQ]at q1 q2;obtain⟨p,q1,rfl⟩:=q1;obtain⟨p',q2,rfl⟩:=q2;rw[q1]at q2;cases q2;exact rel p (r1.mem_iff.1 (Ay q1))
  ·rw[Bl];intro i j hi hj Wf;have LX : i<d'.size:=by simpa using hi
   have nX : j<d'.size:=by simpa using hj
   have:=p2 i j (AL _) Wf (by rw[gH]at nX;simp[s1]at nX⊢;omega)
   rw[DN d' j nX,DN d' i LX]at this;simpa using this
  ·obtain⟨x,_,rfl⟩:=Aq.1 hcs;exact hB x
  ·have h1:CT g w Fj ((l.zip al).map fun p=>IF p.1).flatten ((l.zip al).map fun p=>enc p.2).flatten:=by
    have a1:(l.zip al).map (fun p=>IF p.1)=l.map IF:=by
     have:(l.zip al).map (fun p=>IF p.1)=((l.zip al).map (·.1)).map IF:=by rw[BX];rfl
     rw[this,z1]
    have a2:(l.zip al).map (fun p=>enc p.2)=al.map enc:=by
     have:(l.zip al).map (fun p=>enc p.2)=((l.zip al).map (·.2)).map enc:=by rw[BX];rfl
     rw[this,z2]
    rw[a1,a2,←s2];exact hr
   have CW:∀(x:α) (y:β),(enc x).length=(IF y).length:=fun x y=>by rw[hk,hB]
   rw[Qe CW]at h1;have h2:=(Qe (g:=g) (w:=w) (U:=Fj) CW iM).2 fun p hp=>h1 p (r1.mem_iff.1 hp);have b1:(iM.map (·.1)).map IF=iM.map fun p=>IF p.1:=by rw[BX];rfl
   have b2:(flatK enc k d').toList=(iM.map fun p=>enc p.2).flatten:=by
    rw[SF hk,←r2,BX];rfl
   rw[b1,b2];exact h2
  ·rfl
end
end Go.Eng

namespace Go.Eng
section
variable {P:Program}
theorem CF{f:Nat}{fn:Func}{c:Code}{args:List AV}{H0:List (Nat×HO)}{Q:AV→(Nat→HO)→Prop}(cx:Cx)(σ:Hq)(hP:cx.P=P)(hT:Cu P cx.T)(hm:P.follows .mixedOrders=true)(hx:cx.ext=true)(hf:P.funcs[f]?=some fn)
  (hn : (fn.name == "runtime.NumGoroutine") = false) (hb : fn.body = some c) (hN : args.length ≤ fn.ntmps) (hc : DF fn.ntmps c = true) (hσ : (ES σ && FD σ H0) = true)
  (hk:MD cx c (Uf cx fn.results.toList σ fun r h'=>∃r',GU r r'∧Q r' h') ⟨LR args,Af H0 Aa⟩) (hY:∀l σ g w,cx.yp l σ g w:=by exact fun _ _ _ _=>trivial):Bo P f args (Af H0 Aa) Q :=
 (fQ cx σ hP hT hm hx hf hn hb hN hc hσ hk hY).mono fun _ _ ⟨r',s,q⟩=>⟨r',s,q⟩
end
end Go.Eng

namespace Go.Eng
open Go.Sort
theorem CT.append{g:Gh}{w:World}{U:Nat→Prop}{Uc bs:List AV}{xs ys:List Value}(h:CT g w U Uc xs)(k:CT g w U bs ys):CT g w U (Uc++bs) (xs++ys):=by
 refine⟨by rw[Ad,Ad,h.1,k.1],fun x hx=>?_,fun i av x q1 q2=>?_⟩
 ·rcases A5.1 hx with hx | hx
  ·exact h.2.1 x hx
  ·exact k.2.1 x hx
 ·have hl:=h.1
  by_cases hi:i<Uc.length
  ·rw[AZ hi]at q1;rw[AZ (by omega)]at q2;exact h.2.2 i av x q1 q2
  ·rw[AR (by omega)]at q1;rw[AR (by omega),hl]at q2;exact k.2.2 _ av x q1 q2
theorem CT.take{g:Gh}{w:World}{U:Nat→Prop}{Uc:List AV}{xs:List Value}(h:CT g w U Uc xs)(k:Nat):CT g w U (Uc.take k) (xs.take k):=by
 refine⟨by rw[AK,AK,h.1],fun x hx=>h.2.1 x (DT hx),fun i av x q1 q2=>?_⟩;rw[JH]at q1 q2;split at q1
 ·rename_i hi;rw[AB hi]at q2;exact h.2.2 i av x q1 q2
 ·cases q1
theorem CT.drop{g:Gh}{w:World}{U:Nat→Prop}{Uc:List AV}{xs:List Value}(h:CT g w U Uc xs)(k:Nat):CT g w U (Uc.drop k) (xs.drop k):=by
 refine⟨by rw[B6,B6,h.1],fun x hx=>h.2.1 x (In hx),fun i av x q1 q2=>?_⟩;rw[DE]at q1 q2;exact h.2.2 _ av x q1 q2
theorem I2{α:Type}{k:Nat}:∀(es:List (List α)) (i:Nat),(∀e∈es,e.length=k)→es.flatten.take (i*k)=(es.take i).flatten
 | [],i,_=>by simp
 |e::es,0,_=>by simp
 |e::es,i+1,h=>by
  have he:=h e (Ab ..);rw[Bq,IU,Bq,List.take_append,←I2 es i fun x hx=>h x (Ai _ hx),Az (by rw[he,D0];omega),he,show(i+1)*k-k=i*k by rw[D0];omega]
theorem OE{α:Type}{k:Nat}:∀(es:List (List α)) (i:Nat),(∀e∈es,e.length=k)→es.flatten.drop (i*k)=(es.drop i).flatten
 | [],i,_=>by simp
 |e::es,0,_=>by simp
 |e::es,i+1,h=>by
  have he:=h e (Ab ..);rw[Bq,List.drop_succ_cons,List.drop_append,←OE es i fun x hx=>h x (Ai _ hx),T9 (by rw[he,D0];omega),he,show(i+1)*k-k=i*k by rw[D0];omega,EU]
section
variable {P:Program}
theorem bz{f:Nat}{es:List (List AV)}{sz:Nat}{rest:List Value}{n' : Nat}{Q:List (List AV)→Prop}(hE:Gd P f)(Dy:es≠[])(XI : n'≤es.length)
  (h1:∀(g:Gh) (w:World) (b cap:Nat) (F:Array Value),CT g w Fj es.flatten F.toList→F.size=es.length*sz→Holds id w b 0 F→b<w.heap.size→es.length≤cap→Calls P f (#[.slice (some ⟨b,0,none⟩) es.length cap]++rest.toArray) w fun e w' =>
   e=.returned (.slice (some ⟨b,0,none⟩) n' cap)∧∃(F' : Array Value) (EM : List (List AV)) (n:Nat) (os:Array Obj),F'.size=F.size∧Q EM∧EM.length=es.length∧(∀cs∈EM,cs.length=sz) ∧
    (∀(g:Gh) (w:World),CT g w Fj es.flatten F.toList→CT g w Fj EM.flatten F'.toList)∧w'=grow (putRow id (Sort.ahead w n) b 0 F') os) :
  Bo P f (.msl 1000 es.length::rest.map .v) (Af [(1000,.arr sz es)] Aa) fun r h'=>r=.msl 2000 n'∧∃EM,Q EM∧h'=Af [(1000,.dead),(2000,.arr sz (EM.take n'))] Aa:=by
 refine⟨hE,fun g w us hs hv hI=>?_⟩;have ho:=hI.objs 1000;have he:Af [(1000,HO.arr sz es)] Aa 1000=.arr sz es:=rfl;rw[he]at ho;obtain⟨t1,l1,al,a2⟩:=ho;simp only[Ak,Bx]at hs;have rW:0<us.size:=by omega
 have Wj:=hv 0 (.msl 1000 es.length) us[0] rfl (Be rW);have hval:us[0]=g.ρ 1000:=by
  generalize us[0]=x at Wj;cases Wj with
  |msl _ r n a cap hu ht hn ha hx=>exact hx l1.symm
 have KH:us=#[g.ρ 1000]++rest.toArray:=by
  refine RP (by simp;omega) fun i h1 h2=>?_;cases i with
  |zero=>rw[hval];simp
  |succ i =>
   have hi:i<rest.length:=by omega
   have:=hv (i+1) (.v rest[i]) us[i+1] (by simp[List.getElem?_eq_getElem hi]) (Be h1)
   rw[this.v_eq];simp
 rw[KH];rcases a2 with ⟨b1,b2,b3⟩ | ⟨b,cap,E,vs,b1,b2,b3,b4,b5,b6,b7⟩
 ·exact absurd b1 Dy
 ·have hl:(Af [(1000,HO.arr sz es)] Aa 1000).live:=trivial;have Dz:=(hI.loc 1000 b hl b2).1;have Hs:es.length*sz≤vs.size:=by rw[b5];exact Bg _ b3
  have hF:((vs.toList.take (es.length*sz)).toArray).size=es.length*sz:=by simp;omega
  have hH:Holds id w b 0 (vs.toList.take (es.length*sz)).toArray:=fun j hj=>by
   have hj:j<es.length*sz:=by rw[hF]at hj;exact hj
   refine⟨?_,?_⟩
   ·have nY:j<vs.size:=by omega
    simp only[World.cell?,b4,Bc,Og,Da,Ga];rw[Be nY,DN _ j (by rw[hF];exact hj)];simp
   ·simp[World.frozen?,b4]
  rw[b1];refine(h1 g w b cap _ (by simpa using b6) hF hH Dz b3).mono ?_
  rintro e w' ⟨rfl,F',EM,n,os,f1,f2,f3,f4,f5,rfl⟩
  have me : F'.size=es.length*sz:=f1.trans hF;have mp:=Kk F' vs (by omega);have jv : (grow (putRow id (Sort.ahead w n) b 0 F') os).heap[b]?=some (.cells (putCells id 0 F' vs) E (0,0)):=by
   rw[heap_grow_old _ _ (by rw[size_putRow];exact Dz)];show(w.heap.modify b (onCells (putCells id 0 F')))[b]?=_;rw[Lx,AB rfl,b4];rfl
  have n8:∀k,k<w.heap.size→k≠b→(grow (putRow id (Sort.ahead w n) b 0 F') os).heap[k]?=w.heap[k]?:=fun k hk Dy=>by
   rw[heap_grow_old _ _ (by rw[size_putRow];exact hk)];simp[putRow,mapBlock,Array.getElem?_modify,Ne.symm Dy]
  have Ed:w.heap.size≤(grow (putRow id (Sort.ahead w n) b 0 F') os).heap.size:=by rw[size_grow,size_putRow];show w.heap.size≤w.heap.size+_;omega
  obtain⟨k1,k2⟩:=hI.upd 1000 (.arr sz EM) (g.ρ 1000) (g.ln 1000) (g.tk 1000) (g.own 1000) g.S (grow (putRow id (Sort.ahead w n) b 0 F') os) (some b) ⟨rfl,rfl,rfl,Ed⟩
   (fun k hk Dy=>n8 k hk (fun e=>Dy (by rw[e]))) (fun b' e=>by cases e;exact⟨hl,b2⟩) (fun _ _ h=>h) (fun _ _ h=>.inl h) (fun b' o e hs=>by cases e;exact absurd hs (b7 o))
   (fun b' _ e=>by rw[b2]at e;cases e;exact⟨BP Dz Ed,.inl ⟨hl,b2⟩⟩) (by simp) (fun _=>⟨rfl,Ao _,fun _=>rfl,fun _=>rfl⟩) (fun hg hk=>by
    refine⟨by simp[Gh.upd,t1],by simp[Gh.upd,l1,f3],f4,.inr ⟨b,cap,E,_,by simp[Gh.upd,b1,f3],by simp[Gh.upd,b2],by omega,jv,by rw[mp.2,b5],?_,b7⟩⟩
    have:=f5 g w (by simpa using b6)
    rw[f3,←me,mp.1];exact this.mono hk (fun _ h=>h) (fun _ h=>h.elim))
  rw[NJ]at k1 k2;generalize XC : g.upd 1000 (g.ρ 1000) (g.ln 1000) (g.tk 1000) (g.own 1000) g.S=g' at k1 k2;have mn : g'.own 1000=some b:=by rw[←XC];simp[Gh.upd,b2]
  have gA:=k1.objs 1000;have d4:Af [(1000,HO.arr sz EM)] Aa 1000=.arr sz EM:=rfl;rw[d4]at gA;obtain⟨m1,m2,m3,m4⟩:=gA;have hρ:g'.ρ 1000=.slice (some ⟨b,0,none⟩) es.length cap:=by rw[←XC];simp[Gh.upd,b1]
  have n6 : EM≠[]:=fun e=>Dy (AJ (by rw[←f3,e];rfl));rcases m4 with ⟨m4,_⟩ | ⟨b',Oo,E',js,c1,c2,c3,c4,c5,c6,c7⟩
  ·exact absurd m4 n6
  ·rw[hρ]at c1;simp only[Value.slice.injEq,Br,Addr.mk.injEq,RY]at c1;obtain⟨uJ,c1b,uK⟩:=c1;subst uJ;subst uK;have Wg : (EM.take n').length=n':=by rw[AK];omega
   obtain⟨k3,k4⟩:=k1.move 1000 2000 (by decide) rfl trivial mn (.arr sz (EM.take n')) (.slice (some ⟨b,0,none⟩) n' cap) n' true (by simp) (fun hk=>by
    refine⟨by simp[Gh.upd],by simp[Gh.upd,Wg],fun cs hcs=>m3 cs (DT hcs),.inr ⟨b,cap,E',js,by simp[Gh.upd,Wg],by simp[Gh.upd],by omega,c4,c5,?_,c7⟩⟩
    have:=(c6.mono hk (fun _ h=>h) (fun _ h=>h.elim)).take (n'*sz)
    rw[I2 EM n' m3,Of,UA (Bg _ (by omega))]at this;rw[Wg];exact this)
   have gx:AW (AW (Af [(1000,HO.arr sz EM)] Aa) 1000 .dead) 2000 (.arr sz (EM.take n'))=Af [(1000,.dead),(2000,.arr sz (EM.take n'))] Aa:=by
    funext i
    by_cases e1:i=2000
    ·subst e1;rw[Bd];rfl
    ·rw[B9 _ _ _ _ e1]
     by_cases e2:i=1000
     ·subst e2;rw[Bd];rfl
     ·rw[B9 _ _ _ _ e2];simp[Af,Ci e1,Ci e2]
   rw[gx]at k3 k4;exact⟨_,.msl 2000 n',_,_,rfl,⟨rfl,EM,f2,rfl⟩,.msl _ 2000 n' (some ⟨b,0,none⟩) cap (by intro c;cases c) (by simp[Gh.upd]) (by simp[Gh.upd]) (.inr ⟨b,rfl⟩) (fun _=>by simp[Gh.upd]),k3,k2.trans k4⟩
end
end Go.Eng

namespace Go.Eng

def fw(a b:FE):Bool :=
 (match a.2 with | some r=>!II b.1 r | none=>true)&&(match b.2 with | some r=>!II a.1 r | none=>true)
def Pu(ops:Array Oper)(oi:Oper)(fi:FE)(D:List Nat)(k:Nat):List Oper→List FE→Bool
 |o::r,f::fs=>(II D k||(oi.apart ops o&&fw fi f))&&Pu ops oi fi D (k+1) r fs
 | [],[]=>true
 |_,_=>false
def UT(ops:Array Oper)(all:List Oper)(k:Nat):List Oper→List FE→Bool
 |o::r,f::fs =>
  let D:=PD k [] 0 all
  (o.after.toList.all fun e=>!Region.binds .any e||Nat.blt e.on k)&&TW k D 0 all&&(D.all fun j=>Nat.blt k j&&Nat.blt j all.length)&&Pu ops o f D (k+1) r fs&&UT ops all (k+1) r fs
 | [],[]=>true
 |_,_=>false
def ax(ops:Array Oper)(fs:List FE):Bool:=Region.noSelect ops&&UT ops ops.toList 0 ops.toList fs
def Qj(f:FE):Prop:=∀r,f.2=some r→r<10000000
def RL:List FE→Prop
 | []=>True
 |f::r=>Qj f∧RL r
theorem A2(l:List Nat):Qj (l,none):=fun _ h=>by cases h
theorem Eb{l:List Nat}{r:Nat}(h:r<10000000):Qj (l,some r):=fun _ e=>by cases e;exact h
theorem fy{a b:FE}(ha:Qj a)(hb:Qj b)(h:fw a b=true):Sr a b=true:=by
 obtain⟨a1,a2⟩:=a;obtain⟨b1,b2⟩:=b;unfold fw at h;unfold Sr;rw[Ag]at h⊢;refine⟨?_,?_⟩
 ·cases a2 with
  |none=>rfl
  |some r =>
   have h1:(!II b1 r)=true:=h.1;show Yk b1 r=true;unfold Yk;rw[Ci (show r≠VU by have:=ha r rfl;unfold VU;omega),D7,h1,show Nat.blt r 10000000=true by rw[Ck];exact ha r rfl];rfl
 ·cases b2 with
  |none=>rfl
  |some r =>
   have h1:(!II a1 r)=true:=h.2;show Yk a1 r=true;unfold Yk;rw[Ci (show r≠VU by have:=hb r rfl;unfold VU;omega),D7,h1,show Nat.blt r 10000000=true by rw[Ck];exact hb r rfl];rfl
theorem UE{ops:Array Oper}{oi:Oper}{fi:FE}{D:List Nat}(hi:Qj fi):∀{l:List Oper} {fs:List FE} {k:Nat},RL fs→Pu ops oi fi D k l fs=true→Io ops oi fi D k l fs=true
 | [],[],_,_,h=>h
 |o::r,f::fs,k,hs,h=>by
  unfold Pu at h;unfold Io;rw[Ag,CQ,Ag]at h⊢;exact⟨h.1.imp id (fun q=>⟨q.1,fy hi hs.1 q.2⟩),UE hi hs.2 h.2⟩
 | [],_::_,_,_,h=>by simp[Pu]at h
 |_::_,[],_,_,h=>by simp[Pu]at h
theorem Xc{ops:Array Oper}{all:List Oper}:∀{l:List Oper} {fs:List FE} {k:Nat},RL fs→UT ops all k l fs=true→L9 ops all k l fs=true
 | [],[],_,_,h=>h
 |o::r,f::fs,k,hs,h=>by
  unfold UT at h;unfold L9;simp only[Ag]at h⊢;exact⟨⟨h.1.1,UE hs.1 hs.2 h.1.2⟩,Xc hs.2 h.2⟩
 | [],_::_,_,_,h=>by simp[UT]at h
 |_::_,[],_,_,h=>by simp[UT]at h
theorem IZ{ops:Array Oper}{fs:List FE}(hs:RL fs)(h:ax ops fs=true):Ss ops fs=true:=by
 unfold ax at h;unfold Ss;rw[Ag]at h⊢;exact⟨h.1,Xc hs h.2⟩

theorem QD{cx:Cx}{d:Option Nat}{h:Nat→HO}{ty e m:Nat}{r:Nat}{es es2:List (List AV)}{x:AV}{K:HK}(wV:(cx.T ty).d=.slice e)(hz:Nat.beq (cx.T e).zc.length (cx.T e).size=true)(Ed:(cx.T e).size=m+1)
  (hx:∀K' : List (List AV)→Prop,K' es2→Ld h x K') (hr:h r=.tok (m+1) es.length) (hl:B1 (m+1) es2) (hb:(es.length+es2.length)*(cx.T e).bytes≤140737488355328) (hc:es.length+es2.length≤9223372036854775807)
  (hk:K (.slice (.id r (m+1)) (es++es2)) (AW h r (.tok (m+1) (es.length+es2.length)))):If cx d h ty (.slice (.id r (m+1)) es) x K:=by
 have hq:Nat.beq (m+1) (m+1)=true:=Dc _;unfold If;rw[wV];rw[Ed]at hz;simp only[Ed,hz];refine hx _ ?_;simp only[hr,hq];exact⟨⟨hl,trivial,hb,hc⟩,hk⟩
theorem QC{cx:Cx}{d:Nat}{h:Nat→HO}{ty e m:Nat}{es2:List (List AV)}{x:AV}{K:HK}(wV:(cx.T ty).d=.slice e)(hz:Nat.beq (cx.T e).zc.length (cx.T e).size=true)(Ed:(cx.T e).size=m+1)
  (hx:∀K' : List (List AV)→Prop,K' es2→Ld h x K') (hr:h (KB cx d)=.free) (ha:Em cx.pl.arr d=none) (hl:B1 (m+1) es2) (hb:es2.length*(cx.T e).bytes≤140737488355328) (hc:es2.length≤9223372036854775807)
  (hk:K (.slice (.id (KB cx d) (m+1)) es2) (AW h (KB cx d) (.tok (m+1) es2.length))):If cx (some d) h ty (.v (.slice none 0 0)) x K:=by
 unfold If;rw[wV];rw[Ed]at hz;simp only[Ed,hz];refine hx _ ?_;refine⟨⟨Ed▸hl,hb,hc⟩,?_⟩;unfold EF;simp only[hr,ha];exact hk
end Go.Eng

namespace Go.Eng
open Go.RowKit
section
variable {P:Program}
end
end Go.Eng

namespace Go.Eng

def Ue:Obj→Bool
 |.cells ..=>false
 |.map ..=>false
 |.mapIter ..=>false
 |.loop r=>!LP [] r.body
 |_=>true
structure VP(n0 x:Nat)(w:World)(g:Gh)(h:Nat→HO)(w' : World)(g' : Gh)(h' : Nat→HO):Prop where
 os:w'.os=w.os
 tape:w'.tape=w.tape
 output:w'.output=w.output
 size:w.heap.size≤w'.heap.size
 frame:∀b,b<n0→b≠x→(∀r,(h r).live→g.own r≠some b)→w'.heap[b]?=w.heap[b]?
 loc:∀r b,(h' r).live→g'.own r=some b→n0≤b∨∃r',(h r').live∧g.own r'=some b
 sg:∀b o,g'.S b o→g.S b o∨n0≤b∨∃r',(h r').live∧g.own r'=some b
 le:Le h g w h' g' w'
section
variable {P:Program}{N:Nat}{ds:List Deferred}{n0 x:Nat}{w w' w1 w2:World}{g g' g1 g2:Gh}{h h' h1 h2:Nat→HO}

theorem VP.trans(a:VP n0 x w g h w1 g1 h1)(b:VP n0 x w1 g1 h1 w2 g2 h2):VP n0 x w g h w2 g2 h2 where
 os:=b.os.trans a.os
 tape:=b.tape.trans a.tape
 output:=b.output.trans a.output
 size:=Bu a.size b.size
 frame c hc hx hn:=(b.frame c hc hx fun r hl e=>by
  rcases a.loc r c hl e with h | ⟨r',h1,h2⟩
  ·omega
  ·exact hn r' h1 h2).trans (a.frame c hc hx hn)
 loc r c hl e:=by
  rcases b.loc r c hl e with h | ⟨r',h1,h2⟩
  ·exact .inl h
  ·exact a.loc r' c h1 h2
 sg c o hs:=by
  rcases b.sg c o hs with h | h | ⟨r',h1,h2⟩
  ·exact a.sg c o h
  ·exact .inr (.inl h)
  ·rcases a.loc r' c h1 h2 with h | h
   ·exact .inr (.inl h)
   ·exact .inr (.inr h)
 le:=a.le.trans b.le
theorem VP.of_inv(hI:Dx w g h h' g' w')(hL:Le h g w h' g' w')(hn:n0≤w.heap.size):VP n0 x w g h w' g' h' where
 os:=hI.os
 tape:=hI.tape
 output:=hI.output
 size:=hI.size
 frame c hc _ XI:=hI.frame c (by omega) XI
 loc r c hl e:=by
  rcases(hI.loc r c hl e).2 with h | h
  ·exact .inl (by omega)
  ·exact .inr h
 sg c o hs:=by
  rcases hI.sg c o hs with h | h | h
  ·exact .inl h
  ·exact .inr (.inl (by omega))
  ·exact .inr (.inr h)
 le:=hL
theorem Dx.base(hI:Dx w g h h' g' w'):Dx w' g' h' h' g' w' where
 os:=rfl
 tape:=rfl
 output:=rfl
 size:=Ao _
 frame _ _ _:=rfl
 slt:=hI.slt
 objs:=hI.objs
 inj:=hI.inj
 loc r b hl e:=⟨(hI.loc r b hl e).1,.inr ⟨r,hl,e⟩⟩
 sg _ _ hs:=.inl hs
 glob:=hI.glob
theorem Dx.of_seg(hI:Dx w' g' h' h' g' w')(s:VP w.heap.size x w g h w' g' h')(hx:x<w.heap.size→w'.heap[x]?=w.heap[x]?):Dx w g h h' g' w' where
 os:=s.os
 tape:=s.tape
 output:=s.output
 size:=s.size
 frame b hb hn:=by
  by_cases e:b=x
  ·subst e;exact hx hb
  ·exact s.frame b hb e hn
 slt:=hI.slt
 objs:=hI.objs
 inj:=hI.inj
 loc r b hl e:=⟨(hI.loc r b hl e).1,s.loc r b hl e⟩
 sg:=s.sg
 glob:=hI.glob
theorem KN{U:Nat→Prop}{r b:Nat}{o:HO}{ob:Obj}(ho:Ec g w U r o)(hl:o.live)(e:g.own r=some b)(hb:w.heap[b]?=some ob)(hd:Ue ob=true):False:=by
 cases o with
 |free=>exact hl
 |dead=>exact hl
 |ro cs=>exact hl
 |rom sh Cb=>exact hl
 |cells cs =>
  obtain⟨_,b',E,vs,h1,_,h3,_⟩:=ho;rw[e]at h1;cases h1;rw[hb]at h3;cases h3;cases hd
 |tok sz n =>
  obtain⟨_,_,a,cap,_,(⟨_,h1⟩ | ⟨_,b',E,vs,off,_,h1,h3,_⟩)⟩:=ho
  ·rw[e]at h1;cases h1
  ·rw[e]at h1;cases h1;rw[hb]at h3;cases h3;cases hd
 |vox v=>exact hl
 |raw b' ob' =>
  obtain⟨_,h1,h2,h3,_⟩:=ho;rw[e]at h1;cases h1;rw[hb]at h2;cases h2;cases ob<;>simp[Ue,m0]at hd h3
  rw[hd]at h3;cases h3
 |var sz v n =>
  obtain⟨_,_,a,cap,_,(⟨_,h1⟩ | ⟨_,b',E,vs,off,_,h1,h3,_⟩)⟩:=ho
  ·rw[e]at h1;cases h1
  ·rw[e]at h1;cases h1;rw[hb]at h3;cases h3;cases hd
 |arr sz es =>
  obtain⟨_,_,_,(⟨_,_,h1⟩ | ⟨b',cap,E,vs,_,h1,_,h3,_⟩)⟩:=ho
  ·rw[e]at h1;cases h1
  ·rw[e]at h1;cases h1;rw[hb]at h3;cases h3;cases hd
 |map sh Cb =>
  obtain⟨_,b',es,ck,h1,_,h3,_⟩:=ho;rw[e]at h1;cases h1;rw[hb]at h3;cases h3;cases hd
 |mapU sh Cb =>
  obtain⟨_,b',es,ck,h1,_,h3,_⟩:=ho;rw[e]at h1;cases h1;rw[hb]at h3;cases h3;cases hd
 |iter all rem F6 =>
  obtain⟨_,b',mb,J3,seen,st,es,ck,h1,_,h3,_⟩:=ho;rw[e]at h1;cases h1;rw[hb]at h3;cases h3;cases hd
theorem Dx.dullS(hI:Dx w g h h g w)(ho:w'.os=w.os∧w'.tape=w.tape∧w'.output=w.output)(Ed:w.heap.size≤w'.heap.size)
  (hb:∀b,b<w.heap.size→w'.heap[b]?=w.heap[b]?∨∃o o',w.heap[b]?=some o∧w'.heap[b]?=some o'∧Ue o=true∧Ue o'=true)
  (hn:∀b,b<n0→b≠x→w'.heap[b]?=w.heap[b]?):Dx w' g h h g w'∧VP n0 x w g h w' g h:=by
 have hk:E0 g w g w':=fun b o hs=>by
  refine⟨hs,?_⟩;rcases hb b (hI.slt b o hs)with e | ⟨ob,ob',e1,e2,d1,d2⟩
  ·exact⟨by simp only[World.cell?,e],fun es ck he=>e.trans he⟩
  ·refine⟨?_,fun es ck he=>?_⟩
   ·simp only[World.cell?,e1,e2];cases ob<;>cases ob'<;>first | rfl | (cases d1;done) | (cases d2;done)
   ·rw[e1]at he;cases he;cases d1
 have Wi:∀r b,(h r).live→g.own r=some b→w'.heap[b]?=w.heap[b]?:=fun r b hl e=>by
  rcases hb b (hI.loc r b hl e).1 with e' | ⟨ob,ob',e1,_,d1,_⟩
  ·exact e'
  ·exact(KN (hI.objs r) hl e e1 d1).elim
 refine⟨⟨rfl,rfl,rfl,Ao _,fun _ _ _=>rfl,fun b o hs=>BP (hI.slt b o hs) Ed,fun r=>?_,hI.inj,fun r b hl e=>⟨BP (hI.loc r b hl e).1 Ed,.inr ⟨r,hl,e⟩⟩,fun _ _ hs=>.inl hs,hI.glob.keep hk⟩,⟨ho.1,ho.2.1,ho.2.2,Ed,fun b jv hx _=>hn b jv hx,fun r b hl e=>.inr ⟨r,hl,e⟩,fun _ _ hs=>.inl hs,⟨.refl _ _,fun _ h=>h,hk⟩⟩⟩;exact(hI.objs r).same hk (fun _ h=>h) (.refl _ _) rfl rfl rfl rfl fun b hl e=>⟨Wi r b hl e,fun _ h=>h⟩
theorem Dx.put(hI:Dx w g h h g w){l:Nat}{o o' : Obj}(hl:w.heap[l]?=some o)(hd:Ue o=true)(jx : Ue o'=true)(hx:n0≤l∨l=x) :
  Dx (w.putObj l o') g h h g (w.putObj l o')∧VP n0 x w g h (w.putObj l o') g h:=by
 have Dz:l<w.heap.size:=(Bn.1 hl).1;refine hI.dullS ⟨rfl,rfl,rfl⟩ (by simp[World.putObj]) (fun b _=>?_) (fun b hb Dy=>?_)
 ·by_cases e:b=l
  ·subst e;exact .inr ⟨o,o',hl,World.putObj_heap_same Dz,hd,jx⟩
  ·exact .inl (World.putObj_heap_other e)
 ·refine World.putObj_heap_other fun e=>?_;rcases hx with h | h
  ·omega
  ·exact Dy (e.trans h)
theorem Dx.allocS(hI:Dx w g h h g w)(o:Obj)(hn:n0≤w.heap.size):Dx (w.alloc o) g h h g (w.alloc o)∧VP n0 x w g h (w.alloc o) g h:=by
 refine hI.dullS ⟨rfl,rfl,rfl⟩ (by rw[World.size_alloc];omega) (fun b hb=>.inl (heap_alloc_old _ _ hb)) (fun b hb _=>heap_alloc_old _ _ (by omega))
end
end Go.Eng
