/- Lemmas for the claims of this seat, without a condition: part 15 (Tab, EngZG, EngZH, EngZI, EngZJ, EngZK, EngZM, EngZN, EngZO). -/
import Derived.Test.YtkmnnpmneamgoaaGreatDoorA14
import Derived.Test.YtkmnnpmneamgoaaGreatDoorProg
import Derived.Sort.Grow
import Derived.Shelf.GgSortFunc.InsertionK
import Derived.Below
import Derived.RangeFuncLeaves
import Derived.RangeFuncNested
namespace Go.Eng
open Go.Proofs
abbrev dTI : TI := tiNone
abbrev tF : TI := ⟨.func,1,8,.nilFunc,true⟩
abbrev tI : TI := ⟨.int .i64,1,8,.int .i64 0,true⟩
abbrev tP (n : Nat) : TI := ⟨.ptr n,1,8,.pointer none,true⟩
abbrev tS (n : Nat) : TI := ⟨.slice n,1,24,.slice none 0 0,true⟩
def nthL {α : Type} (d : α) : List α → Nat → α
 | [],_ => d
 | a :: r,n => match n with | 0 => a | n + 1 => nthL d r n
def row0 : List TI := [⟨.other,1,0,(.tuple #[]),true⟩,tF,tI,tI,⟨.bool,1,1,(.bool .false),true⟩,⟨.int .u8,1,1,(.int .u8 0),true⟩,⟨.int .u8,1,1,(.int .u8 0),true⟩,⟨.struct [(2,0),(3,1),(4,2),(6,3)],4,24,(.agg #[.int .i64 0,.int .i64 0,.bool .false,.int .u8 0]),true⟩,⟨.struct [(2,0),(3,1),(4,2),(6,3)],4,24,(.agg #[.int .i64 0,.int .i64 0,.bool .false,.int .u8 0]),true⟩,⟨.string,1,16,(.string ⟨#[]⟩),true⟩,⟨.string,1,16,(.string ⟨#[]⟩),true⟩,⟨.string,1,16,(.string ⟨#[]⟩),true⟩,⟨.int .u64,1,8,(.int .u64 0),true⟩,⟨.struct [(9,0),(12,1)],2,24,(.agg #[.string ⟨#[]⟩,.int .u64 0]),false⟩,⟨.struct [(9,0),(12,1)],2,24,(.agg #[.string ⟨#[]⟩,.int .u64 0]),false⟩,tP 331]
def row1 : List TI := [tP 334,tP 343,⟨.struct [(17,0)],1,8,(.agg #[.pointer none]),false⟩,⟨.struct [(17,0)],1,8,(.agg #[.pointer none]),false⟩,⟨.iface,1,16,.nilIface,true⟩,⟨.int .i32,1,4,(.int .i32 0),true⟩,tS 67,tS 349,⟨.struct [(22,0),(23,1)],2,48,(.agg #[.slice none 0 0,.slice none 0 0]),true⟩,⟨.struct [(22,0),(23,1)],2,48,(.agg #[.slice none 0 0,.slice none 0 0]),true⟩,tS 45,tF,tF,tS 39,tI,⟨.other,1,0,(.tuple #[.slice none 0 0,.int .i64 0]),true⟩]
def row2 : List TI := [tF,tF,tF,tS 3,⟨.other,1,0,(.tuple #[.slice none 0 0,.int .i64 0]),true⟩,tF,tF,tS 51,⟨.other,1,0,(.tuple #[.slice none 0 0,.int .i64 0]),true⟩,tF,tS 65,tS 65,⟨.struct [(9,0),(43,1)],2,40,(.agg #[.string ⟨#[]⟩,.slice none 0 0]),true⟩,⟨.struct [(9,0),(43,1)],2,40,(.agg #[.string ⟨#[]⟩,.slice none 0 0]),true⟩,tF,tF]
def row3 : List TI := [⟨.struct [(3,0),(3,1),(3,2)],3,24,(.agg #[.int .i64 0,.int .i64 0,.int .i64 0]),true⟩,⟨.struct [(3,0),(3,1),(3,2)],3,24,(.agg #[.int .i64 0,.int .i64 0,.int .i64 0]),true⟩,⟨.struct [(9,0),(49,1)],4,40,(.agg #[.string ⟨#[]⟩,.int .i64 0,.int .i64 0,.int .i64 0]),true⟩,⟨.struct [(9,0),(49,1)],4,40,(.agg #[.string ⟨#[]⟩,.int .i64 0,.int .i64 0,.int .i64 0]),true⟩,tS 9,⟨.other,1,0,(.tuple #[.slice none 0 0,.int .i64 0]),true⟩,tF,tF,tS 136,tS 151,⟨.struct [(4,0),(39,1),(56,2),(57,3)],4,80,(.agg #[.bool .false,.slice none 0 0,.slice none 0 0,.slice none 0 0]),true⟩,⟨.struct [(4,0),(39,1),(56,2),(57,3)],4,80,(.agg #[.bool .false,.slice none 0 0,.slice none 0 0,.slice none 0 0]),true⟩,⟨.other,1,0,(.tuple #[.agg #[.bool .false,.slice none 0 0,.slice none 0 0,.slice none 0 0],.int .i64 0]),true⟩,tF,tF,tF]
def row4 : List TI := [⟨.struct [(3,0),(3,1)],2,16,(.agg #[.int .i64 0,.int .i64 0]),true⟩,⟨.struct [(3,0),(3,1)],2,16,(.agg #[.int .i64 0,.int .i64 0]),true⟩,⟨.struct [(9,0),(49,1),(26,4),(9,5),(9,6),(9,7),(4,8)],9,120,(.agg #[.string ⟨#[]⟩,.int .i64 0,.int .i64 0,.int .i64 0,.slice none 0 0,.string ⟨#[]⟩,.string ⟨#[]⟩,.string ⟨#[]⟩,.bool .false]),true⟩,⟨.struct [(9,0),(49,1),(26,4),(9,5),(9,6),(9,7),(4,8)],9,120,(.agg #[.string ⟨#[]⟩,.int .i64 0,.int .i64 0,.int .i64 0,.slice none 0 0,.string ⟨#[]⟩,.string ⟨#[]⟩,.string ⟨#[]⟩,.bool .false]),true⟩,tF,tF,tF,tF,tF,tP 99,tF,tF,tF,tF,tF,tF]
def row5 : List TI := [tF,tS 26,tP 134,⟨.other,1,0,(.tuple #[.pointer none,.int .i64 0]),true⟩,tF,tF,tF,tF,⟨.other,1,0,(.tuple #[.int .i64 0,.int .i64 0]),true⟩,tF,⟨.other,1,0,(.tuple #[.int .i64 0,.bool .false]),true⟩,tF,⟨.map 9 96,1,8,(.map none),true⟩,⟨.map 9 43,1,8,(.map none),true⟩,tS 149,⟨.map 136 3,1,8,(.map none),true⟩]
def row6 : List TI := [tS 115,tS 57,⟨.struct [(26,0),(92,1),(93,2),(56,3),(94,4),(95,5),(4,6),(96,7),(39,8),(97,9)],10,176,(.agg #[.slice none 0 0,.map none,.map none,.slice none 0 0,.slice none 0 0,.map none,.bool .false,.slice none 0 0,.slice none 0 0,.slice none 0 0]),true⟩,⟨.struct [(26,0),(92,1),(93,2),(56,3),(94,4),(95,5),(4,6),(96,7),(39,8),(97,9)],10,176,(.agg #[.slice none 0 0,.map none,.map none,.slice none 0 0,.slice none 0 0,.map none,.bool .false,.slice none 0 0,.slice none 0 0,.slice none 0 0]),true⟩,tF,tF,tF,tF,tF,⟨.other,1,0,(.tuple #[.slice none 0 0,.bool .false]),true⟩,tF,⟨.other,1,0,(.tuple #[.slice none 0 0,.int .i64 0]),true⟩,tF,tF,tF,tF]
def row7 : List TI := [tF,tF,⟨.struct [(3,0),(67,1)],10,128,(.agg #[.int .i64 0,.string ⟨#[]⟩,.int .i64 0,.int .i64 0,.int .i64 0,.slice none 0 0,.string ⟨#[]⟩,.string ⟨#[]⟩,.string ⟨#[]⟩,.bool .false]),true⟩,⟨.struct [(3,0),(67,1)],10,128,(.agg #[.int .i64 0,.string ⟨#[]⟩,.int .i64 0,.int .i64 0,.int .i64 0,.slice none 0 0,.string ⟨#[]⟩,.string ⟨#[]⟩,.string ⟨#[]⟩,.bool .false]),true⟩,tF,tS 122,⟨.other,1,0,(.tuple #[.string ⟨#[]⟩,.slice none 0 0]),true⟩,tF,tF,⟨.struct [(45,0),(9,2),(3,3),(3,4)],5,72,(.agg #[.string ⟨#[]⟩,.slice none 0 0,.string ⟨#[]⟩,.int .i64 0,.int .i64 0]),true⟩,⟨.struct [(45,0),(9,2),(3,3),(3,4)],5,72,(.agg #[.string ⟨#[]⟩,.slice none 0 0,.string ⟨#[]⟩,.int .i64 0,.int .i64 0]),true⟩,tF,tF,⟨.other,1,0,(.tuple #[.agg #[.string ⟨#[]⟩,.slice none 0 0,.string ⟨#[]⟩,.int .i64 0,.int .i64 0],.bool .false]),true⟩,tF,tF]
def row8 : List TI := [⟨.other,1,0,(.tuple #[.string ⟨#[]⟩,.bool .false]),true⟩,tF,tF,tF,tF,⟨.struct [(25,0),(26,2),(94,3)],4,96,(.agg #[.slice none 0 0,.slice none 0 0,.slice none 0 0,.slice none 0 0]),true⟩,⟨.struct [(25,0),(26,2),(94,3)],4,96,(.agg #[.slice none 0 0,.slice none 0 0,.slice none 0 0,.slice none 0 0]),true⟩,⟨.struct [(3,0),(9,1),(3,2),(3,3),(3,4),(3,5)],6,56,(.agg #[.int .i64 0,.string ⟨#[]⟩,.int .i64 0,.int .i64 0,.int .i64 0,.int .i64 0]),true⟩,⟨.struct [(3,0),(9,1),(3,2),(3,3),(3,4),(3,5)],6,56,(.agg #[.int .i64 0,.string ⟨#[]⟩,.int .i64 0,.int .i64 0,.int .i64 0,.int .i64 0]),true⟩,tF,tF,tF,tF,⟨.other,1,0,(.tuple #[.agg #[.string ⟨#[]⟩,.int .i64 0,.int .i64 0,.int .i64 0,.slice none 0 0,.string ⟨#[]⟩,.string ⟨#[]⟩,.string ⟨#[]⟩,.bool .false],.bool .false]),true⟩,tF,tF]
def row9 : List TI := [tF,tF,tF,tF,tS 208,tS 208,⟨.struct [(9,0),(3,1),(3,2)],3,32,(.agg #[.string ⟨#[]⟩,.int .i64 0,.int .i64 0]),true⟩,⟨.struct [(9,0),(3,1),(3,2)],3,32,(.agg #[.string ⟨#[]⟩,.int .i64 0,.int .i64 0]),true⟩,tF,tF,tF,⟨.int .u64,1,8,(.int .u64 0),true⟩,⟨.map 51 67,1,8,(.map none),true⟩,⟨.map 9 22,1,8,(.map none),true⟩,⟨.struct [(156,0),(157,1)],2,16,(.agg #[.map none,.map none]),true⟩,⟨.struct [(156,0),(157,1)],2,16,(.agg #[.map none,.map none]),true⟩]
def row10 : List TI := [⟨.other,1,0,(.tuple #[.agg #[.map none,.map none],.int .i64 0]),true⟩,tF,⟨.other,1,0,(.tuple #[.slice none 0 0,.int .i64 0]),true⟩,tF,⟨.map 9 67,1,8,(.map none),true⟩,tF,tF,tF,⟨.map 9 4,1,8,(.map none),true⟩,tF,⟨.other,1,0,(.tuple #[.slice none 0 0,.bool .false]),true⟩,tF,tF,tF,tF,tF]
def row11 : List TI := [tF,tF,tF,tF,tP 45,tF,tF,tF,tF,tF,tF,tF,tF,tF,tF,tF]
def row12 : List TI := [⟨.other,1,0,(.tuple #[.agg #[.string ⟨#[]⟩,.int .i64 0,.int .i64 0,.int .i64 0],.bool .false]),true⟩,tF,tF,tF,⟨.struct [(194,0),(195,1)],2,16,(.agg #[.nilFunc,.nilFunc]),true⟩,⟨.struct [(194,0),(195,1)],2,16,(.agg #[.nilFunc,.nilFunc]),true⟩,⟨.array 4 197,8,64,(.agg #[.nilFunc,.nilFunc,.nilFunc,.nilFunc,.nilFunc,.nilFunc,.nilFunc,.nilFunc]),true⟩,tF,tF,⟨.array 3 3,3,24,(.agg #[.int .i64 0,.int .i64 0,.int .i64 0]),true⟩,tF,tF,tF,tF,tF,⟨.struct [(9,0),(4,1),(43,2)],3,48,(.agg #[.string ⟨#[]⟩,.bool .false,.slice none 0 0]),true⟩]
def row13 : List TI := [⟨.struct [(9,0),(4,1),(43,2)],3,48,(.agg #[.string ⟨#[]⟩,.bool .false,.slice none 0 0]),true⟩,tF,tF,⟨.other,1,0,(.tuple #[.slice none 0 0,.int .i64 0]),true⟩,tF,tF,tI,⟨.other,1,0,(.tuple #[.int .i64 0,.int .i64 0]),true⟩,tF,tF,tF,tF,tF,⟨.int .u32,1,4,(.int .u32 0),true⟩,tF,⟨.int .u64,1,8,(.int .u64 0),true⟩]
def row14 : List TI := [tF,tF,tS 4,tF,tF,⟨.other,1,0,(.tuple #[.string ⟨#[]⟩,.int .i64 0,.int .i64 0]),true⟩,tF,tF,tF,tF,tF,tF,tF,tF,tF,tF]
def row15 : List TI := [tF,tF,⟨.other,1,0,(.tuple #[.agg #[.string ⟨#[]⟩,.bool .false,.slice none 0 0],.slice none 0 0,.bool .false]),true⟩,tF,tF,tF,⟨.int .u64,1,8,(.int .u64 0),true⟩,tF,tF,tF,tP 3,tF,tF,tF,tF,tF]
def row16 : List TI := [⟨.other,1,0,(.tuple #[.agg #[.string ⟨#[]⟩,.bool .false,.slice none 0 0],.bool .false]),true⟩,tF,tF,tS 43,tF,tF,tF,tF,tF,tF,tF,tF,tF,⟨.map 9 208,1,8,(.map none),true⟩,tF,tF]
def row17 : List TI := [tF,tF,tP 246,⟨.other,1,0,(.tuple #[.int .i64 0,.int .i64 0]),true⟩,tF,tF,tF,tF,tF,tF,tF,tF,tF,tF,tF,tF]
def row18 : List TI := [⟨.map 3 3,1,8,(.map none),true⟩,tF,tF,tF,tF,tF,⟨.other,1,0,(.tuple #[.int .u32 0,.int .u32 0]),true⟩,tF,tF,tF,tS 5,tF,tF,tF,tF,tF]
def row19 : List TI := [tF,tF,tF,tF,tF,tF,tF,tF,tF,tF,tF,tF,tF,tF,⟨.other,1,0,(.tuple #[.int .i32 0,.int .i64 0]),true⟩,tF]
def row20 : List TI := [tF,tF,tF,tF,tF,⟨.array 256 5,256,256,(.agg (([.int .u8 0,.int .u8 0,.int .u8 0,.int .u8 0,.int .u8 0,.int .u8 0,.int .u8 0,.int .u8 0,.int .u8 0,.int .u8 0,.int .u8 0,.int .u8 0,.int .u8 0,.int .u8 0,.int .u8 0,.int .u8 0,.int .u8 0,.int .u8 0,.int .u8 0,.int .u8 0,.int .u8 0,.int .u8 0,.int .u8 0,.int .u8 0,.int .u8 0,.int .u8 0,.int .u8 0,.int .u8 0,.int .u8 0,.int .u8 0,.int .u8 0,.int .u8 0,.int .u8 0,.int .u8 0,.int .u8 0,.int .u8 0,.int .u8 0,.int .u8 0,.int .u8 0,.int .u8 0,.int .u8 0,.int .u8 0,.int .u8 0,.int .u8 0,.int .u8 0,.int .u8 0,.int .u8 0,.int .u8 0,.int .u8 0,.int .u8 0,.int .u8 0,.int .u8 0,.int .u8 0,.int .u8 0,.int .u8 0,.int .u8 0,.int .u8 0,.int .u8 0,.int .u8 0,.int .u8 0,.int .u8 0,.int .u8 0,.int .u8 0,.int .u8 0].append [.int .u8 0,.int .u8 0,.int .u8 0,.int .u8 0,.int .u8 0,.int .u8 0,.int .u8 0,.int .u8 0,.int .u8 0,.int .u8 0,.int .u8 0,.int .u8 0,.int .u8 0,.int .u8 0,.int .u8 0,.int .u8 0,.int .u8 0,.int .u8 0,.int .u8 0,.int .u8 0,.int .u8 0,.int .u8 0,.int .u8 0,.int .u8 0,.int .u8 0,.int .u8 0,.int .u8 0,.int .u8 0,.int .u8 0,.int .u8 0,.int .u8 0,.int .u8 0,.int .u8 0,.int .u8 0,.int .u8 0,.int .u8 0,.int .u8 0,.int .u8 0,.int .u8 0,.int .u8 0,.int .u8 0,.int .u8 0,.int .u8 0,.int .u8 0,.int .u8 0,.int .u8 0,.int .u8 0,.int .u8 0,.int .u8 0,.int .u8 0,.int .u8 0,.int .u8 0,.int .u8 0,.int .u8 0,.int .u8 0,.int .u8 0,.int .u8 0,.int .u8 0,.int .u8 0,.int .u8 0,.int .u8 0,.int .u8 0,.int .u8 0,.int .u8 0]).append ([.int .u8 0,.int .u8 0,.int .u8 0,.int .u8 0,.int .u8 0,.int .u8 0,.int .u8 0,.int .u8 0,.int .u8 0,.int .u8 0,.int .u8 0,.int .u8 0,.int .u8 0,.int .u8 0,.int .u8 0,.int .u8 0,.int .u8 0,.int .u8 0,.int .u8 0,.int .u8 0,.int .u8 0,.int .u8 0,.int .u8 0,.int .u8 0,.int .u8 0,.int .u8 0,.int .u8 0,.int .u8 0,.int .u8 0,.int .u8 0,.int .u8 0,.int .u8 0,.int .u8 0,.int .u8 0,.int .u8 0,.int .u8 0,.int .u8 0,.int .u8 0,.int .u8 0,.int .u8 0,.int .u8 0,.int .u8 0,.int .u8 0,.int .u8 0,.int .u8 0,.int .u8 0,.int .u8 0,.int .u8 0,.int .u8 0,.int .u8 0,.int .u8 0,.int .u8 0,.int .u8 0,.int .u8 0,.int .u8 0,.int .u8 0,.int .u8 0,.int .u8 0,.int .u8 0,.int .u8 0,.int .u8 0,.int .u8 0,.int .u8 0,.int .u8 0].append [.int .u8 0,.int .u8 0,.int .u8 0,.int .u8 0,.int .u8 0,.int .u8 0,.int .u8 0,.int .u8 0,.int .u8 0,.int .u8 0,.int .u8 0,.int .u8 0,.int .u8 0,.int .u8 0,.int .u8 0,.int .u8 0,.int .u8 0,.int .u8 0,.int .u8 0,.int .u8 0,.int .u8 0,.int .u8 0,.int .u8 0,.int .u8 0,.int .u8 0,.int .u8 0,.int .u8 0,.int .u8 0,.int .u8 0,.int .u8 0,.int .u8 0,.int .u8 0,.int .u8 0,.int .u8 0,.int .u8 0,.int .u8 0,.int .u8 0,.int .u8 0,.int .u8 0,.int .u8 0,.int .u8 0,.int .u8 0,.int .u8 0,.int .u8 0,.int .u8 0,.int .u8 0,.int .u8 0,.int .u8 0,.int .u8 0,.int .u8 0,.int .u8 0,.int .u8 0,.int .u8 0,.int .u8 0,.int .u8 0,.int .u8 0,.int .u8 0,.int .u8 0,.int .u8 0,.int .u8 0,.int .u8 0,.int .u8 0,.int .u8 0,.int .u8 0])).toArray),true⟩,⟨.struct [(5,0),(5,1)],2,2,(.agg #[.int .u8 0,.int .u8 0]),true⟩,⟨.struct [(5,0),(5,1)],2,2,(.agg #[.int .u8 0,.int .u8 0]),true⟩,⟨.array 16 327,32,32,(.agg (Array.replicate 32 (.int .u8 0))),true⟩,tF,⟨.struct [(17,0),(17,1),(17,2),(9,3)],4,40,(.agg #[.pointer none,.pointer none,.pointer none,.string ⟨#[]⟩]),false⟩,⟨.struct [(17,0),(17,1),(17,2),(9,3)],4,40,(.agg #[.pointer none,.pointer none,.pointer none,.string ⟨#[]⟩]),false⟩,⟨.array 0 16,0,0,(.agg #[]),true⟩,⟨.other,0,0,(.agg #[]),false⟩,⟨.other,0,0,(.agg #[]),false⟩,tF]
def row21 : List TI := [⟨.int .u8,1,1,(.int .u8 0),true⟩,⟨.int .u8,1,1,(.int .u8 0),true⟩,tF,tP 5,⟨.int .i32,1,4,(.int .i32 0),true⟩,⟨.int .i32,1,4,(.int .i32 0),true⟩,⟨.struct [(12,0),(12,1),(221,2),(336,3),(5,4),(5,5),(337,6),(338,7),(339,8),(340,9),(341,10)],11,48,(.agg #[.int .u64 0,.int .u64 0,.int .u32 0,.int .u8 0,.int .u8 0,.int .u8 0,.int .u8 0,.nilFunc,.pointer none,.int .i32 0,.int .i32 0]),false⟩,⟨.struct [(12,0),(12,1),(221,2),(336,3),(5,4),(5,5),(337,6),(338,7),(339,8),(340,9),(341,10)],11,48,(.agg #[.int .u64 0,.int .u64 0,.int .u32 0,.int .u8 0,.int .u8 0,.int .u8 0,.int .u8 0,.nilFunc,.pointer none,.int .i32 0,.int .i32 0]),false⟩,tS 357,tS 359,tS 361,tS 363,⟨.struct [(9,0),(344,1),(345,2),(346,3),(347,4)],5,112,(.agg #[.string ⟨#[]⟩,.slice none 0 0,.slice none 0 0,.slice none 0 0,.slice none 0 0]),true⟩,⟨.struct [(9,0),(344,1),(345,2),(346,3),(347,4)],5,112,(.agg #[.string ⟨#[]⟩,.slice none 0 0,.slice none 0 0,.slice none 0 0,.slice none 0 0]),true⟩,⟨.other,1,8,(.pointer none),true⟩,tS 365]
def row22 : List TI := [tS 355,tS 367,⟨.struct [(3,0),(9,1),(9,2),(352,3),(353,4)],5,88,(.agg #[.int .i64 0,.string ⟨#[]⟩,.string ⟨#[]⟩,.slice none 0 0,.slice none 0 0]),true⟩,⟨.struct [(3,0),(9,1),(9,2),(352,3),(353,4)],5,88,(.agg #[.int .i64 0,.string ⟨#[]⟩,.string ⟨#[]⟩,.slice none 0 0,.slice none 0 0]),true⟩,⟨.struct [(9,0),(351,1),(355,2),(355,7)],12,216,(.agg #[.string ⟨#[]⟩,.slice none 0 0,.int .i64 0,.string ⟨#[]⟩,.string ⟨#[]⟩,.slice none 0 0,.slice none 0 0,.int .i64 0,.string ⟨#[]⟩,.string ⟨#[]⟩,.slice none 0 0,.slice none 0 0]),true⟩,⟨.struct [(9,0),(351,1),(355,2),(355,7)],12,216,(.agg #[.string ⟨#[]⟩,.slice none 0 0,.int .i64 0,.string ⟨#[]⟩,.string ⟨#[]⟩,.slice none 0 0,.slice none 0 0,.int .i64 0,.string ⟨#[]⟩,.string ⟨#[]⟩,.slice none 0 0,.slice none 0 0]),true⟩,⟨.struct [(9,0),(351,1),(355,2)],7,128,(.agg #[.string ⟨#[]⟩,.slice none 0 0,.int .i64 0,.string ⟨#[]⟩,.string ⟨#[]⟩,.slice none 0 0,.slice none 0 0]),true⟩,⟨.struct [(9,0),(351,1),(355,2)],7,128,(.agg #[.string ⟨#[]⟩,.slice none 0 0,.int .i64 0,.string ⟨#[]⟩,.string ⟨#[]⟩,.slice none 0 0,.slice none 0 0]),true⟩,⟨.struct [(9,0),(9,1),(9,2)],3,48,(.agg #[.string ⟨#[]⟩,.string ⟨#[]⟩,.string ⟨#[]⟩]),true⟩,⟨.struct [(9,0),(9,1),(9,2)],3,48,(.agg #[.string ⟨#[]⟩,.string ⟨#[]⟩,.string ⟨#[]⟩]),true⟩,⟨.struct [(9,0),(9,1)],2,32,(.agg #[.string ⟨#[]⟩,.string ⟨#[]⟩]),true⟩,⟨.struct [(9,0),(9,1)],2,32,(.agg #[.string ⟨#[]⟩,.string ⟨#[]⟩]),true⟩,⟨.struct [(9,0),(3,1),(355,2)],7,112,(.agg #[.string ⟨#[]⟩,.int .i64 0,.int .i64 0,.string ⟨#[]⟩,.string ⟨#[]⟩,.slice none 0 0,.slice none 0 0]),true⟩,⟨.struct [(9,0),(3,1),(355,2)],7,112,(.agg #[.string ⟨#[]⟩,.int .i64 0,.int .i64 0,.string ⟨#[]⟩,.string ⟨#[]⟩,.slice none 0 0,.slice none 0 0]),true⟩,⟨.struct [(9,0),(355,1),(4,6)],7,112,(.agg #[.string ⟨#[]⟩,.int .i64 0,.string ⟨#[]⟩,.string ⟨#[]⟩,.slice none 0 0,.slice none 0 0,.bool .false]),true⟩,⟨.struct [(9,0),(355,1),(4,6)],7,112,(.agg #[.string ⟨#[]⟩,.int .i64 0,.string ⟨#[]⟩,.string ⟨#[]⟩,.slice none 0 0,.slice none 0 0,.bool .false]),true⟩]
def tbl : List (List TI) := [row0,row1,row2,row3,row4,row5,row6,row7,row8,row9,row10,row11,row12,row13,row14,row15,row16,row17,row18,row19,row20,row21,row22]
def tab : Tab := fun t => nthL dTI (nthL [] tbl (t / 16)) (t % 16)
theorem tab_rows : (List.range 368).map tab = (List.range 368).map (tiOf Tryz.prog) := by kernel_rfl
theorem nthL_ge {α : Type} (d : α) : ∀ (l : List α) (n : Nat),l.length ≤ n → nthL d l n = d
 | [],_,_ => rfl
 | _ :: _,0,h => by simp at h
 | _ :: r,n + 1,h => nthL_ge d r n (by simpa using h)
theorem tab_ok : TabOk Tryz.prog tab := by
 intro t
 by_cases h : t < 368
 ·have := congrArg (fun l => l[t]?) tab_rows
  rw [List.getElem?_map,List.getElem?_map,List.getElem?_range h,Option.map_some,Option.map_some] at this
  exact .inr (Option.some.inj this)
 ·have h1 : nthL ([] : List TI) tbl (t / 16) = [] := nthL_ge _ _ _ (by show 23 ≤ t / 16; omega)
  have h2 : tab t = dTI := by unfold tab; rw [h1]; rfl
  exact .inl h2
end Go.Eng

namespace Go.Eng

section
variable {P:Program}
theorem enters_fn {f : Nat} {fn : Func} {c : Code} (hf : P.funcs[f]? = some fn) (hn : (fn.name == "runtime.NumGoroutine") = false) (hb : fn.body = some c) : Enters P f := ⟨fn, hf, hn, by simp [hb]⟩
theorem pcall_same {f:Nat} {args:List AV} {res:AV} (vals:List Value) (v:Value) (hE:Enters P f) (ha:args=vals.map .v) (hres:∀ g w,Rep g w NoU res v)
  (h:∀ w,(∃ m,w.cell? ⟨gB,0,none⟩=some (.int .i64 m))→Calls P f vals.toArray w fun e w'=>e=.returned v∧w'=w):PCall P f args res:=by
 refine ⟨hE,fun g w us hs hv hI=>?_⟩;have hu:us=vals.toArray:=by
  subst ha;rw [List.length_map] at hs;refine Array.ext (by simpa using hs) fun i h1 h2=>?_
  have:=hv i (.v (vals[i]'(by simpa using h2))) us[i] (by rw [List.getElem?_map,List.getElem?_eq_getElem (by simpa using h2)]; rfl) (by rw [Array.getElem?_eq_getElem h1])
  rw [this.v_eq]; simp
 subst hu;refine (h w hI.glob.1.2).mono ?_
 rintro e w' ⟨rfl,rfl⟩
 exact ⟨v,res,hfree,g,rfl,⟨rfl,rfl⟩,(hres g _).up _,hI,.refl _ _ _⟩
theorem rep_vals {g:Gh} {w:World} : ∀ (vs:List Value),Rep g w NoU (.tup (vs.map .v)) (.tuple vs.toArray):=fun vs =>
 .tup _ _ _ (by simp) fun i av x h1 h2=>by
  rw [List.getElem?_map,Option.map_eq_some_iff] at h1;obtain ⟨a,e1,rfl⟩:=h1
  have:vs[i]?=some x:=by simpa using h2
  rw [e1] at this; cases this;exact .v _ _
theorem pcall_new {f:Nat} {args:List AV} (vals:List Value) (es:List Value) (T:TypeId) (hE:Enters P f) (ha:args=vals.map .v) (h1:∀ x ∈ es,x.oneCell'=true)
  (h:∀ w,(∃ m,w.cell? ⟨gB,0,none⟩=some (.int .i64 m))→Calls P f vals.toArray w fun e w'=>e=.returned (.slice (some ⟨w.heap.size,0,none⟩) es.length es.length)∧w'=w.alloc (.cells es.toArray T)) :
  PCall P f args (.slice .none (es.map fun x=>[.v x])):=by
 refine ⟨hE,fun g w us hs hv hI=>?_⟩;have hu:us=vals.toArray:=by
  subst ha;rw [List.length_map] at hs;refine Array.ext (by simpa using hs) fun i h1 h2=>?_
  have:=hv i (.v (vals[i]'(by simpa using h2))) us[i] (by rw [List.getElem?_map,List.getElem?_eq_getElem (by simpa using h2)]; rfl) (by rw [Array.getElem?_eq_getElem h1])
  rw [this.v_eq]; simp
 subst hu;refine (h w hI.glob.1.2).mono ?_
 rintro e w' ⟨rfl,rfl⟩
 have hnew:(w.alloc (.cells es.toArray T)).heap[w.heap.size]?=some (.cells es.toArray T (0,0)):=heap_new w _ rfl;have hold:∀ b,b<w.heap.size→(w.alloc (.cells es.toArray T)).heap[b]?=w.heap[b]?:=fun b hb=>heap_alloc_old _ _ hb;have hK:Keeps g w ⟨g.ρ,g.ln,g.tk,g.own,g.more w.heap.size es.length⟩ (w.alloc (.cells es.toArray T)):=fun b o hb=>by
  have hlt:=hI.slt b o hb;exact ⟨.inl hb,by simp only [World.cell?,hold b hlt],fun es ck he=>(hold b hlt).trans he⟩
 refine ⟨_,_,hfree,⟨g.ρ,g.ln,g.tk,g.own,g.more w.heap.size es.length⟩,rfl,⟨rfl,rfl⟩,?_,⟨rfl,rfl,rfl,?_,fun b hb _=>hold b hb,fun b o hs=>?_,fun _=>trivial,fun _ _ _ h=>h.elim,fun _ _ h=>h.elim,fun b o hs=>?_,hI.glob.keep hK⟩,⟨.refl _ _,fun _ h=>h,hK⟩⟩
 ·have hr:RepL ⟨g.ρ,g.ln,g.tk,g.own,g.more w.heap.size es.length⟩ (w.alloc (.cells es.toArray T)) NoU (es.map fun x=>[AV.v x]).flatten (es.toArray.toList.take ((es.map fun x=>[AV.v x]).length*1)):=by
   have hfl:∀ l:List Value,(l.map fun x=>[AV.v x]).flatten=l.map .v:=fun l=>by
    induction l with
    | nil=>rfl
    | cons a l ih=>rw [List.map_cons,List.flatten_cons,ih]; rfl
   rw [hfl];simp only [List.length_map,Nat.mul_one,List.take_length];refine ⟨by simp,fun x hx=>h1 x (by simpa using hx),fun i av x q1 q2=>?_⟩;rw [List.getElem?_map,Option.map_eq_some_iff] at q1;obtain ⟨a,e1,rfl⟩:=q1;rw [e1] at q2; cases q2;exact .v _ _
  have:=Rep.slice_row (U:=used hfree) (cap:=es.length) (sz:=1) (es:=es.map fun x=>[AV.v x]) hnew (fun cs hcs=>by
   obtain ⟨x,_,rfl⟩:=List.mem_map.1 hcs; rfl) (by simp) hr (fun o ho=>.inr ⟨rfl,by simpa using ho⟩)
  simpa using this
 ·rw [World.size_alloc]; omega
 ·rw [World.size_alloc];rcases hs with hs | ⟨rfl,_⟩
  ·have:=hI.slt b o hs; omega
  ·omega
 ·rcases hs with hs | ⟨rfl,_⟩
  ·exact .inl hs
  ·exact .inr (.inl (Nat.le_refl _))
end
end Go.Eng

namespace Go.Eng
open Go.Sort

section
variable {P:Program}
theorem putCells_take (F c:Array Value) (h:F.size≤c.size):(putCells id 0 F c).toList.take F.size=F.toList∧(putCells id 0 F c).size=c.size:=by
 have hs:(putCells id 0 F c).size=c.size:=by simp [putCells]
 refine ⟨?_,hs⟩;apply List.ext_getElem?;intro i;rw [List.getElem?_take,Array.getElem?_toList,Array.getElem?_toList]
 by_cases hi:i<F.size
 ·rw [if_pos hi];have hi2:i<c.size:=by omega
  simp only [putCells,Array.getElem?_mapIdx,Array.getElem?_eq_getElem hi2,Array.getElem?_eq_getElem hi,Option.map_some,Nat.zero_le,true_and,Nat.zero_add,hi,if_true,Nat.sub_zero,id_eq];rw [getElem!_pos F i hi]
 ·rw [if_neg hi,Array.getElem?_eq_none (by omega)]
theorem heapOf_put (r:Nat) (o o' : HO):hput (heapOf [(r,o)] hfree) r o'=heapOf [(r,o')] hfree:=by
 funext i
 by_cases e:i=r
 ·subst e; rw [hput_same]; simp [heapOf]
 ·rw [hput_ne _ _ _ _ e]; simp [heapOf,beq_ne e]
theorem acall_row {f:Nat} {es:List (List AV)} {sz:Nat} {rest:List Value} {Q:List (List AV)→Prop} (hE:Enters P f)
  (h0:es=[]→Q []∧∀ w,Calls P f (#[.slice none 0 0]++rest.toArray) w fun e w'=>e=.returned (.tuple #[])∧w'=w)
  (h1:∀ (g:Gh) (w:World) (b cap:Nat) (F:Array Value),RepL g w NoU es.flatten F.toList→F.size=es.length*sz→Holds id w b 0 F→b<w.heap.size→Calls P f (#[.slice (some ⟨b,0,none⟩) es.length cap]++rest.toArray) w fun e w' =>
   e=.returned (.tuple #[])∧∃ (F' : Array Value) (es' : List (List AV)) (n:Nat) (os:Array Obj),F'.size=F.size∧Q es'∧es'.length=es.length∧(∀ cs ∈ es',cs.length=sz) ∧
    (∀ (g:Gh) (w:World),RepL g w NoU es.flatten F.toList→RepL g w NoU es'.flatten F'.toList)∧w'=grow (putRow id (Sort.ahead w n) b 0 F') os) :
  ACall P f (.msl 1000 es.length :: rest.map .v) (heapOf [(1000,.arr sz es)] hfree) fun r h'=>r=.tup []∧∃ es',Q es'∧h'=heapOf [(1000,.arr sz es')] hfree:=by
 refine ⟨hE,fun g w us hs hv hI=>?_⟩;have ho:=hI.objs 1000;have he:heapOf [(1000,HO.arr sz es)] hfree 1000=.arr sz es:=rfl;rw [he] at ho;obtain ⟨t1,l1,al,a2⟩:=ho;simp only [List.length_cons,List.length_map] at hs
 -- the arguments
 have hu0:0<us.size:=by omega
 have hr0:=hv 0 (.msl 1000 es.length) us[0] rfl (Array.getElem?_eq_getElem hu0);have hval:us[0]=g.ρ 1000:=by
  generalize us[0]=x at hr0;cases hr0 with
  | msl _ r n a cap hu ht hn ha hx=>exact hx l1.symm
 have hus:us=#[g.ρ 1000]++rest.toArray:=by
  refine Array.ext (by simp; omega) fun i h1 h2=>?_;cases i with
  | zero=>rw [hval]; simp
  | succ i =>
   have hi:i<rest.length:=by omega
   have:=hv (i+1) (.v rest[i]) us[i+1] (by simp [List.getElem?_eq_getElem hi]) (Array.getElem?_eq_getElem h1)
   rw [this.v_eq]; simp
 rw [hus];rcases a2 with ⟨b1,b2,b3⟩ | ⟨b,cap,E,vs,b1,b2,b3,b4,b5,b6,b7⟩
 ·subst b1;obtain ⟨q,h0⟩:=h0 rfl;rw [b2];refine (h0 w).mono ?_
  rintro e w' ⟨rfl,rfl⟩
  exact ⟨_,.tup [],_,g,rfl,⟨rfl,[],q,rfl⟩,.tup _ _ _ rfl (fun i av x h=>by simp at h),hI,.refl _ _ _⟩
 ·have hl:(heapOf [(1000,HO.arr sz es)] hfree 1000).live:=trivial;have hlt:=(hI.loc 1000 b hl b2).1;have hle:es.length*sz≤vs.size:=by rw [b5]; exact Nat.mul_le_mul_right _ b3
  have hF:((vs.toList.take (es.length*sz)).toArray).size=es.length*sz:=by simp; omega
  have hH:Holds id w b 0 (vs.toList.take (es.length*sz)).toArray:=fun j hj=>by
   have hj:j<es.length*sz:=by rw [hF] at hj; exact hj
   refine ⟨?_,?_⟩
   ·have hj2:j<vs.size:=by omega
    simp only [World.cell?,b4,Nat.zero_add,Option.isSome_none,Bool.false_eq_true,if_false];rw [Array.getElem?_eq_getElem hj2,getElem!_pos _ j (by rw [hF]; exact hj)];simp
   ·simp [World.frozen?,b4]
  rw [b1];refine (h1 g w b cap _ (by simpa using b6) hF hH hlt).mono ?_
  rintro e w' ⟨rfl,F',es',n,os,f1,f2,f3,f4,f5,rfl⟩
  have hF' : F'.size=es.length*sz:=f1.trans hF;have hpt:=putCells_take F' vs (by omega);have hb' : (grow (putRow id (Sort.ahead w n) b 0 F') os).heap[b]?=some (.cells (putCells id 0 F' vs) E (0,0)):=by
   rw [heap_grow_old _ _ (by rw [size_putRow]; exact hlt)];show (w.heap.modify b (onCells (putCells id 0 F')))[b]?=_;rw [Array.getElem?_modify,if_pos rfl,b4]; rfl
  have hob:∀ k,k<w.heap.size→k≠b→(grow (putRow id (Sort.ahead w n) b 0 F') os).heap[k]?=w.heap[k]?:=fun k hk hne=>by
   rw [heap_grow_old _ _ (by rw [size_putRow]; exact hk)];simp [putRow,mapBlock,Array.getElem?_modify,Ne.symm hne]
  have hsz:w.heap.size≤(grow (putRow id (Sort.ahead w n) b 0 F') os).heap.size:=by rw [size_grow,size_putRow]; show w.heap.size≤w.heap.size+_; omega
  obtain ⟨k1,k2⟩:=hI.upd 1000 (.arr sz es') (g.ρ 1000) (g.ln 1000) (g.tk 1000) (g.own 1000) g.S (grow (putRow id (Sort.ahead w n) b 0 F') os) (some b) ⟨rfl,rfl,rfl,hsz⟩
   (fun k hk hne=>hob k hk (fun e=>hne (by rw [e]))) (fun b' e=>by cases e; exact ⟨hl,b2⟩) (fun _ _ h=>h) (fun _ _ h=>.inl h) (fun b' o e hs=>by cases e; exact absurd hs (b7 o))
   (fun b' _ e=>by rw [b2] at e; cases e; exact ⟨Nat.lt_of_lt_of_le hlt hsz,.inl ⟨hl,b2⟩⟩) (by simp) (fun _=>⟨rfl,Nat.le_refl _,fun _=>rfl,fun _=>rfl⟩) (fun hg hk=>by
    refine ⟨by simp [Gh.upd,t1],by simp [Gh.upd,l1,f3],f4,.inr ⟨b,cap,E,_,by simp [Gh.upd,b1,f3],by simp [Gh.upd,b2],by omega,hb',by rw [hpt.2,b5],?_,b7⟩⟩
    have:=f5 g w (by simpa using b6)
    rw [f3,← hF',hpt.1];exact this.mono hk (fun _ h=>h) (fun _ h=>h.elim))
  rw [heapOf_put] at k1 k2;exact ⟨_,.tup [],_,_,rfl,⟨rfl,es',f2,rfl⟩,.tup _ _ _ rfl (fun i av x h=>by simp at h),k1,k2⟩
end
end Go.Eng

namespace Go.Eng
open Go.Sort Go.Proofs

theorem repL_append {g:Gh} {w:World} {U:Nat→Prop} {cs cs' : List AV} {vs vs' : List Value} (h:vs.length=cs.length):RepL g w U (cs++cs') (vs++vs')↔RepL g w U cs vs∧RepL g w U cs' vs':=by
 constructor
 ·intro ⟨h1,h2,h3⟩;refine ⟨⟨h,fun x hx=>h2 x (List.mem_append_left _ hx),fun i av x q1 q2=>?_⟩,⟨by simp at h1; omega,fun x hx=>h2 x (List.mem_append_right _ hx),fun i av x q1 q2=>?_⟩⟩
  ·have a1:=(List.getElem?_eq_some_iff.1 q1).1;have a2:=(List.getElem?_eq_some_iff.1 q2).1;exact h3 i av x (by rw [List.getElem?_append_left a1]; exact q1) (by rw [List.getElem?_append_left a2]; exact q2)
  ·exact h3 (cs.length+i) av x (by rw [List.getElem?_append_right (by omega),Nat.add_sub_cancel_left]; exact q1) (by rw [List.getElem?_append_right (by omega),h,Nat.add_sub_cancel_left]; exact q2)
 ·intro ⟨⟨h1,h2,h3⟩,k1,k2,k3⟩;refine ⟨by simp [h1,k1],fun x hx=>(List.mem_append.1 hx).elim (h2 x) (k2 x),fun i av x q1 q2=>?_⟩
  by_cases hi:i<cs.length
  ·rw [List.getElem?_append_left hi] at q1;rw [List.getElem?_append_left (by omega)] at q2;exact h3 i av x q1 q2
  ·rw [List.getElem?_append_right (by omega)] at q1;rw [List.getElem?_append_right (by omega)] at q2;rw [h] at q2;exact k3 _ av x q1 q2
theorem repL_flat {α β:Type} {g:Gh} {w:World} {U:Nat→Prop} {encB:β→List AV} {enc:α→List Value} (hl:∀ x y,(enc x).length=(encB y).length):∀ ps:List (β × α),
  RepL g w U (ps.map fun p=>encB p.1).flatten (ps.map fun p=>enc p.2).flatten↔∀ p ∈ ps,RepL g w U (encB p.1) (enc p.2)
 | []=>by simp [RepL]
 | p :: ps=>by
  simp only [List.map_cons,List.flatten_cons];rw [repL_append (hl _ _),repL_flat hl ps];simp
theorem perm_map_ex {α β:Type} {f:α→β} : ∀ {m m' : List β},m.Perm m'→∀ ps:List α,ps.map f=m→∃ ps' : List α,ps'.Perm ps∧ps'.map f=m':=by
 intro m m' h
 induction h with
 | nil=>intro ps e; exact ⟨ps,.refl _,e⟩
 | cons x h ih =>
  intro ps e;cases ps with
  | nil=>cases e
  | cons p ps =>
   rw [List.map_cons] at e
   injection e with e1 e2
   obtain ⟨ps',h1,h2⟩:=ih ps e2;exact ⟨p :: ps',h1.cons p,by rw [List.map_cons,e1,h2]⟩
 | swap x y l =>
  intro ps e
  match ps,e with
  | p :: q :: ps,e =>
   simp only [List.map_cons,List.cons.injEq] at e;exact ⟨q :: p :: ps,List.Perm.swap _ _ _,by simp [e.1,e.2.1,e.2.2]⟩
 | trans h1 h2 ih1 ih2 =>
  intro ps e;obtain ⟨ps1,p1,p2⟩:=ih1 ps e;obtain ⟨ps2,q1,q2⟩:=ih2 ps1 p2;exact ⟨ps2,q1.trans p1,q2⟩
theorem flatK_list {α:Type} [Inhabited α] {enc:α→List Value} {k:Nat} (hk:∀ x,(enc x).length=k) (d:Array α):(flatK enc k d).toList=(d.toList.map enc).flatten:=by
 have hl:∀ cs ∈ d.toList.map enc,cs.length=k:=fun cs hcs=>by
  obtain ⟨x,_,rfl⟩:=List.mem_map.1 hcs; exact hk x
 have hlen:(d.toList.map enc).flatten.length=d.size*k:=by
  have:∀ l:List α,(l.map enc).flatten.length=l.length*k:=fun l=>by
   induction l with
   | nil=>simp
   | cons a l ih=>simp [hk,Nat.succ_mul,ih]; omega
  rw [this]; simp
 apply List.ext_getElem?;intro t
 by_cases ht:t<d.size*k
 ·have k0:0<k:=Nat.pos_of_ne_zero fun h=>by subst h; simp at ht
  have h1:t / k<d.size:=by rw [Nat.div_lt_iff_lt_mul k0]; exact ht
  have h2:t % k<k:=Nat.mod_lt _ k0;have e:t=t / k*k+t % k:=by rw [Nat.mul_comm]; exact (Nat.div_add_mod t k).symm
  rw [Array.getElem?_toList,Array.getElem?_eq_getElem (by simpa using ht),← getElem!_pos _ t (by simpa using ht),get_flatK _ _ _ _ ht];have hg:(d.toList.map enc)[t / k]?=some (enc d[t / k]!):=by
   rw [List.getElem?_map,Array.getElem?_toList,Array.getElem?_eq_getElem h1,getElem!_pos d _ h1]; rfl
  have:=flatten_get hl hg h2
  rw [e,this,← e];rw [List.getElem?_eq_getElem (by rw [hk]; exact h2),getElem!_pos _ _ (by rw [hk]; exact h2)]
 ·rw [List.getElem?_eq_none (by simp; omega),List.getElem?_eq_none (by omega)]
theorem zip_fst {α β:Type} : ∀ {l:List α} {m:List β},l.length=m.length→(l.zip m).map (·.1)=l∧(l.zip m).map (·.2)=m
 | [],[],_=>⟨rfl,rfl⟩
 | a :: l,b :: m,h=>by
  have:=zip_fst (l:=l) (m:=m) (by simpa using h)
  simp [this.1,this.2]
section
variable {P:Program}
theorem acall_sortfunc {α β:Type} [Inhabited α] {f k:Nat} {rest:List Value} (hE:Enters P f) (encB:β→List AV) (enc:α→List Value) (hB:∀ x,(encB x).length=k) (hk:∀ x,(enc x).length=k) (lt:α→α→Bool) (R:β→α→Prop) (l:List β) (hl:l.length<4611686018427387904)
  (hR:∀ x ∈ l,∀ (g:Gh) (w:World) (vs:List Value),RepL g w NoU (encB x) vs→∃ a,enc a=vs∧R x a)
  (hcall:∀ (w:World) (b cap:Nat) (d:Array α),HoldsK enc k w b 0 d→b<w.heap.size→d.size<4611686018427387904→d.size=l.length→Calls P f (#[.slice (some ⟨b,0,none⟩) d.size cap]++rest.toArray) w fun e w' =>
   e=.returned (.tuple #[])∧∃ d' n os,PermIn 0 d.size d d'∧SortedIn lt 0 d.size d'∧w'=sortWorldK enc k w b 0 n d' os)
  (hnone:l=[]→∀ w:World,Calls P f (#[.slice none 0 0]++rest.toArray) w fun e w'=>e=.returned (.tuple #[])∧w'=w) :
  ACall P f (.msl 1000 l.length :: rest.map .v) (heapOf [(1000,.arr k (l.map encB))] hfree) fun r h' =>
   r=.tup []∧∃ l' : List β,l'.Perm l∧(∃ al:List α,al.length=l'.length∧(∀ (i:Nat) (x:β) (a:α),l'[i]?=some x→al[i]?=some a→R x a)∧al.Pairwise (fun x y=>lt y x=false))∧h'=heapOf [(1000,.arr k (l'.map encB))] hfree:=by
 have hmain:=acall_row (P:=P) (f:=f) (es:=l.map encB) (sz:=k) (rest:=rest)
  (Q:=fun es'=>∃ l' : List β,l'.Perm l∧(∃ al:List α,al.length=l'.length∧(∀ (i:Nat) (x:β) (a:α),l'[i]?=some x→al[i]?=some a→R x a)∧al.Pairwise (fun x y=>lt y x=false))∧es'=l'.map encB) hE ?_ ?_
 ·rw [List.length_map] at hmain;refine ⟨hE,fun g w vals q1 q2 q3=>(hmain.2 g w vals q1 q2 q3).mono fun _ _ ⟨v,r,h',g',e1,⟨e2,es',⟨l',p1,p2,p3⟩,p4⟩,rest⟩=>⟨v,r,h',g',e1,⟨e2,l',p1,p2,by rw [p4,p3]⟩,rest⟩⟩
 ·intro e
  have:l=[]:=by simpa using e
  subst this;exact ⟨⟨[],.refl _,⟨[],rfl,fun i x a h=>by simp at h,.nil⟩,rfl⟩,hnone rfl⟩
 ·intro g w b cap F hr hF hH hb
  -- the elements in memory
  have hsplit:∀ (m:List β) (vs:List Value),(∀ x ∈ m,x ∈ l)→RepL g w NoU (m.map encB).flatten vs→∃ al:List α,al.length=m.length∧vs=(al.map enc).flatten∧∀ (i:Nat) (x:β) (a:α),m[i]?=some x→al[i]?=some a→R x a:=by
   intro m
   induction m with
   | nil =>
    intro vs _ h
    have:vs=[]:=List.eq_nil_of_length_eq_zero (by simpa using h.1)
    subst this;exact ⟨[],rfl,rfl,fun i x a h=>by simp at h⟩
   | cons x m ih =>
    intro vs hm h;rw [List.map_cons,List.flatten_cons] at h;have hlen:=h.1;rw [List.length_append,hB] at hlen;have e:vs=vs.take k++vs.drop k:=(List.take_append_drop k vs).symm;rw [e] at h;rw [repL_append (by rw [List.length_take,hB]; omega)] at h;obtain ⟨a,a1,a2⟩:=hR x (hm x (List.mem_cons_self ..)) g w _ h.1;obtain ⟨al,b1,b2,b3⟩:=ih _ (fun y hy=>hm y (List.mem_cons_of_mem _ hy)) h.2;refine ⟨a :: al,by simp [b1],by rw [List.map_cons,List.flatten_cons,a1,← b2,← e],fun i y c q1 q2=>?_⟩;cases i with
    | zero=>simp only [List.getElem?_cons_zero,Option.some.injEq] at q1 q2; subst q1; subst q2; exact a2
    | succ i=>exact b3 i y c (by simpa using q1) (by simpa using q2)
  obtain ⟨al,s1,s2,s3⟩:=hsplit l F.toList (fun _ h=>h) hr;have hFd:F=flatK enc k al.toArray:=Array.toList_inj.1 (by rw [flatK_list hk,s2]);have hd:HoldsK enc k w b 0 al.toArray:=by unfold HoldsK; rw [← hFd]; exact hH
  have hc:=hcall w b cap al.toArray hd hb (by simpa [s1] using hl) (by simp [s1]);have hsz:al.toArray.size=(l.map encB).length:=by simp [s1]
  rw [hsz] at hc;refine hc.mono ?_
  rintro e w' ⟨rfl,d',n,os,p1,p2,rfl⟩
  obtain ⟨z1,z2⟩:=zip_fst s1.symm;obtain ⟨hsz',_,hperm⟩:=p1;have hsz' : d'.size=al.length:=by rw [hsz']; simp
  have e1:d'.extract 0 (l.map encB).length=d':=by rw [show (l.map encB).length=d'.size by rw [hsz']; simp [s1]]; exact Array.extract_size
  have e2:al.toArray.extract 0 (l.map encB).length=al.toArray:=by rw [← hsz]; exact Array.extract_size
  rw [e1,e2] at hperm;have hperm:al.Perm d'.toList:=by
   first
   | exact hperm.symm
   | exact hperm
   | (have:=hperm.symm; simpa using this)
  obtain ⟨ps',r1,r2⟩:=perm_map_ex hperm (l.zip al) z2;have rel:∀ p ∈ l.zip al,R p.1 p.2:=fun p hp=>by
   obtain ⟨i,hi⟩:=List.mem_iff_getElem?.1 hp;rw [List.getElem?_zip_eq_some] at hi;exact s3 i _ _ hi.1 hi.2
  refine ⟨rfl,flatK enc k d',(ps'.map (·.1)).map encB,n,os,by rw [size_flatK,hsz',hF]; simp [s1],⟨ps'.map (·.1),?_,⟨d'.toList,by rw [← r2]; simp,fun i x a q1 q2=>?_,?_⟩,rfl⟩,by have:=r1.length_eq; simp [this,s1],fun cs hcs=>?_,fun g w hr=>?_,?_⟩
  ·have:=r1.map (·.1); rw [z1] at this; exact this
  ·rw [← r2] at q2;rw [List.getElem?_map,Option.map_eq_some_iff] at q1 q2;obtain ⟨p,q1,rfl⟩:=q1;obtain ⟨p',q2,rfl⟩:=q2;rw [q1] at q2; cases q2;exact rel p (r1.mem_iff.1 (List.mem_of_getElem? q1))
  ·rw [List.pairwise_iff_getElem];intro i j hi hj hij;have hi' : i<d'.size:=by simpa using hi
   have hj' : j<d'.size:=by simpa using hj
   have:=p2 i j (Nat.zero_le _) hij (by rw [hsz'] at hj'; simp [s1] at hj' ⊢; omega)
   rw [getElem!_pos d' j hj',getElem!_pos d' i hi'] at this;simpa using this
  ·obtain ⟨x,_,rfl⟩:=List.mem_map.1 hcs; exact hB x
  ·have h1:RepL g w NoU ((l.zip al).map fun p=>encB p.1).flatten ((l.zip al).map fun p=>enc p.2).flatten:=by
    have a1:(l.zip al).map (fun p=>encB p.1)=l.map encB:=by
     have:(l.zip al).map (fun p=>encB p.1)=((l.zip al).map (·.1)).map encB:=by rw [List.map_map]; rfl
     rw [this,z1]
    have a2:(l.zip al).map (fun p=>enc p.2)=al.map enc:=by
     have:(l.zip al).map (fun p=>enc p.2)=((l.zip al).map (·.2)).map enc:=by rw [List.map_map]; rfl
     rw [this,z2]
    rw [a1,a2,← s2]; exact hr
   have hlen:∀ (x:α) (y:β),(enc x).length=(encB y).length:=fun x y=>by rw [hk,hB]
   rw [repL_flat hlen] at h1;have h2:=(repL_flat (g:=g) (w:=w) (U:=NoU) hlen ps').2 fun p hp=>h1 p (r1.mem_iff.1 hp);have b1:(ps'.map (·.1)).map encB=ps'.map fun p=>encB p.1:=by rw [List.map_map]; rfl
   have b2:(flatK enc k d').toList=(ps'.map fun p=>enc p.2).flatten:=by
    rw [flatK_list hk,← r2,List.map_map]; rfl
   rw [b1,b2]; exact h2
  ·rfl
end
end Go.Eng

namespace Go.Eng
section
variable {P:Program}
theorem acall_sub {f:Nat} {fn:Func} {c:Code} {args:List AV} {H0:List (Nat × HO)} {Q:AV→(Nat→HO)→Prop} (cx:Cx) (σ:Ren) (hP:cx.P=P) (hT:TabOk P cx.T) (hm:P.follows .mixedOrders=true) (hx:cx.ext=true) (hf:P.funcs[f]?=some fn)
  (hn : (fn.name == "runtime.NumGoroutine") = false) (hb : fn.body = some c) (hN : args.length ≤ fn.ntmps) (hc : codeOk fn.ntmps c = true) (hσ : (renInj σ && extOk σ H0) = true)
  (hk:awp cx c (endG cx fn.results.toList σ fun r h'=>∃ r',Sub r r'∧Q r' h') ⟨envA args,heapOf H0 hfree⟩) (hY:∀ l σ g w,cx.yp l σ g w:=by exact fun _ _ _ _=>trivial):ACall P f args (heapOf H0 hfree) Q :=
 (gcall_of cx σ hP hT hm hx hf hn hb hN hc hσ hk hY).mono fun _ _ ⟨r',s,q⟩=>⟨r',s,q⟩
end
end Go.Eng

namespace Go.Eng
open Go.Sort
theorem RepL.append {g:Gh} {w:World} {U:Nat→Prop} {as1 bs:List AV} {xs ys:List Value} (h:RepL g w U as1 xs) (k:RepL g w U bs ys):RepL g w U (as1++bs) (xs++ys):=by
 refine ⟨by rw [List.length_append,List.length_append,h.1,k.1],fun x hx=>?_,fun i av x q1 q2=>?_⟩
 ·rcases List.mem_append.1 hx with hx | hx
  ·exact h.2.1 x hx
  ·exact k.2.1 x hx
 ·have hl:=h.1
  by_cases hi:i<as1.length
  ·rw [List.getElem?_append_left hi] at q1;rw [List.getElem?_append_left (by omega)] at q2;exact h.2.2 i av x q1 q2
  ·rw [List.getElem?_append_right (by omega)] at q1;rw [List.getElem?_append_right (by omega),hl] at q2;exact k.2.2 _ av x q1 q2
theorem RepL.take {g:Gh} {w:World} {U:Nat→Prop} {as1:List AV} {xs:List Value} (h:RepL g w U as1 xs) (k:Nat):RepL g w U (as1.take k) (xs.take k):=by
 refine ⟨by rw [List.length_take,List.length_take,h.1],fun x hx=>h.2.1 x (List.mem_of_mem_take hx),fun i av x q1 q2=>?_⟩;rw [List.getElem?_take] at q1 q2;split at q1
 ·rename_i hi;rw [if_pos hi] at q2;exact h.2.2 i av x q1 q2
 ·cases q1
theorem RepL.drop {g:Gh} {w:World} {U:Nat→Prop} {as1:List AV} {xs:List Value} (h:RepL g w U as1 xs) (k:Nat):RepL g w U (as1.drop k) (xs.drop k):=by
 refine ⟨by rw [List.length_drop,List.length_drop,h.1],fun x hx=>h.2.1 x (List.mem_of_mem_drop hx),fun i av x q1 q2=>?_⟩;rw [List.getElem?_drop] at q1 q2;exact h.2.2 _ av x q1 q2
theorem flatten_take {α:Type} {k:Nat} : ∀ (es:List (List α)) (i:Nat),(∀ e ∈ es,e.length=k)→es.flatten.take (i*k)=(es.take i).flatten
 | [],i,_=>by simp
 | e :: es,0,_=>by simp
 | e :: es,i+1,h=>by
  have he:=h e (List.mem_cons_self ..);rw [List.flatten_cons,List.take_succ_cons,List.flatten_cons,List.take_append,← flatten_take es i fun x hx=>h x (List.mem_cons_of_mem _ hx),List.take_of_length_le (by rw [he,Nat.succ_mul]; omega),he,show (i+1)*k - k=i*k by rw [Nat.succ_mul]; omega]
theorem flatten_drop {α:Type} {k:Nat} : ∀ (es:List (List α)) (i:Nat),(∀ e ∈ es,e.length=k)→es.flatten.drop (i*k)=(es.drop i).flatten
 | [],i,_=>by simp
 | e :: es,0,_=>by simp
 | e :: es,i+1,h=>by
  have he:=h e (List.mem_cons_self ..);rw [List.flatten_cons,List.drop_succ_cons,List.drop_append,← flatten_drop es i fun x hx=>h x (List.mem_cons_of_mem _ hx),List.drop_of_length_le (by rw [he,Nat.succ_mul]; omega),he,show (i+1)*k - k=i*k by rw [Nat.succ_mul]; omega,List.nil_append]
section
variable {P:Program}
theorem acall_cut {f:Nat} {es:List (List AV)} {sz:Nat} {rest:List Value} {n' : Nat} {Q:List (List AV)→Prop} (hE:Enters P f) (hne:es≠[]) (hn' : n'≤es.length)
  (h1:∀ (g:Gh) (w:World) (b cap:Nat) (F:Array Value),RepL g w NoU es.flatten F.toList→F.size=es.length*sz→Holds id w b 0 F→b<w.heap.size→es.length≤cap→Calls P f (#[.slice (some ⟨b,0,none⟩) es.length cap]++rest.toArray) w fun e w' =>
   e=.returned (.slice (some ⟨b,0,none⟩) n' cap)∧∃ (F' : Array Value) (es' : List (List AV)) (n:Nat) (os:Array Obj),F'.size=F.size∧Q es'∧es'.length=es.length∧(∀ cs ∈ es',cs.length=sz) ∧
    (∀ (g:Gh) (w:World),RepL g w NoU es.flatten F.toList→RepL g w NoU es'.flatten F'.toList)∧w'=grow (putRow id (Sort.ahead w n) b 0 F') os) :
  ACall P f (.msl 1000 es.length :: rest.map .v) (heapOf [(1000,.arr sz es)] hfree) fun r h'=>r=.msl 2000 n'∧∃ es',Q es'∧h'=heapOf [(1000,.dead),(2000,.arr sz (es'.take n'))] hfree:=by
 refine ⟨hE,fun g w us hs hv hI=>?_⟩;have ho:=hI.objs 1000;have he:heapOf [(1000,HO.arr sz es)] hfree 1000=.arr sz es:=rfl;rw [he] at ho;obtain ⟨t1,l1,al,a2⟩:=ho;simp only [List.length_cons,List.length_map] at hs;have hu0:0<us.size:=by omega
 have hr0:=hv 0 (.msl 1000 es.length) us[0] rfl (Array.getElem?_eq_getElem hu0);have hval:us[0]=g.ρ 1000:=by
  generalize us[0]=x at hr0;cases hr0 with
  | msl _ r n a cap hu ht hn ha hx=>exact hx l1.symm
 have hus:us=#[g.ρ 1000]++rest.toArray:=by
  refine Array.ext (by simp; omega) fun i h1 h2=>?_;cases i with
  | zero=>rw [hval]; simp
  | succ i =>
   have hi:i<rest.length:=by omega
   have:=hv (i+1) (.v rest[i]) us[i+1] (by simp [List.getElem?_eq_getElem hi]) (Array.getElem?_eq_getElem h1)
   rw [this.v_eq]; simp
 rw [hus];rcases a2 with ⟨b1,b2,b3⟩ | ⟨b,cap,E,vs,b1,b2,b3,b4,b5,b6,b7⟩
 ·exact absurd b1 hne
 ·have hl:(heapOf [(1000,HO.arr sz es)] hfree 1000).live:=trivial;have hlt:=(hI.loc 1000 b hl b2).1;have hle:es.length*sz≤vs.size:=by rw [b5]; exact Nat.mul_le_mul_right _ b3
  have hF:((vs.toList.take (es.length*sz)).toArray).size=es.length*sz:=by simp; omega
  have hH:Holds id w b 0 (vs.toList.take (es.length*sz)).toArray:=fun j hj=>by
   have hj:j<es.length*sz:=by rw [hF] at hj; exact hj
   refine ⟨?_,?_⟩
   ·have hj2:j<vs.size:=by omega
    simp only [World.cell?,b4,Nat.zero_add,Option.isSome_none,Bool.false_eq_true,if_false];rw [Array.getElem?_eq_getElem hj2,getElem!_pos _ j (by rw [hF]; exact hj)];simp
   ·simp [World.frozen?,b4]
  rw [b1];refine (h1 g w b cap _ (by simpa using b6) hF hH hlt b3).mono ?_
  rintro e w' ⟨rfl,F',es',n,os,f1,f2,f3,f4,f5,rfl⟩
  have hF' : F'.size=es.length*sz:=f1.trans hF;have hpt:=putCells_take F' vs (by omega);have hb' : (grow (putRow id (Sort.ahead w n) b 0 F') os).heap[b]?=some (.cells (putCells id 0 F' vs) E (0,0)):=by
   rw [heap_grow_old _ _ (by rw [size_putRow]; exact hlt)];show (w.heap.modify b (onCells (putCells id 0 F')))[b]?=_;rw [Array.getElem?_modify,if_pos rfl,b4]; rfl
  have hob:∀ k,k<w.heap.size→k≠b→(grow (putRow id (Sort.ahead w n) b 0 F') os).heap[k]?=w.heap[k]?:=fun k hk hne=>by
   rw [heap_grow_old _ _ (by rw [size_putRow]; exact hk)];simp [putRow,mapBlock,Array.getElem?_modify,Ne.symm hne]
  have hsz:w.heap.size≤(grow (putRow id (Sort.ahead w n) b 0 F') os).heap.size:=by rw [size_grow,size_putRow]; show w.heap.size≤w.heap.size+_; omega
  obtain ⟨k1,k2⟩:=hI.upd 1000 (.arr sz es') (g.ρ 1000) (g.ln 1000) (g.tk 1000) (g.own 1000) g.S (grow (putRow id (Sort.ahead w n) b 0 F') os) (some b) ⟨rfl,rfl,rfl,hsz⟩
   (fun k hk hne=>hob k hk (fun e=>hne (by rw [e]))) (fun b' e=>by cases e; exact ⟨hl,b2⟩) (fun _ _ h=>h) (fun _ _ h=>.inl h) (fun b' o e hs=>by cases e; exact absurd hs (b7 o))
   (fun b' _ e=>by rw [b2] at e; cases e; exact ⟨Nat.lt_of_lt_of_le hlt hsz,.inl ⟨hl,b2⟩⟩) (by simp) (fun _=>⟨rfl,Nat.le_refl _,fun _=>rfl,fun _=>rfl⟩) (fun hg hk=>by
    refine ⟨by simp [Gh.upd,t1],by simp [Gh.upd,l1,f3],f4,.inr ⟨b,cap,E,_,by simp [Gh.upd,b1,f3],by simp [Gh.upd,b2],by omega,hb',by rw [hpt.2,b5],?_,b7⟩⟩
    have:=f5 g w (by simpa using b6)
    rw [f3,← hF',hpt.1];exact this.mono hk (fun _ h=>h) (fun _ h=>h.elim))
  rw [heapOf_put] at k1 k2;generalize hg' : g.upd 1000 (g.ρ 1000) (g.ln 1000) (g.tk 1000) (g.own 1000) g.S=g' at k1 k2;have ho' : g'.own 1000=some b:=by rw [← hg']; simp [Gh.upd,b2]
  have hob2:=k1.objs 1000;have he2:heapOf [(1000,HO.arr sz es')] hfree 1000=.arr sz es':=rfl;rw [he2] at hob2;obtain ⟨m1,m2,m3,m4⟩:=hob2;have hρ:g'.ρ 1000=.slice (some ⟨b,0,none⟩) es.length cap:=by rw [← hg']; simp [Gh.upd,b1]
  have hne' : es'≠[]:=fun e=>hne (List.eq_nil_of_length_eq_zero (by rw [← f3,e]; rfl));rcases m4 with ⟨m4,_⟩ | ⟨b',cap',E',vs',c1,c2,c3,c4,c5,c6,c7⟩
  ·exact absurd m4 hne'
  ·rw [hρ] at c1;simp only [Value.slice.injEq,Option.some.injEq,Addr.mk.injEq,and_true] at c1;obtain ⟨c1a,c1b,c1c⟩:=c1;subst c1a; subst c1c;have hlt' : (es'.take n').length=n':=by rw [List.length_take]; omega
   obtain ⟨k3,k4⟩:=k1.move 1000 2000 (by decide) rfl trivial ho' (.arr sz (es'.take n')) (.slice (some ⟨b,0,none⟩) n' cap) n' true (by simp) (fun hk=>by
    refine ⟨by simp [Gh.upd],by simp [Gh.upd,hlt'],fun cs hcs=>m3 cs (List.mem_of_mem_take hcs),.inr ⟨b,cap,E',vs',by simp [Gh.upd,hlt'],by simp [Gh.upd],by omega,c4,c5,?_,c7⟩⟩
    have:=(c6.mono hk (fun _ h=>h) (fun _ h=>h.elim)).take (n'*sz)
    rw [flatten_take es' n' m3,List.take_take,Nat.min_eq_left (Nat.mul_le_mul_right _ (by omega))] at this;rw [hlt']; exact this)
   have hheap:hput (hput (heapOf [(1000,HO.arr sz es')] hfree) 1000 .dead) 2000 (.arr sz (es'.take n'))=heapOf [(1000,.dead),(2000,.arr sz (es'.take n'))] hfree:=by
    funext i
    by_cases e1:i=2000
    ·subst e1; rw [hput_same]; rfl
    ·rw [hput_ne _ _ _ _ e1]
     by_cases e2:i=1000
     ·subst e2; rw [hput_same]; rfl
     ·rw [hput_ne _ _ _ _ e2];simp [heapOf,beq_ne e1,beq_ne e2]
   rw [hheap] at k3 k4;exact ⟨_,.msl 2000 n',_,_,rfl,⟨rfl,es',f2,rfl⟩,.msl _ 2000 n' (some ⟨b,0,none⟩) cap (by intro c; cases c) (by simp [Gh.upd]) (by simp [Gh.upd]) (.inr ⟨b,rfl⟩) (fun _=>by simp [Gh.upd]),k3,k2.trans k4⟩
end
end Go.Eng

namespace Go.Eng

def disjS (a b:Foot):Bool :=
 (match a.2 with | some r=>!memB b.1 r | none=>true)&&(match b.2 with | some r=>!memB a.1 r | none=>true)
def apartS (ops:Array Oper) (oi:Oper) (fi:Foot) (D:List Nat) (k:Nat):List Oper→List Foot→Bool
 | o :: r,f :: fs=>(memB D k||(oi.apart ops o&&disjS fi f))&&apartS ops oi fi D (k+1) r fs
 | [],[]=>true
 | _,_=>false
def drawS (ops:Array Oper) (all:List Oper) (k:Nat):List Oper→List Foot→Bool
 | o :: r,f :: fs =>
  let D:=depsGo k [] 0 all
  (o.after.toList.all fun e=>!Region.binds .any e||Nat.blt e.on k)&&soundB k D 0 all&&(D.all fun j=>Nat.blt k j&&Nat.blt j all.length)&&apartS ops o f D (k+1) r fs&&drawS ops all (k+1) r fs
 | [],[]=>true
 | _,_=>false
def drawSOk (ops:Array Oper) (fs:List Foot):Bool:=Region.noSelect ops&&drawS ops ops.toList 0 ops.toList fs
def smallF (f:Foot):Prop:=∀ r,f.2=some r→r<10000000
def smallFs:List Foot→Prop
 | []=>True
 | f :: r=>smallF f∧smallFs r
theorem smallF_none (l:List Nat):smallF (l,none):=fun _ h=>by cases h
theorem smallF_some {l:List Nat} {r:Nat} (h:r<10000000):smallF (l,some r):=fun _ e=>by cases e; exact h
theorem disjS_eq {a b:Foot} (ha:smallF a) (hb:smallF b) (h:disjS a b=true):disjB a b=true:=by
 obtain ⟨a1,a2⟩:=a;obtain ⟨b1,b2⟩:=b;unfold disjS at h;unfold disjB;rw [Bool.and_eq_true] at h ⊢;refine ⟨?_,?_⟩
 ·cases a2 with
  | none=>rfl
  | some r =>
   have h1:(!memB b1 r)=true:=h.1;show offB b1 r=true;unfold offB;rw [beq_ne (show r≠allN by have:=ha r rfl; unfold allN; omega),cond_false,h1,show Nat.blt r 10000000=true by rw [Nat.blt_eq]; exact ha r rfl]; rfl
 ·cases b2 with
  | none=>rfl
  | some r =>
   have h1:(!memB a1 r)=true:=h.2;show offB a1 r=true;unfold offB;rw [beq_ne (show r≠allN by have:=hb r rfl; unfold allN; omega),cond_false,h1,show Nat.blt r 10000000=true by rw [Nat.blt_eq]; exact hb r rfl]; rfl
theorem apartS_eq {ops:Array Oper} {oi:Oper} {fi:Foot} {D:List Nat} (hi:smallF fi):∀ {l:List Oper} {fs:List Foot} {k:Nat},smallFs fs→apartS ops oi fi D k l fs=true→apartAll ops oi fi D k l fs=true
 | [],[],_,_,h=>h
 | o :: r,f :: fs,k,hs,h=>by
  unfold apartS at h;unfold apartAll;rw [Bool.and_eq_true,Bool.or_eq_true,Bool.and_eq_true] at h ⊢;exact ⟨h.1.imp id (fun q=>⟨q.1,disjS_eq hi hs.1 q.2⟩),apartS_eq hi hs.2 h.2⟩
 | [],_ :: _,_,_,h=>by simp [apartS] at h
 | _ :: _,[],_,_,h=>by simp [apartS] at h
theorem drawS_eq {ops:Array Oper} {all:List Oper} : ∀ {l:List Oper} {fs:List Foot} {k:Nat},smallFs fs→drawS ops all k l fs=true→drawGo ops all k l fs=true
 | [],[],_,_,h=>h
 | o :: r,f :: fs,k,hs,h=>by
  unfold drawS at h;unfold drawGo;simp only [Bool.and_eq_true] at h ⊢;exact ⟨⟨h.1.1,apartS_eq hs.1 hs.2 h.1.2⟩,drawS_eq hs.2 h.2⟩
 | [],_ :: _,_,_,h=>by simp [drawS] at h
 | _ :: _,[],_,_,h=>by simp [drawS] at h
theorem drawOk_small {ops:Array Oper} {fs:List Foot} (hs:smallFs fs) (h:drawSOk ops fs=true):drawOk ops fs=true:=by
 unfold drawSOk at h;unfold drawOk;rw [Bool.and_eq_true] at h ⊢;exact ⟨h.1,drawS_eq hs h.2⟩

theorem appendK_tok {cx:Cx} {d:Option Nat} {h:Nat→HO} {ty e m:Nat} {r:Nat} {es es2:List (List AV)} {x:AV} {K:HK} (hty:(cx.T ty).d=.slice e) (hz:Nat.beq (cx.T e).zc.length (cx.T e).size=true) (hsz:(cx.T e).size=m+1)
  (hx:∀ K' : List (List AV)→Prop,K' es2→elemsK h x K') (hr:h r=.tok (m+1) es.length) (hl:AllLen (m+1) es2) (hb:(es.length+es2.length)*(cx.T e).bytes≤140737488355328) (hc:es.length+es2.length≤9223372036854775807)
  (hk:K (.slice (.id r (m+1)) (es++es2)) (hput h r (.tok (m+1) (es.length+es2.length)))):appendK cx d h ty (.slice (.id r (m+1)) es) x K:=by
 have hq:Nat.beq (m+1) (m+1)=true:=Nat.beq_refl _;unfold appendK;rw [hty];rw [hsz] at hz;simp only [hsz,hz];refine hx _ ?_;simp only [hr,hq];exact ⟨⟨hl,trivial,hb,hc⟩,hk⟩
theorem appendK_new {cx:Cx} {d:Nat} {h:Nat→HO} {ty e m:Nat} {es2:List (List AV)} {x:AV} {K:HK} (hty:(cx.T ty).d=.slice e) (hz:Nat.beq (cx.T e).zc.length (cx.T e).size=true) (hsz:(cx.T e).size=m+1)
  (hx:∀ K' : List (List AV)→Prop,K' es2→elemsK h x K') (hr:h (did cx d)=.free) (ha:asg cx.pl.arr d=none) (hl:AllLen (m+1) es2) (hb:es2.length*(cx.T e).bytes≤140737488355328) (hc:es2.length≤9223372036854775807)
  (hk:K (.slice (.id (did cx d) (m+1)) es2) (hput h (did cx d) (.tok (m+1) es2.length))):appendK cx (some d) h ty (.v (.slice none 0 0)) x K:=by
 unfold appendK;rw [hty];rw [hsz] at hz;simp only [hsz,hz];refine hx _ ?_;refine ⟨⟨hsz▸hl,hb,hc⟩,?_⟩;unfold newSliceK;simp only [hr,ha];exact hk
end Go.Eng

namespace Go.Eng
open Go.RowKit
section
variable {P:Program}
end
end Go.Eng

namespace Go.Eng

def dull:Obj→Bool
 | .cells ..=>false
 | .map ..=>false
 | .mapIter ..=>false
 | _=>true
structure Seg (n0 x:Nat) (w:World) (g:Gh) (h:Nat→HO) (w' : World) (g' : Gh) (h' : Nat→HO):Prop where
 os:w'.os=w.os
 tape:w'.tape=w.tape
 output:w'.output=w.output
 size:w.heap.size≤w'.heap.size
 frame:∀ b,b<n0→b≠x→(∀ r,(h r).live→g.own r≠some b)→w'.heap[b]?=w.heap[b]?
 loc:∀ r b,(h' r).live→g'.own r=some b→n0≤b∨∃ r',(h r').live∧g.own r'=some b
 sg:∀ b o,g'.S b o→g.S b o∨n0≤b∨∃ r',(h r').live∧g.own r'=some b
 le:Le h g w h' g' w'
section
variable {P:Program} {N:Nat} {ds:List Deferred} {n0 x:Nat} {w w' w1 w2:World} {g g' g1 g2:Gh} {h h' h1 h2:Nat→HO}

theorem Seg.trans (a:Seg n0 x w g h w1 g1 h1) (b:Seg n0 x w1 g1 h1 w2 g2 h2):Seg n0 x w g h w2 g2 h2 where
 os:=b.os.trans a.os
 tape:=b.tape.trans a.tape
 output:=b.output.trans a.output
 size:=Nat.le_trans a.size b.size
 frame c hc hx hn:=(b.frame c hc hx fun r hl e=>by
  rcases a.loc r c hl e with h | ⟨r',h1,h2⟩
  ·omega
  ·exact hn r' h1 h2).trans (a.frame c hc hx hn)
 loc r c hl e:=by
  rcases b.loc r c hl e with h | ⟨r',h1,h2⟩
  ·exact .inl h
  ·exact a.loc r' c h1 h2
 sg c o hs:=by
  rcases b.sg c o hs with h | h | ⟨r',h1,h2⟩
  ·exact a.sg c o h
  ·exact .inr (.inl h)
  ·rcases a.loc r' c h1 h2 with h | h
   ·exact .inr (.inl h)
   ·exact .inr (.inr h)
 le:=a.le.trans b.le
theorem Seg.of_inv (hI:Inv w g h h' g' w') (hL:Le h g w h' g' w') (hn:n0≤w.heap.size):Seg n0 x w g h w' g' h' where
 os:=hI.os
 tape:=hI.tape
 output:=hI.output
 size:=hI.size
 frame c hc _ hn':=hI.frame c (by omega) hn'
 loc r c hl e:=by
  rcases (hI.loc r c hl e).2 with h | h
  ·exact .inl (by omega)
  ·exact .inr h
 sg c o hs:=by
  rcases hI.sg c o hs with h | h | h
  ·exact .inl h
  ·exact .inr (.inl (by omega))
  ·exact .inr (.inr h)
 le:=hL
theorem Inv.base (hI:Inv w g h h' g' w'):Inv w' g' h' h' g' w' where
 os:=rfl
 tape:=rfl
 output:=rfl
 size:=Nat.le_refl _
 frame _ _ _:=rfl
 slt:=hI.slt
 objs:=hI.objs
 inj:=hI.inj
 loc r b hl e:=⟨(hI.loc r b hl e).1,.inr ⟨r,hl,e⟩⟩
 sg _ _ hs:=.inl hs
 glob:=hI.glob
theorem Inv.of_seg (hI:Inv w' g' h' h' g' w') (s:Seg w.heap.size x w g h w' g' h') (hx:x<w.heap.size→w'.heap[x]?=w.heap[x]?):Inv w g h h' g' w' where
 os:=s.os
 tape:=s.tape
 output:=s.output
 size:=s.size
 frame b hb hn:=by
  by_cases e:b=x
  ·subst e; exact hx hb
  ·exact s.frame b hb e hn
 slt:=hI.slt
 objs:=hI.objs
 inj:=hI.inj
 loc r b hl e:=⟨(hI.loc r b hl e).1,s.loc r b hl e⟩
 sg:=s.sg
 glob:=hI.glob
theorem not_dull {U:Nat→Prop} {r b:Nat} {o:HO} {ob:Obj} (ho:ObjRep g w U r o) (hl:o.live) (e:g.own r=some b) (hb:w.heap[b]?=some ob) (hd:dull ob=true):False:=by
 cases o with
 | free=>exact hl
 | dead=>exact hl
 | ro cs=>exact hl
 | rom sh kvs=>exact hl
 | cells cs =>
  obtain ⟨_,b',E,vs,h1,_,h3,_⟩:=ho;rw [e] at h1; cases h1;rw [hb] at h3; cases h3; cases hd
 | tok sz n =>
  obtain ⟨_,_,a,cap,_,(⟨_,h1⟩ | ⟨_,b',E,vs,off,_,h1,h3,_⟩)⟩:=ho
  ·rw [e] at h1; cases h1
  ·rw [e] at h1; cases h1;rw [hb] at h3; cases h3; cases hd
 | vox v=>exact hl
 | var sz v n =>
  obtain ⟨_,_,a,cap,_,(⟨_,h1⟩ | ⟨_,b',E,vs,off,_,h1,h3,_⟩)⟩:=ho
  ·rw [e] at h1; cases h1
  ·rw [e] at h1; cases h1;rw [hb] at h3; cases h3; cases hd
 | arr sz es =>
  obtain ⟨_,_,_,(⟨_,_,h1⟩ | ⟨b',cap,E,vs,_,h1,_,h3,_⟩)⟩:=ho
  ·rw [e] at h1; cases h1
  ·rw [e] at h1; cases h1;rw [hb] at h3; cases h3; cases hd
 | map sh kvs =>
  obtain ⟨_,b',es,ck,h1,_,h3,_⟩:=ho;rw [e] at h1; cases h1;rw [hb] at h3; cases h3; cases hd
 | mapU sh kvs =>
  obtain ⟨_,b',es,ck,h1,_,h3,_⟩:=ho;rw [e] at h1; cases h1;rw [hb] at h3; cases h3; cases hd
 | iter all rem cur =>
  obtain ⟨_,b',mb,since,seen,st,es,ck,h1,_,h3,_⟩:=ho;rw [e] at h1; cases h1;rw [hb] at h3; cases h3; cases hd
theorem Inv.dullS (hI:Inv w g h h g w) (ho:w'.os=w.os∧w'.tape=w.tape∧w'.output=w.output) (hsz:w.heap.size≤w'.heap.size)
  (hb:∀ b,b<w.heap.size→w'.heap[b]?=w.heap[b]?∨∃ o o',w.heap[b]?=some o∧w'.heap[b]?=some o'∧dull o=true∧dull o'=true)
  (hn:∀ b,b<n0→b≠x→w'.heap[b]?=w.heap[b]?):Inv w' g h h g w'∧Seg n0 x w g h w' g h:=by
 have hk:Keeps g w g w':=fun b o hs=>by
  refine ⟨hs,?_⟩;rcases hb b (hI.slt b o hs) with e | ⟨ob,ob',e1,e2,d1,d2⟩
  ·exact ⟨by simp only [World.cell?,e],fun es ck he=>e.trans he⟩
  ·refine ⟨?_,fun es ck he=>?_⟩
   ·simp only [World.cell?,e1,e2];cases ob <;> cases ob' <;> first | rfl | (cases d1; done) | (cases d2; done)
   ·rw [e1] at he; cases he; cases d1
 have hown:∀ r b,(h r).live→g.own r=some b→w'.heap[b]?=w.heap[b]?:=fun r b hl e=>by
  rcases hb b (hI.loc r b hl e).1 with e' | ⟨ob,ob',e1,_,d1,_⟩
  ·exact e'
  ·exact (not_dull (hI.objs r) hl e e1 d1).elim
 refine ⟨⟨rfl,rfl,rfl,Nat.le_refl _,fun _ _ _=>rfl,fun b o hs=>Nat.lt_of_lt_of_le (hI.slt b o hs) hsz,fun r=>?_,hI.inj,fun r b hl e=>⟨Nat.lt_of_lt_of_le (hI.loc r b hl e).1 hsz,.inr ⟨r,hl,e⟩⟩,fun _ _ hs=>.inl hs,hI.glob.keep hk⟩,⟨ho.1,ho.2.1,ho.2.2,hsz,fun b hb' hx _=>hn b hb' hx,fun r b hl e=>.inr ⟨r,hl,e⟩,fun _ _ hs=>.inl hs,⟨.refl _ _,fun _ h=>h,hk⟩⟩⟩;exact (hI.objs r).same hk (fun _ h=>h) (.refl _ _) rfl rfl rfl rfl fun b hl e=>⟨hown r b hl e,fun _ h=>h⟩
theorem Inv.put (hI:Inv w g h h g w) {l:Nat} {o o' : Obj} (hl:w.heap[l]?=some o) (hd:dull o=true) (hd' : dull o'=true) (hx:n0≤l∨l=x) :
  Inv (w.putObj l o') g h h g (w.putObj l o')∧Seg n0 x w g h (w.putObj l o') g h:=by
 have hlt:l<w.heap.size:=(Array.getElem?_eq_some_iff.1 hl).1;refine hI.dullS ⟨rfl,rfl,rfl⟩ (by simp [World.putObj]) (fun b _=>?_) (fun b hb hne=>?_)
 ·by_cases e:b=l
  ·subst e; exact .inr ⟨o,o',hl,World.putObj_heap_same hlt,hd,hd'⟩
  ·exact .inl (World.putObj_heap_other e)
 ·refine World.putObj_heap_other fun e=>?_;rcases hx with h | h
  ·omega
  ·exact hne (e.trans h)
theorem Inv.allocS (hI:Inv w g h h g w) (o:Obj) (hn:n0≤w.heap.size):Inv (w.alloc o) g h h g (w.alloc o)∧Seg n0 x w g h (w.alloc o) g h:=by
 refine hI.dullS ⟨rfl,rfl,rfl⟩ (by rw [World.size_alloc]; omega) (fun b hb=>.inl (heap_alloc_old _ _ hb)) (fun b hb _=>heap_alloc_old _ _ (by omega))
end
end Go.Eng
