/- Lemmas for the claims of this seat, without a condition: part 16 (Tab, EngZG, EngZH, EngZI, EngZJ, EngZK, EngZM, EngZN, EngZO). -/
import Derived.Test.YtmcbkdbfaneofaaGreatDoorBA15
import Derived.Test.YtmcbkdbfaneofaaGreatDoorProg
import Derived.Sort.Grow
import Derived.Shelf.GgSortFunc.InsertionK
import Derived.Below
import Derived.RangeFuncLeaves
import Derived.RangeFuncNested
namespace Go.Eng
open Go.Proofs
abbrev zd:TI := jW
abbrev tF:TI := ⟨.func,1,8,.nilFunc,true⟩
abbrev tI:TI := ⟨.int .i64,1,8,.int .i64 0,true⟩
abbrev tP(n:Nat):TI := ⟨.ptr n,1,8,.pointer none,true⟩
abbrev tS(n:Nat):TI := ⟨.slice n,1,24,.slice none 0 0,true⟩
def iY{α:Type}(d:α):List α → Nat → α
 | [],_ => d
 |a::r,n => match n with |0 => a |n + 1 => iY d r n
def yx:List TI := [⟨.other,1,0,(.tuple #[]),true⟩,tF,tI,tI,⟨.bool,1,1,(.bool .false),true⟩,⟨.int .u8,1,1,(.int .u8 0),true⟩,⟨.int .u8,1,1,(.int .u8 0),true⟩,⟨.struct [(2,0),(3,1),(4,2),(6,3)],4,24,(.agg #[.int .i64 0,.int .i64 0,.bool .false,.int .u8 0]),true⟩,⟨.struct [(2,0),(3,1),(4,2),(6,3)],4,24,(.agg #[.int .i64 0,.int .i64 0,.bool .false,.int .u8 0]),true⟩,⟨.string,1,16,(.string ⟨#[]⟩),true⟩,⟨.string,1,16,(.string ⟨#[]⟩),true⟩,⟨.string,1,16,(.string ⟨#[]⟩),true⟩,⟨.int .u64,1,8,(.int .u64 0),true⟩,⟨.struct [(9,0),(12,1)],2,24,(.agg #[.string ⟨#[]⟩,.int .u64 0]),false⟩,⟨.struct [(9,0),(12,1)],2,24,(.agg #[.string ⟨#[]⟩,.int .u64 0]),false⟩,tP 314]
def yy:List TI := [tP 317,tP 326,⟨.struct [(17,0)],1,8,(.agg #[.pointer none]),false⟩,⟨.struct [(17,0)],1,8,(.agg #[.pointer none]),false⟩,⟨.iface,1,16,.nilIface,true⟩,⟨.int .i32,1,4,(.int .i32 0),true⟩,tS 45,tS 86,⟨.struct [(22,0),(23,1)],2,48,(.agg #[.slice none 0 0,.slice none 0 0]),true⟩,⟨.struct [(22,0),(23,1)],2,48,(.agg #[.slice none 0 0,.slice none 0 0]),true⟩,tS 51,⟨.struct [(22,0),(26,1),(26,2)],3,72,(.agg #[.slice none 0 0,.slice none 0 0,.slice none 0 0]),true⟩,⟨.struct [(22,0),(26,1),(26,2)],3,72,(.agg #[.slice none 0 0,.slice none 0 0,.slice none 0 0]),true⟩,tF,tF,tI]
def yz:List TI := [⟨.other,1,0,(.tuple #[.agg #[.slice none 0 0,.slice none 0 0],.int .i64 0]),true⟩,tF,tF,tF,tF,⟨.other,1,0,(.tuple #[.agg #[.slice none 0 0,.slice none 0 0,.slice none 0 0],.int .i64 0]),true⟩,tF,tF,tF,⟨.struct [(3,0),(3,1),(3,2)],3,24,(.agg #[.int .i64 0,.int .i64 0,.int .i64 0]),true⟩,⟨.struct [(3,0),(3,1),(3,2)],3,24,(.agg #[.int .i64 0,.int .i64 0,.int .i64 0]),true⟩,tS 66,⟨.struct [(9,0),(42,1),(43,4),(9,5),(9,6),(9,7),(4,8)],9,120,(.agg #[.string ⟨#[]⟩,.int .i64 0,.int .i64 0,.int .i64 0,.slice none 0 0,.string ⟨#[]⟩,.string ⟨#[]⟩,.string ⟨#[]⟩,.bool .false]),true⟩,⟨.struct [(9,0),(42,1),(43,4),(9,5),(9,6),(9,7),(4,8)],9,120,(.agg #[.string ⟨#[]⟩,.int .i64 0,.int .i64 0,.int .i64 0,.slice none 0 0,.string ⟨#[]⟩,.string ⟨#[]⟩,.string ⟨#[]⟩,.bool .false]),true⟩,tF,tF]
def yA:List TI := [tF,tF,⟨.struct [(9,0),(42,1)],4,40,(.agg #[.string ⟨#[]⟩,.int .i64 0,.int .i64 0,.int .i64 0]),true⟩,⟨.struct [(9,0),(42,1)],4,40,(.agg #[.string ⟨#[]⟩,.int .i64 0,.int .i64 0,.int .i64 0]),true⟩,tF,tF,tF,⟨.other,1,0,(.tuple #[.slice none 0 0,.int .i64 0]),true⟩,tF,⟨.other,1,0,(.tuple #[.agg #[.string ⟨#[]⟩,.int .i64 0,.int .i64 0,.int .i64 0,.slice none 0 0,.string ⟨#[]⟩,.string ⟨#[]⟩,.string ⟨#[]⟩,.bool .false],.bool .false]),true⟩,tF,tF,tF,⟨.struct [(3,0),(3,1)],2,16,(.agg #[.int .i64 0,.int .i64 0]),true⟩,⟨.struct [(3,0),(3,1)],2,16,(.agg #[.int .i64 0,.int .i64 0]),true⟩,tS 62]
def yB:List TI := [tS 62,⟨.struct [(9,0),(64,1)],2,40,(.agg #[.string ⟨#[]⟩,.slice none 0 0]),true⟩,⟨.struct [(9,0),(64,1)],2,40,(.agg #[.string ⟨#[]⟩,.slice none 0 0]),true⟩,tS 72,⟨.other,1,0,(.tuple #[.slice none 0 0,.int .i64 0]),true⟩,tF,tF,⟨.struct [(9,0),(3,1),(3,2)],3,32,(.agg #[.string ⟨#[]⟩,.int .i64 0,.int .i64 0]),true⟩,⟨.struct [(9,0),(3,1),(3,2)],3,32,(.agg #[.string ⟨#[]⟩,.int .i64 0,.int .i64 0]),true⟩,tF,tF,tF,tF,tF,tF,tF]
def yC:List TI := [tF,tS 333,tS 335,tS 337,tS 339,⟨.struct [(9,0),(81,1),(82,2),(83,3),(84,4)],5,112,(.agg #[.string ⟨#[]⟩,.slice none 0 0,.slice none 0 0,.slice none 0 0,.slice none 0 0]),true⟩,⟨.struct [(9,0),(81,1),(82,2),(83,3),(84,4)],5,112,(.agg #[.string ⟨#[]⟩,.slice none 0 0,.slice none 0 0,.slice none 0 0,.slice none 0 0]),true⟩,tF,⟨.other,1,0,(.tuple #[.agg #[.string ⟨#[]⟩,.int .i64 0,.int .i64 0,.int .i64 0],.bool .false]),true⟩,tF,tF,tF,tF,tF,tF,tF]
def yD:List TI := [tS 28,tF,tF,tF,tF,tF,tF,tF,tF,tS 201,tS 181,⟨.struct [(4,0),(26,1),(105,2),(106,3)],4,80,(.agg #[.bool .false,.slice none 0 0,.slice none 0 0,.slice none 0 0]),true⟩,⟨.struct [(4,0),(26,1),(105,2),(106,3)],4,80,(.agg #[.bool .false,.slice none 0 0,.slice none 0 0,.slice none 0 0]),true⟩,⟨.other,1,0,(.tuple #[.agg #[.bool .false,.slice none 0 0,.slice none 0 0,.slice none 0 0],.int .i64 0]),true⟩,tF,⟨.map 51 45,1,8,(.map none),true⟩]
def yE:List TI := [⟨.map 9 22,1,8,(.map none),true⟩,⟨.struct [(111,0),(112,1)],2,16,(.agg #[.map none,.map none]),true⟩,⟨.struct [(111,0),(112,1)],2,16,(.agg #[.map none,.map none]),true⟩,⟨.other,1,0,(.tuple #[.agg #[.map none,.map none],.int .i64 0]),true⟩,tF,tF,tF,tF,tF,tF,tF,tF,⟨.other,1,0,(.tuple #[.string ⟨#[]⟩,.int .i64 0,.int .i64 0]),true⟩,tF,tF,tF]
def yF:List TI := [tF,tS 9,tF,tP 142,tF,⟨.other,1,0,(.tuple #[.int .i64 0,.bool .false]),true⟩,tF,⟨.map 9 139,1,8,(.map none),true⟩,⟨.map 9 64,1,8,(.map none),true⟩,tS 179,⟨.map 201 3,1,8,(.map none),true⟩,tS 162,tS 106,⟨.struct [(43,0),(135,1),(136,2),(105,3),(137,4),(138,5),(4,6),(139,7),(26,8),(140,9)],10,176,(.agg #[.slice none 0 0,.map none,.map none,.slice none 0 0,.slice none 0 0,.map none,.bool .false,.slice none 0 0,.slice none 0 0,.slice none 0 0]),true⟩,⟨.struct [(43,0),(135,1),(136,2),(105,3),(137,4),(138,5),(4,6),(139,7),(26,8),(140,9)],10,176,(.agg #[.slice none 0 0,.map none,.map none,.slice none 0 0,.slice none 0 0,.map none,.bool .false,.slice none 0 0,.slice none 0 0,.slice none 0 0]),true⟩,tF]
def yG:List TI := [⟨.map 9 3,1,8,(.map none),true⟩,⟨.other,1,0,(.tuple #[.map none,.bool .false]),true⟩,tF,tF,tF,tF,tF,tS 3,⟨.array 3 3,3,24,(.agg #[.int .i64 0,.int .i64 0,.int .i64 0]),true⟩,tF,tF,⟨.other,1,0,(.tuple #[.int .i64 0,.int .i64 0]),true⟩,tF,tF,tP 66,tF]
def tn:List TI := [tF,⟨.struct [(3,0),(45,1)],10,128,(.agg #[.int .i64 0,.string ⟨#[]⟩,.int .i64 0,.int .i64 0,.int .i64 0,.slice none 0 0,.string ⟨#[]⟩,.string ⟨#[]⟩,.string ⟨#[]⟩,.bool .false]),true⟩,⟨.struct [(3,0),(45,1)],10,128,(.agg #[.int .i64 0,.string ⟨#[]⟩,.int .i64 0,.int .i64 0,.int .i64 0,.slice none 0 0,.string ⟨#[]⟩,.string ⟨#[]⟩,.string ⟨#[]⟩,.bool .false]),true⟩,tF,tS 169,⟨.other,1,0,(.tuple #[.string ⟨#[]⟩,.slice none 0 0]),true⟩,tF,tF,⟨.struct [(66,0),(9,2),(3,3),(3,4)],5,72,(.agg #[.string ⟨#[]⟩,.slice none 0 0,.string ⟨#[]⟩,.int .i64 0,.int .i64 0]),true⟩,⟨.struct [(66,0),(9,2),(3,3),(3,4)],5,72,(.agg #[.string ⟨#[]⟩,.slice none 0 0,.string ⟨#[]⟩,.int .i64 0,.int .i64 0]),true⟩,tF,tF,tF,tF,⟨.other,1,0,(.tuple #[.agg #[.string ⟨#[]⟩,.slice none 0 0,.string ⟨#[]⟩,.int .i64 0,.int .i64 0],.bool .false]),true⟩,tF]
def tp:List TI := [tF,tF,tS 207,tS 207,⟨.struct [(9,0),(3,1),(3,2)],3,32,(.agg #[.string ⟨#[]⟩,.int .i64 0,.int .i64 0]),true⟩,⟨.struct [(9,0),(3,1),(3,2)],3,32,(.agg #[.string ⟨#[]⟩,.int .i64 0,.int .i64 0]),true⟩,tF,tF,tF,⟨.int .u64,1,8,(.int .u64 0),true⟩,tF,tF,tF,tF,tF,tF]
def tq:List TI := [tF,tF,tF,tF,tF,tF,tF,tF,⟨.struct [(3,0),(9,1),(3,2),(3,3),(3,4),(3,5)],6,56,(.agg #[.int .i64 0,.string ⟨#[]⟩,.int .i64 0,.int .i64 0,.int .i64 0,.int .i64 0]),true⟩,⟨.struct [(3,0),(9,1),(3,2),(3,3),(3,4),(3,5)],6,56,(.agg #[.int .i64 0,.string ⟨#[]⟩,.int .i64 0,.int .i64 0,.int .i64 0,.int .i64 0]),true⟩,tF,tF,tF,tF,⟨.struct [(9,0),(4,1),(64,2)],3,48,(.agg #[.string ⟨#[]⟩,.bool .false,.slice none 0 0]),true⟩,⟨.struct [(9,0),(4,1),(64,2)],3,48,(.agg #[.string ⟨#[]⟩,.bool .false,.slice none 0 0]),true⟩]
def tt:List TI := [tF,tF,⟨.other,1,0,(.tuple #[.slice none 0 0,.int .i64 0]),true⟩,tF,tF,tI,⟨.other,1,0,(.tuple #[.int .i64 0,.int .i64 0]),true⟩,tF,tF,tF,tF,tF,⟨.int .u32,1,4,(.int .u32 0),true⟩,tF,⟨.int .u64,1,8,(.int .u64 0),true⟩,tF]
def tu:List TI := [tF,tF,tF,tF,tF,tS 5,tF,⟨.other,1,0,(.tuple #[.string ⟨#[]⟩,.bool .false]),true⟩,tF,⟨.other,1,0,(.tuple #[.int .u32 0,.int .u32 0]),true⟩,tF,tF,tF,tF,tF,tF]
def tv:List TI := [tF,tF,tF,⟨.other,1,0,(.tuple #[.agg #[.string ⟨#[]⟩,.bool .false,.slice none 0 0],.slice none 0 0,.bool .false]),true⟩,tF,⟨.other,1,0,(.tuple #[.slice none 0 0,.bool .false]),true⟩,tF,tF,⟨.int .u64,1,8,(.int .u64 0),true⟩,tF,tF,tF,tP 3,tF,tF,tF]
def tw:List TI := [tF,tF,tF,tF,tF,tF,tF,tF,tF,⟨.map 9 207,1,8,(.map none),true⟩,tF,tF,tF,tF,tP 248,⟨.other,1,0,(.tuple #[.int .i64 0,.int .i64 0]),true⟩]
def tx:List TI := [tF,tF,⟨.other,1,0,(.tuple #[.int .i32 0,.int .i64 0]),true⟩,tF,tF,tF,tF,tF,tF,tS 64,⟨.map 3 3,1,8,(.map none),true⟩,tF,⟨.other,1,0,(.tuple #[.agg #[.string ⟨#[]⟩,.bool .false,.slice none 0 0],.bool .false]),true⟩,tF,tF,tF]
def tA:List TI := [tF,tF,tF,tF,tF,tF,tF,⟨.array 256 5,256,256,(.agg (([.int .u8 0,.int .u8 0,.int .u8 0,.int .u8 0,.int .u8 0,.int .u8 0,.int .u8 0,.int .u8 0,.int .u8 0,.int .u8 0,.int .u8 0,.int .u8 0,.int .u8 0,.int .u8 0,.int .u8 0,.int .u8 0,.int .u8 0,.int .u8 0,.int .u8 0,.int .u8 0,.int .u8 0,.int .u8 0,.int .u8 0,.int .u8 0,.int .u8 0,.int .u8 0,.int .u8 0,.int .u8 0,.int .u8 0,.int .u8 0,.int .u8 0,.int .u8 0,.int .u8 0,.int .u8 0,.int .u8 0,.int .u8 0,.int .u8 0,.int .u8 0,.int .u8 0,.int .u8 0,.int .u8 0,.int .u8 0,.int .u8 0,.int .u8 0,.int .u8 0,.int .u8 0,.int .u8 0,.int .u8 0,.int .u8 0,.int .u8 0,.int .u8 0,.int .u8 0,.int .u8 0,.int .u8 0,.int .u8 0,.int .u8 0,.int .u8 0,.int .u8 0,.int .u8 0,.int .u8 0,.int .u8 0,.int .u8 0,.int .u8 0,.int .u8 0].append [.int .u8 0,.int .u8 0,.int .u8 0,.int .u8 0,.int .u8 0,.int .u8 0,.int .u8 0,.int .u8 0,.int .u8 0,.int .u8 0,.int .u8 0,.int .u8 0,.int .u8 0,.int .u8 0,.int .u8 0,.int .u8 0,.int .u8 0,.int .u8 0,.int .u8 0,.int .u8 0,.int .u8 0,.int .u8 0,.int .u8 0,.int .u8 0,.int .u8 0,.int .u8 0,.int .u8 0,.int .u8 0,.int .u8 0,.int .u8 0,.int .u8 0,.int .u8 0,.int .u8 0,.int .u8 0,.int .u8 0,.int .u8 0,.int .u8 0,.int .u8 0,.int .u8 0,.int .u8 0,.int .u8 0,.int .u8 0,.int .u8 0,.int .u8 0,.int .u8 0,.int .u8 0,.int .u8 0,.int .u8 0,.int .u8 0,.int .u8 0,.int .u8 0,.int .u8 0,.int .u8 0,.int .u8 0,.int .u8 0,.int .u8 0,.int .u8 0,.int .u8 0,.int .u8 0,.int .u8 0,.int .u8 0,.int .u8 0,.int .u8 0,.int .u8 0]).append ([.int .u8 0,.int .u8 0,.int .u8 0,.int .u8 0,.int .u8 0,.int .u8 0,.int .u8 0,.int .u8 0,.int .u8 0,.int .u8 0,.int .u8 0,.int .u8 0,.int .u8 0,.int .u8 0,.int .u8 0,.int .u8 0,.int .u8 0,.int .u8 0,.int .u8 0,.int .u8 0,.int .u8 0,.int .u8 0,.int .u8 0,.int .u8 0,.int .u8 0,.int .u8 0,.int .u8 0,.int .u8 0,.int .u8 0,.int .u8 0,.int .u8 0,.int .u8 0,.int .u8 0,.int .u8 0,.int .u8 0,.int .u8 0,.int .u8 0,.int .u8 0,.int .u8 0,.int .u8 0,.int .u8 0,.int .u8 0,.int .u8 0,.int .u8 0,.int .u8 0,.int .u8 0,.int .u8 0,.int .u8 0,.int .u8 0,.int .u8 0,.int .u8 0,.int .u8 0,.int .u8 0,.int .u8 0,.int .u8 0,.int .u8 0,.int .u8 0,.int .u8 0,.int .u8 0,.int .u8 0,.int .u8 0,.int .u8 0,.int .u8 0,.int .u8 0].append [.int .u8 0,.int .u8 0,.int .u8 0,.int .u8 0,.int .u8 0,.int .u8 0,.int .u8 0,.int .u8 0,.int .u8 0,.int .u8 0,.int .u8 0,.int .u8 0,.int .u8 0,.int .u8 0,.int .u8 0,.int .u8 0,.int .u8 0,.int .u8 0,.int .u8 0,.int .u8 0,.int .u8 0,.int .u8 0,.int .u8 0,.int .u8 0,.int .u8 0,.int .u8 0,.int .u8 0,.int .u8 0,.int .u8 0,.int .u8 0,.int .u8 0,.int .u8 0,.int .u8 0,.int .u8 0,.int .u8 0,.int .u8 0,.int .u8 0,.int .u8 0,.int .u8 0,.int .u8 0,.int .u8 0,.int .u8 0,.int .u8 0,.int .u8 0,.int .u8 0,.int .u8 0,.int .u8 0,.int .u8 0,.int .u8 0,.int .u8 0,.int .u8 0,.int .u8 0,.int .u8 0,.int .u8 0,.int .u8 0,.int .u8 0,.int .u8 0,.int .u8 0,.int .u8 0,.int .u8 0,.int .u8 0,.int .u8 0,.int .u8 0,.int .u8 0])).toArray),true⟩,⟨.struct [(5,0),(5,1)],2,2,(.agg #[.int .u8 0,.int .u8 0]),true⟩,⟨.struct [(5,0),(5,1)],2,2,(.agg #[.int .u8 0,.int .u8 0]),true⟩,⟨.array 16 297,32,32,(.agg (Array.replicate 32 (.int .u8 0))),true⟩,tF,tF,tF,tF,tF]
def tB:List TI := [tF,tF,tF,tF,tF,tF,tF,tF,tF,⟨.struct [(17,0),(17,1),(17,2),(9,3)],4,40,(.agg #[.pointer none,.pointer none,.pointer none,.string ⟨#[]⟩]),false⟩,⟨.struct [(17,0),(17,1),(17,2),(9,3)],4,40,(.agg #[.pointer none,.pointer none,.pointer none,.string ⟨#[]⟩]),false⟩,⟨.array 0 16,0,0,(.agg #[]),true⟩,⟨.other,0,0,(.agg #[]),false⟩,⟨.other,0,0,(.agg #[]),false⟩,tF,⟨.int .u8,1,1,(.int .u8 0),true⟩]
def tC:List TI := [⟨.int .u8,1,1,(.int .u8 0),true⟩,tF,tP 5,⟨.int .i32,1,4,(.int .i32 0),true⟩,⟨.int .i32,1,4,(.int .i32 0),true⟩,⟨.struct [(12,0),(12,1),(220,2),(319,3),(5,4),(5,5),(320,6),(321,7),(322,8),(323,9),(324,10)],11,48,(.agg #[.int .u64 0,.int .u64 0,.int .u32 0,.int .u8 0,.int .u8 0,.int .u8 0,.int .u8 0,.nilFunc,.pointer none,.int .i32 0,.int .i32 0]),false⟩,⟨.struct [(12,0),(12,1),(220,2),(319,3),(5,4),(5,5),(320,6),(321,7),(322,8),(323,9),(324,10)],11,48,(.agg #[.int .u64 0,.int .u64 0,.int .u32 0,.int .u8 0,.int .u8 0,.int .u8 0,.int .u8 0,.nilFunc,.pointer none,.int .i32 0,.int .i32 0]),false⟩,tS 343,tS 331,tS 345,⟨.struct [(3,0),(9,1),(9,2),(328,3),(329,4)],5,88,(.agg #[.int .i64 0,.string ⟨#[]⟩,.string ⟨#[]⟩,.slice none 0 0,.slice none 0 0]),true⟩,⟨.struct [(3,0),(9,1),(9,2),(328,3),(329,4)],5,88,(.agg #[.int .i64 0,.string ⟨#[]⟩,.string ⟨#[]⟩,.slice none 0 0,.slice none 0 0]),true⟩,⟨.struct [(9,0),(327,1),(331,2),(331,7)],12,216,(.agg #[.string ⟨#[]⟩,.slice none 0 0,.int .i64 0,.string ⟨#[]⟩,.string ⟨#[]⟩,.slice none 0 0,.slice none 0 0,.int .i64 0,.string ⟨#[]⟩,.string ⟨#[]⟩,.slice none 0 0,.slice none 0 0]),true⟩,⟨.struct [(9,0),(327,1),(331,2),(331,7)],12,216,(.agg #[.string ⟨#[]⟩,.slice none 0 0,.int .i64 0,.string ⟨#[]⟩,.string ⟨#[]⟩,.slice none 0 0,.slice none 0 0,.int .i64 0,.string ⟨#[]⟩,.string ⟨#[]⟩,.slice none 0 0,.slice none 0 0]),true⟩,⟨.struct [(9,0),(327,1),(331,2)],7,128,(.agg #[.string ⟨#[]⟩,.slice none 0 0,.int .i64 0,.string ⟨#[]⟩,.string ⟨#[]⟩,.slice none 0 0,.slice none 0 0]),true⟩,⟨.struct [(9,0),(327,1),(331,2)],7,128,(.agg #[.string ⟨#[]⟩,.slice none 0 0,.int .i64 0,.string ⟨#[]⟩,.string ⟨#[]⟩,.slice none 0 0,.slice none 0 0]),true⟩]
def tD:List TI := [⟨.struct [(9,0),(9,1),(9,2)],3,48,(.agg #[.string ⟨#[]⟩,.string ⟨#[]⟩,.string ⟨#[]⟩]),true⟩,⟨.struct [(9,0),(9,1),(9,2)],3,48,(.agg #[.string ⟨#[]⟩,.string ⟨#[]⟩,.string ⟨#[]⟩]),true⟩,⟨.struct [(9,0),(9,1)],2,32,(.agg #[.string ⟨#[]⟩,.string ⟨#[]⟩]),true⟩,⟨.struct [(9,0),(9,1)],2,32,(.agg #[.string ⟨#[]⟩,.string ⟨#[]⟩]),true⟩,tF,⟨.other,1,8,(.pointer none),true⟩,⟨.struct [(9,0),(3,1),(331,2)],7,112,(.agg #[.string ⟨#[]⟩,.int .i64 0,.int .i64 0,.string ⟨#[]⟩,.string ⟨#[]⟩,.slice none 0 0,.slice none 0 0]),true⟩,⟨.struct [(9,0),(3,1),(331,2)],7,112,(.agg #[.string ⟨#[]⟩,.int .i64 0,.int .i64 0,.string ⟨#[]⟩,.string ⟨#[]⟩,.slice none 0 0,.slice none 0 0]),true⟩,⟨.struct [(9,0),(331,1),(4,6)],7,112,(.agg #[.string ⟨#[]⟩,.int .i64 0,.string ⟨#[]⟩,.string ⟨#[]⟩,.slice none 0 0,.slice none 0 0,.bool .false]),true⟩,⟨.struct [(9,0),(331,1),(4,6)],7,112,(.agg #[.string ⟨#[]⟩,.int .i64 0,.string ⟨#[]⟩,.string ⟨#[]⟩,.slice none 0 0,.slice none 0 0,.bool .false]),true⟩]
def tbl:List (List TI) := [yx,yy,yz,yA,yB,yC,yD,yE,yF,yG,tn,tp,tq,tt,tu,tv,tw,tx,tA,tB,tC,tD]
def nH:GN := fun t => iY zd (iY [] tbl (t / 16)) (t % 16)
theorem jV:(List.range 352).map nH = (List.range 352).map (eX Tryz.prog) := by kernel_rfl
theorem bE{α:Type}(d:α):∀(l:List α) (n:Nat),l.length ≤ n → iY d l n = d
 | [],_,_ => rfl
 |_::_,0,h => by simp at h
 |_::r,n + 1,h => bE d r n (by simpa using h)
theorem CX:CJ Tryz.prog nH := by
 intro t
 by_cases h:t<352
 ·have := Aa (fun l => l[t]?) jV
  rw[AJ,AJ,List.getElem?_range h,FN,FN]at this
  exact .inr (Bv this)
 ·have h1:iY ([]:List TI) tbl (t / 16) = [] := bE _ _ _ (by show 22 ≤ t / 16;omega)
  have h2:nH t = zd := by unfold nH;rw[h1];rfl
  exact .inl h2
end Go.Eng
namespace Go.Eng
section
variable {P:Program}
theorem cN {f : Nat} {fn : Func} {c : Code} (hf : P.funcs[f]? = some fn) (hn : (fn.name == "runtime.NumGoroutine") = false) (hb : fn.body = some c) : Gl P f := ⟨fn, hf, hn, by simp [hb]⟩
theorem LG{f:Nat}{args:List AV}{res:AV}(vals:List Value)(v:Value)(hE:Gl P f)(ha:args=vals.map .v)(pj:∀g w,BP g w FH res v)
  (h:∀w,(∃m,w.cell? ⟨gB,0,none⟩=some (.int .i64 m))→Calls P f vals.toArray w fun e w'=>e=.returned v∧w'=w):Md P f args res:=by
 refine⟨hE,fun g w us hs hv hI=>?_⟩;have hu:us=vals.toArray:=by
  subst ha;rw[Bg]at hs;refine Array.ext (by simpa using hs) fun i h1 h2=>?_
  have:=hv i (.v (vals[i]'(by simpa using h2))) us[i] (by rw[AJ,AB (by simpa using h2)];rfl) (by rw[BN h1])
  rw[this.v_eq];simp
 subst hu;refine(h w hI.glob.1.2).mono ?_
 rintro e w' ⟨rfl,rfl⟩
 exact⟨v,res,Ab,g,rfl,⟨rfl,rfl⟩,(pj g _).up _,hI,.refl _ _ _⟩
theorem jC{g:Gh}{w:World}:∀(vs:List Value),BP g w FH (.tup (vs.map .v)) (.tuple vs.toArray):=fun vs =>
 .tup _ _ _ (by simp) fun i av x h1 h2=>by
  rw[AJ,AY]at h1;obtain⟨a,e1,rfl⟩:=h1
  have:vs[i]?=some x:=by simpa using h2
  rw[e1]at this;cases this;exact .v _ _
theorem dW{f:Nat}{args:List AV}(vals:List Value)(es:List Value)(T:TypeId)(hE:Gl P f)(ha:args=vals.map .v)(h1:∀x∈es,x.oneCell'=true)
  (h:∀w,(∃m,w.cell? ⟨gB,0,none⟩=some (.int .i64 m))→Calls P f vals.toArray w fun e w'=>e=.returned (.slice (some ⟨w.heap.size,0,none⟩) es.length es.length)∧w'=w.alloc (.cells es.toArray T)) :
  Md P f args (.slice .none (es.map fun x=>[.v x])):=by
 refine⟨hE,fun g w us hs hv hI=>?_⟩;have hu:us=vals.toArray:=by
  subst ha;rw[Bg]at hs;refine Array.ext (by simpa using hs) fun i h1 h2=>?_
  have:=hv i (.v (vals[i]'(by simpa using h2))) us[i] (by rw[AJ,AB (by simpa using h2)];rfl) (by rw[BN h1])
  rw[this.v_eq];simp
 subst hu;refine(h w hI.glob.1.2).mono ?_
 rintro e w' ⟨rfl,rfl⟩
 have E5:(w.alloc (.cells es.toArray T)).heap[w.heap.size]?=some (.cells es.toArray T (0,0)):=HY w _ rfl;have WR:∀b,b<w.heap.size→(w.alloc (.cells es.toArray T)).heap[b]?=w.heap[b]?:=fun b hb=>heap_alloc_old _ _ hb;have hK:Fg g w ⟨g.ρ,g.ln,g.tk,g.own,g.more w.heap.size es.length⟩ (w.alloc (.cells es.toArray T)):=fun b o hb=>by
  have DH:=hI.slt b o hb;exact⟨.inl hb,by simp only[World.cell?,WR b DH],fun es ck he=>(WR b DH).trans he⟩
 refine⟨_,_,Ab,⟨g.ρ,g.ln,g.tk,g.own,g.more w.heap.size es.length⟩,rfl,⟨rfl,rfl⟩,?_,⟨rfl,rfl,rfl,?_,fun b hb _=>WR b hb,fun b o hs=>?_,fun _=>trivial,fun _ _ _ h=>h.elim,fun _ _ h=>h.elim,fun b o hs=>?_,hI.glob.keep hK⟩,⟨.refl _ _,fun _ h=>h,hK⟩⟩
 ·have hr:CR ⟨g.ρ,g.ln,g.tk,g.own,g.more w.heap.size es.length⟩ (w.alloc (.cells es.toArray T)) FH (es.map fun x=>[AV.v x]).flatten (es.toArray.toList.take ((es.map fun x=>[AV.v x]).length*1)):=by
   have hfl:∀l:List Value,(l.map fun x=>[AV.v x]).flatten=l.map .v:=fun l=>by
    induction l with
    |nil=>rfl
    |cons a l ih=>rw[AQ,BI,ih];rfl
   rw[hfl];simp only[Bg,Nat.mul_one,Dq];refine⟨by simp,fun x hx=>h1 x (by simpa using hx),fun i av x q1 q2=>?_⟩;rw[AJ,AY]at q1;obtain⟨a,e1,rfl⟩:=q1;rw[e1]at q2;cases q2;exact .v _ _
  have:=BP.slice_row (U:=AW Ab) (cap:=es.length) (sz:=1) (es:=es.map fun x=>[AV.v x]) E5 (fun cs hcs=>by
   obtain⟨x,_,rfl⟩:=Ao.1 hcs;rfl) (by simp) hr (fun o ho=>.inr ⟨rfl,by simpa using ho⟩)
  simpa using this
 ·rw[World.size_alloc];omega
 ·rw[World.size_alloc];rcases hs with hs | ⟨rfl,_⟩
  ·have:=hI.slt b o hs;omega
  ·omega
 ·rcases hs with hs | ⟨rfl,_⟩
  ·exact .inl hs
  ·exact .inr (.inl (Am _))
end
end Go.Eng
namespace Go.Eng
open Go.Sort
section
variable {P:Program}
theorem NW(F c:Array Value)(h:F.size≤c.size):(putCells id 0 F c).toList.take F.size=F.toList∧(putCells id 0 F c).size=c.size:=by
 have hs:(putCells id 0 F c).size=c.size:=by simp[putCells]
 refine⟨?_,hs⟩;apply CN;intro i;rw[JX,AR,AR]
 by_cases hi:i<F.size
 ·rw[Au hi];have hi2:i<c.size:=by omega
  simp only[putCells,Array.getElem?_mapIdx,BN hi2,BN hi,FN,AF,true_and,Bo,hi,Og,Nat.sub_zero,id_eq];rw[DL F i hi]
 ·rw[Al hi,UF (by omega)]
theorem TG(r:Nat)(o o' : HO):A2 (Ap [(r,o)] Ab) r o'=Ap [(r,o')] Ab:=by
 funext i
 by_cases e:i=r
 ·subst e;rw[Bi];simp[Ap]
 ·rw[B5 _ _ _ _ e];simp[Ap,CV e]
theorem Qi{f:Nat}{es:List (List AV)}{sz:Nat}{rest:List Value}{Q:List (List AV)→Prop}(hE:Gl P f)
  (h0:es=[]→Q []∧∀w,Calls P f (#[.slice none 0 0]++rest.toArray) w fun e w'=>e=.returned (.tuple #[])∧w'=w)
  (h1:∀(g:Gh) (w:World) (b cap:Nat) (F:Array Value),CR g w FH es.flatten F.toList→F.size=es.length*sz→Holds id w b 0 F→b<w.heap.size→Calls P f (#[.slice (some ⟨b,0,none⟩) es.length cap]++rest.toArray) w fun e w' =>
   e=.returned (.tuple #[])∧∃(F' : Array Value) (FQ : List (List AV)) (n:Nat) (os:Array Obj),F'.size=F.size∧Q FQ∧FQ.length=es.length∧(∀cs∈FQ,cs.length=sz) ∧
    (∀(g:Gh) (w:World),CR g w FH es.flatten F.toList→CR g w FH FQ.flatten F'.toList)∧w'=grow (putRow id (Sort.ahead w n) b 0 F') os) :
  Bj P f (.msl 1000 es.length::rest.map .v) (Ap [(1000,.arr sz es)] Ab) fun r h'=>r=.tup []∧∃FQ,Q FQ∧h'=Ap [(1000,.arr sz FQ)] Ab:=by
 refine⟨hE,fun g w us hs hv hI=>?_⟩;have ho:=hI.objs 1000;have he:Ap [(1000,HO.arr sz es)] Ab 1000=.arr sz es:=rfl;rw[he]at ho;obtain⟨t1,l1,al,a2⟩:=ho;simp only[Av,Bg]at hs
 -- the arguments
 have xr:0<us.size:=by omega
 have bt:=hv 0 (.msl 1000 es.length) us[0] rfl (BN xr);have Kt:us[0]=g.ρ 1000:=by
  generalize us[0]=x at bt;cases bt with
  |msl _ r n a cap hu ht hn ha hx=>exact hx l1.symm
 have Lw:us=#[g.ρ 1000]++rest.toArray:=by
  refine Array.ext (by simp;omega) fun i h1 h2=>?_;cases i with
  |zero=>rw[Kt];simp
  |succ i =>
   have hi:i<rest.length:=by omega
   have:=hv (i+1) (.v rest[i]) us[i+1] (by simp[List.getElem?_eq_getElem hi]) (BN h1)
   rw[this.v_eq];simp
 rw[Lw];rcases a2 with ⟨b1,b2,b3⟩ | ⟨b,cap,E,vs,b1,b2,b3,b4,b5,b6,b7⟩
 ·subst b1;obtain⟨q,h0⟩:=h0 rfl;rw[b2];refine(h0 w).mono ?_
  rintro e w' ⟨rfl,rfl⟩
  exact⟨_,.tup [],_,g,rfl,⟨rfl,[],q,rfl⟩,.tup _ _ _ rfl (fun i av x h=>by simp at h),hI,.refl _ _ _⟩
 ·have hl:(Ap [(1000,HO.arr sz es)] Ab 1000).live:=trivial;have DH:=(hI.loc 1000 b hl b2).1;have Ho:es.length*sz≤vs.size:=by rw[b5];exact Bn _ b3
  have hF:((vs.toList.take (es.length*sz)).toArray).size=es.length*sz:=by simp;omega
  have hH:Holds id w b 0 (vs.toList.take (es.length*sz)).toArray:=fun j hj=>by
   have hj:j<es.length*sz:=by rw[hF]at hj;exact hj
   refine⟨?_,?_⟩
   ·have sc:j<vs.size:=by omega
    simp only[World.cell?,b4,Bo,Option.isSome_none,Df,Gd];rw[BN sc,DL _ j (by rw[hF];exact hj)];simp
   ·simp[World.frozen?,b4]
  rw[b1];refine(h1 g w b cap _ (by simpa using b6) hF hH DH).mono ?_
  rintro e w' ⟨rfl,F',FQ,n,os,f1,f2,f3,f4,f5,rfl⟩
  have qf : F'.size=es.length*sz:=f1.trans hF;have sC:=NW F' vs (by omega);have oU : (grow (putRow id (Sort.ahead w n) b 0 F') os).heap[b]?=some (.cells (putCells id 0 F' vs) E (0,0)):=by
   rw[heap_grow_old _ _ (by rw[size_putRow];exact DH)];show(w.heap.modify b (onCells (putCells id 0 F')))[b]?=_;rw[Array.getElem?_modify,Au rfl,b4];rfl
  have sr:∀k,k<w.heap.size→k≠b→(grow (putRow id (Sort.ahead w n) b 0 F') os).heap[k]?=w.heap[k]?:=fun k hk DM=>by
   rw[heap_grow_old _ _ (by rw[size_putRow];exact hk)];simp[putRow,mapBlock,Array.getElem?_modify,Ne.symm DM]
  have El:w.heap.size≤(grow (putRow id (Sort.ahead w n) b 0 F') os).heap.size:=by rw[size_grow,size_putRow];show w.heap.size≤w.heap.size+_;omega
  obtain⟨k1,k2⟩:=hI.upd 1000 (.arr sz FQ) (g.ρ 1000) (g.ln 1000) (g.tk 1000) (g.own 1000) g.S (grow (putRow id (Sort.ahead w n) b 0 F') os) (some b) ⟨rfl,rfl,rfl,El⟩
   (fun k hk DM=>sr k hk (fun e=>DM (by rw[e]))) (fun b' e=>by cases e;exact⟨hl,b2⟩) (fun _ _ h=>h) (fun _ _ h=>.inl h) (fun b' o e hs=>by cases e;exact absurd hs (b7 o))
   (fun b' _ e=>by rw[b2]at e;cases e;exact⟨BQ DH El,.inl ⟨hl,b2⟩⟩) (by simp) (fun _=>⟨rfl,Am _,fun _=>rfl,fun _=>rfl⟩) (fun hg hk=>by
    refine⟨by simp[Gh.upd,t1],by simp[Gh.upd,l1,f3],f4,.inr ⟨b,cap,E,_,by simp[Gh.upd,b1,f3],by simp[Gh.upd,b2],by omega,oU,by rw[sC.2,b5],?_,b7⟩⟩
    have:=f5 g w (by simpa using b6)
    rw[f3,←qf,sC.1];exact this.mono hk (fun _ h=>h) (fun _ h=>h.elim))
  rw[TG]at k1 k2;exact⟨_,.tup [],_,_,rfl,⟨rfl,FQ,f2,rfl⟩,.tup _ _ _ rfl (fun i av x h=>by simp at h),k1,k2⟩
end
end Go.Eng
namespace Go.Eng
open Go.Sort Go.Proofs
theorem RO{g:Gh}{w:World}{U:Nat→Prop}{cs ZD : List AV}{vs fq : List Value}(h:vs.length=cs.length):CR g w U (cs++ZD) (vs++fq)↔CR g w U cs vs∧CR g w U ZD fq:=by
 constructor
 ·intro⟨h1,h2,h3⟩;refine⟨⟨h,fun x hx=>h2 x (Bz _ hx),fun i av x q1 q2=>?_⟩,⟨by simp at h1;omega,fun x hx=>h2 x (Bq _ hx),fun i av x q1 q2=>?_⟩⟩
  ·have a1:=(Aw.1 q1).1;have a2:=(Aw.1 q2).1;exact h3 i av x (by rw[A3 a1];exact q1) (by rw[A3 a2];exact q2)
  ·exact h3 (cs.length+i) av x (by rw[A1 (by omega),G5];exact q1) (by rw[A1 (by omega),h,G5];exact q2)
 ·intro⟨⟨h1,h2,h3⟩,k1,k2,k3⟩;refine⟨by simp[h1,k1],fun x hx=>(Ba.1 hx).elim (h2 x) (k2 x),fun i av x q1 q2=>?_⟩
  by_cases hi:i<cs.length
  ·rw[A3 hi]at q1;rw[A3 (by omega)]at q2;exact h3 i av x q1 q2
  ·rw[A1 (by omega)]at q1;rw[A1 (by omega)]at q2;rw[h]at q2;exact k3 _ av x q1 q2
theorem QT{α β:Type}{g:Gh}{w:World}{U:Nat→Prop}{I3:β→List AV}{enc:α→List Value}(hl:∀x y,(enc x).length=(I3 y).length):∀ps:List (β×α),
  CR g w U (ps.map fun p=>I3 p.1).flatten (ps.map fun p=>enc p.2).flatten↔∀p∈ps,CR g w U (I3 p.1) (enc p.2)
 | []=>by simp[CR]
 |p::ps=>by
  simp only[AQ,BI];rw[RO (hl _ _),QT hl ps];simp
theorem ML{α β:Type}{f:α→β}:∀{m m' : List β},m.Perm m'→∀ps:List α,ps.map f=m→∃jy : List α,jy.Perm ps∧jy.map f=m':=by
 intro m m' h
 induction h with
 |nil=>intro ps e;exact⟨ps,.refl _,e⟩
 |cons x h ih =>
  intro ps e;cases ps with
  |nil=>cases e
  |cons p ps =>
   rw[AQ]at e
   injection e with e1 e2
   obtain⟨jy,h1,h2⟩:=ih ps e2;exact⟨p::jy,h1.cons p,by rw[AQ,e1,h2]⟩
 |swap x y l =>
  intro ps e
  match ps,e with
  |p::q::ps,e =>
   simp only[AQ,FJ]at e;exact⟨q::p::ps,List.Perm.swap _ _ _,by simp[e.1,e.2.1,e.2.2]⟩
 |trans h1 h2 ih1 ih2 =>
  intro ps e;obtain⟨ps1,p1,p2⟩:=ih1 ps e;obtain⟨ps2,q1,q2⟩:=ih2 ps1 p2;exact⟨ps2,q1.trans p1,q2⟩
theorem Ts{α:Type}[Inhabited α]{enc:α→List Value}{k:Nat}(hk:∀x,(enc x).length=k)(d:Array α):(flatK enc k d).toList=(d.toList.map enc).flatten:=by
 have hl:∀cs∈d.toList.map enc,cs.length=k:=fun cs hcs=>by
  obtain⟨x,_,rfl⟩:=Ao.1 hcs;exact hk x
 have CF:(d.toList.map enc).flatten.length=d.size*k:=by
  have:∀l:List α,(l.map enc).flatten.length=l.length*k:=fun l=>by
   induction l with
   |nil=>simp
   |cons a l ih=>simp[hk,Nat.succ_mul,ih];omega
  rw[this];simp
 apply CN;intro t
 by_cases ht:t<d.size*k
 ·have k0:0<k:=Nat.pos_of_ne_zero fun h=>by subst h;simp at ht
  have h1:t / k<d.size:=by rw[LN k0];exact ht
  have h2:t % k<k:=Nat.mod_lt _ k0;have e:t=t / k*k+t % k:=by rw[Nat.mul_comm];exact(U8 t k).symm
  rw[AR,BN (by simpa using ht),←DL _ t (by simpa using ht),get_flatK _ _ _ _ ht];have hg:(d.toList.map enc)[t / k]?=some (enc d[t / k]!):=by
   rw[AJ,AR,BN h1,DL d _ h1];rfl
  have:=Fu hl hg h2
  rw[e,this,←e];rw[AB (by rw[hk];exact h2),DL _ _ (by rw[hk];exact h2)]
 ·rw[A7 (by simp;omega),A7 (by omega)]
theorem ci{α β:Type}:∀{l:List α} {m:List β},l.length=m.length→(l.zip m).map (·.1)=l∧(l.zip m).map (·.2)=m
 | [],[],_=>⟨rfl,rfl⟩
 |a::l,b::m,h=>by
  have:=ci (l:=l) (m:=m) (by simpa using h)
  simp[this.1,this.2]
section
variable {P:Program}
theorem JA{α β:Type}[Inhabited α]{f k:Nat}{rest:List Value}(hE:Gl P f)(I3:β→List AV)(enc:α→List Value)(hB:∀x,(I3 x).length=k)(hk:∀x,(enc x).length=k)(lt:α→α→Bool)(R:β→α→Prop)(l:List β)(hl:l.length<4611686018427387904)
  (hR:∀x∈l,∀(g:Gh) (w:World) (vs:List Value),CR g w FH (I3 x) vs→∃a,enc a=vs∧R x a)
  (DN:∀(w:World) (b cap:Nat) (d:Array α),HoldsK enc k w b 0 d→b<w.heap.size→d.size<4611686018427387904→d.size=l.length→Calls P f (#[.slice (some ⟨b,0,none⟩) d.size cap]++rest.toArray) w fun e w' =>
   e=.returned (.tuple #[])∧∃d' n os,PermIn 0 d.size d d'∧SortedIn lt 0 d.size d'∧w'=sortWorldK enc k w b 0 n d' os)
  (sq:l=[]→∀w:World,Calls P f (#[.slice none 0 0]++rest.toArray) w fun e w'=>e=.returned (.tuple #[])∧w'=w) :
  Bj P f (.msl 1000 l.length::rest.map .v) (Ap [(1000,.arr k (l.map I3))] Ab) fun r h' =>
   r=.tup []∧∃l' : List β,l'.Perm l∧(∃al:List α,al.length=l'.length∧(∀(i:Nat) (x:β) (a:α),l'[i]?=some x→al[i]?=some a→R x a)∧al.Pairwise (fun x y=>lt y x=false))∧h'=Ap [(1000,.arr k (l'.map I3))] Ab:=by
 have Hx:=Qi (P:=P) (f:=f) (es:=l.map I3) (sz:=k) (rest:=rest)
  (Q:=fun FQ=>∃l' : List β,l'.Perm l∧(∃al:List α,al.length=l'.length∧(∀(i:Nat) (x:β) (a:α),l'[i]?=some x→al[i]?=some a→R x a)∧al.Pairwise (fun x y=>lt y x=false))∧FQ=l'.map I3) hE ?_ ?_
 ·rw[Bg]at Hx;refine⟨hE,fun g w vals q1 q2 q3=>(Hx.2 g w vals q1 q2 q3).mono fun _ _ ⟨v,r,h',g',e1,⟨e2,FQ,⟨l',p1,p2,p3⟩,p4⟩,rest⟩=>⟨v,r,h',g',e1,⟨e2,l',p1,p2,by rw[p4,p3]⟩,rest⟩⟩
 ·intro e
  have:l=[]:=by simpa using e
  subst this;exact⟨⟨[],.refl _,⟨[],rfl,fun i x a h=>by simp at h,.nil⟩,rfl⟩,sq rfl⟩
 ·intro g w b cap F hr hF hH hb
  -- the elements in memory
  have pm:∀(m:List β) (vs:List Value),(∀x∈m,x∈l)→CR g w FH (m.map I3).flatten vs→∃al:List α,al.length=m.length∧vs=(al.map enc).flatten∧∀(i:Nat) (x:β) (a:α),m[i]?=some x→al[i]?=some a→R x a:=by
   intro m
   induction m with
   |nil =>
    intro vs _ h
    have:vs=[]:=AA (by simpa using h.1)
    subst this;exact⟨[],rfl,rfl,fun i x a h=>by simp at h⟩
   |cons x m ih =>
    intro vs hm h;rw[AQ,BI]at h;have CF:=h.1;rw[Ad,hB]at CF;have e:vs=vs.take k++vs.drop k:=(If k vs).symm;rw[e]at h;rw[RO (by rw[AH,hB];omega)]at h;obtain⟨a,a1,a2⟩:=hR x (hm x (Ac ..)) g w _ h.1;obtain⟨al,b1,b2,b3⟩:=ih _ (fun y hy=>hm y (Ah _ hy)) h.2;refine⟨a::al,by simp[b1],by rw[AQ,BI,a1,←b2,←e],fun i y c q1 q2=>?_⟩;cases i with
    |zero=>simp only[Bb,Bw]at q1 q2;subst q1;subst q2;exact a2
    |succ i=>exact b3 i y c (by simpa using q1) (by simpa using q2)
  obtain⟨al,s1,s2,s3⟩:=pm l F.toList (fun _ h=>h) hr;have hFd:F=flatK enc k al.toArray:=I0.1 (by rw[Ts hk,s2]);have hd:HoldsK enc k w b 0 al.toArray:=by unfold HoldsK;rw[←hFd];exact hH
  have hc:=DN w b cap al.toArray hd hb (by simpa[s1]using hl) (by simp[s1]);have El:al.toArray.size=(l.map I3).length:=by simp[s1]
  rw[El]at hc;refine hc.mono ?_
  rintro e w' ⟨rfl,d',n,os,p1,p2,rfl⟩
  obtain⟨z1,z2⟩:=ci s1.symm;obtain⟨ii,_,Jd⟩:=p1;have ii : d'.size=al.length:=by rw[ii];simp
  have e1:d'.extract 0 (l.map I3).length=d':=by rw[show(l.map I3).length=d'.size by rw[ii];simp[s1]];exact Array.extract_size
  have e2:al.toArray.extract 0 (l.map I3).length=al.toArray:=by rw[←El];exact Array.extract_size
  rw[e1,e2]at Jd;have Jd:al.Perm d'.toList:=by
   first
   |exact Jd.symm
   |exact Jd
   |(have:=Jd.symm;simpa using this)
  obtain⟨jy,r1,r2⟩:=ML Jd (l.zip al) z2;have rel:∀p∈l.zip al,R p.1 p.2:=fun p hp=>by
   obtain⟨i,hi⟩:=Ch.1 hp;rw[List.getElem?_zip_eq_some]at hi;exact s3 i _ _ hi.1 hi.2
  refine⟨rfl,flatK enc k d',(jy.map (·.1)).map I3,n,os,by rw[size_flatK,ii,hF];simp[s1],⟨jy.map (·.1),?_,⟨d'.toList,by rw[←r2];simp,fun i x a q1 q2=>?_,?_⟩,rfl⟩,by have:=r1.length_eq;simp[this,s1],fun cs hcs=>?_,fun g w hr=>?_,?_⟩
  ·have:=r1.map (·.1);rw[z1]at this;exact this
  ·rw[←r2]at q2;rw[AJ,AY]at q1 q2;obtain⟨p,q1,rfl⟩:=q1;obtain⟨p',q2,rfl⟩:=q2;rw[q1]at q2;cases q2;exact rel p (r1.mem_iff.1 (Ax q1))
  ·rw[Be];intro i j hi hj VB;have Ma : i<d'.size:=by simpa using hi
   have o7 : j<d'.size:=by simpa using hj
   have:=p2 i j (AF _) VB (by rw[ii]at o7;simp[s1]at o7⊢;omega)
   rw[DL d' j o7,DL d' i Ma]at this;simpa using this
  ·obtain⟨x,_,rfl⟩:=Ao.1 hcs;exact hB x
  ·have h1:CR g w FH ((l.zip al).map fun p=>I3 p.1).flatten ((l.zip al).map fun p=>enc p.2).flatten:=by
    have a1:(l.zip al).map (fun p=>I3 p.1)=l.map I3:=by
     have:(l.zip al).map (fun p=>I3 p.1)=((l.zip al).map (·.1)).map I3:=by rw[BU];rfl
     rw[this,z1]
    have a2:(l.zip al).map (fun p=>enc p.2)=al.map enc:=by
     have:(l.zip al).map (fun p=>enc p.2)=((l.zip al).map (·.2)).map enc:=by rw[BU];rfl
     rw[this,z2]
    rw[a1,a2,←s2];exact hr
   have CF:∀(x:α) (y:β),(enc x).length=(I3 y).length:=fun x y=>by rw[hk,hB]
   rw[QT CF]at h1;have h2:=(QT (g:=g) (w:=w) (U:=FH) CF jy).2 fun p hp=>h1 p (r1.mem_iff.1 hp);have b1:(jy.map (·.1)).map I3=jy.map fun p=>I3 p.1:=by rw[BU];rfl
   have b2:(flatK enc k d').toList=(jy.map fun p=>enc p.2).flatten:=by
    rw[Ts hk,←r2,BU];rfl
   rw[b1,b2];exact h2
  ·rfl
end
end Go.Eng
namespace Go.Eng
section
variable {P:Program}
theorem Cq{f:Nat}{fn:Func}{c:Code}{args:List AV}{H0:List (Nat×HO)}{Q:AV→(Nat→HO)→Prop}(cx:Cx)(σ:Ji)(hP:cx.P=P)(hT:CJ P cx.T)(hm:P.follows .mixedOrders=true)(hx:cx.ext=true)(hf:P.funcs[f]?=some fn)
  (hn : (fn.name == "runtime.NumGoroutine") = false) (hb : fn.body = some c) (hN : args.length ≤ fn.ntmps) (hc : EE fn.ntmps c = true) (hσ : (G0 σ && IR σ H0) = true)
  (hk:RW cx c (XT cx fn.results.toList σ fun r h'=>∃r',Hi r r'∧Q r' h') ⟨Pd args,Ap H0 Ab⟩) (hY:∀l σ g w,cx.yp l σ g w:=by exact fun _ _ _ _=>trivial):Bj P f args (Ap H0 Ab) Q :=
 (gA cx σ hP hT hm hx hf hn hb hN hc hσ hk hY).mono fun _ _ ⟨r',s,q⟩=>⟨r',s,q⟩
end
end Go.Eng
namespace Go.Eng
open Go.Sort
theorem CR.append{g:Gh}{w:World}{U:Nat→Prop}{UN bs:List AV}{xs ys:List Value}(h:CR g w U UN xs)(k:CR g w U bs ys):CR g w U (UN++bs) (xs++ys):=by
 refine⟨by rw[Ad,Ad,h.1,k.1],fun x hx=>?_,fun i av x q1 q2=>?_⟩
 ·rcases Ba.1 hx with hx | hx
  ·exact h.2.1 x hx
  ·exact k.2.1 x hx
 ·have hl:=h.1
  by_cases hi:i<UN.length
  ·rw[A3 hi]at q1;rw[A3 (by omega)]at q2;exact h.2.2 i av x q1 q2
  ·rw[A1 (by omega)]at q1;rw[A1 (by omega),hl]at q2;exact k.2.2 _ av x q1 q2
theorem CR.take{g:Gh}{w:World}{U:Nat→Prop}{UN:List AV}{xs:List Value}(h:CR g w U UN xs)(k:Nat):CR g w U (UN.take k) (xs.take k):=by
 refine⟨by rw[AH,AH,h.1],fun x hx=>h.2.1 x (ED hx),fun i av x q1 q2=>?_⟩;rw[JX]at q1 q2;split at q1
 ·rename_i hi;rw[Au hi]at q2;exact h.2.2 i av x q1 q2
 ·cases q1
theorem CR.drop{g:Gh}{w:World}{U:Nat→Prop}{UN:List AV}{xs:List Value}(h:CR g w U UN xs)(k:Nat):CR g w U (UN.drop k) (xs.drop k):=by
 refine⟨by rw[Ar,Ar,h.1],fun x hx=>h.2.1 x (IM hx),fun i av x q1 q2=>?_⟩;rw[BY]at q1 q2;exact h.2.2 _ av x q1 q2
theorem Lt{α:Type}{k:Nat}:∀(es:List (List α)) (i:Nat),(∀e∈es,e.length=k)→es.flatten.take (i*k)=(es.take i).flatten
 | [],i,_=>by simp
 |e::es,0,_=>by simp
 |e::es,i+1,h=>by
  have he:=h e (Ac ..);rw[BI,Jh,BI,List.take_append,←Lt es i fun x hx=>h x (Ah _ hx),AL (by rw[he,Ea];omega),he,show(i+1)*k-k=i*k by rw[Ea];omega]
theorem Pl{α:Type}{k:Nat}:∀(es:List (List α)) (i:Nat),(∀e∈es,e.length=k)→es.flatten.drop (i*k)=(es.drop i).flatten
 | [],i,_=>by simp
 |e::es,0,_=>by simp
 |e::es,i+1,h=>by
  have he:=h e (Ac ..);rw[BI,List.drop_succ_cons,List.drop_append,←Pl es i fun x hx=>h x (Ah _ hx),DJ (by rw[he,Ea];omega),he,show(i+1)*k-k=i*k by rw[Ea];omega,Ep]
section
variable {P:Program}
theorem Va{f:Nat}{es:List (List AV)}{sz:Nat}{rest:List Value}{n' : Nat}{Q:List (List AV)→Prop}(hE:Gl P f)(DM:es≠[])(Yj : n'≤es.length)
  (h1:∀(g:Gh) (w:World) (b cap:Nat) (F:Array Value),CR g w FH es.flatten F.toList→F.size=es.length*sz→Holds id w b 0 F→b<w.heap.size→es.length≤cap→Calls P f (#[.slice (some ⟨b,0,none⟩) es.length cap]++rest.toArray) w fun e w' =>
   e=.returned (.slice (some ⟨b,0,none⟩) n' cap)∧∃(F' : Array Value) (FQ : List (List AV)) (n:Nat) (os:Array Obj),F'.size=F.size∧Q FQ∧FQ.length=es.length∧(∀cs∈FQ,cs.length=sz) ∧
    (∀(g:Gh) (w:World),CR g w FH es.flatten F.toList→CR g w FH FQ.flatten F'.toList)∧w'=grow (putRow id (Sort.ahead w n) b 0 F') os) :
  Bj P f (.msl 1000 es.length::rest.map .v) (Ap [(1000,.arr sz es)] Ab) fun r h'=>r=.msl 2000 n'∧∃FQ,Q FQ∧h'=Ap [(1000,.dead),(2000,.arr sz (FQ.take n'))] Ab:=by
 refine⟨hE,fun g w us hs hv hI=>?_⟩;have ho:=hI.objs 1000;have he:Ap [(1000,HO.arr sz es)] Ab 1000=.arr sz es:=rfl;rw[he]at ho;obtain⟨t1,l1,al,a2⟩:=ho;simp only[Av,Bg]at hs;have xr:0<us.size:=by omega
 have bt:=hv 0 (.msl 1000 es.length) us[0] rfl (BN xr);have Kt:us[0]=g.ρ 1000:=by
  generalize us[0]=x at bt;cases bt with
  |msl _ r n a cap hu ht hn ha hx=>exact hx l1.symm
 have Lw:us=#[g.ρ 1000]++rest.toArray:=by
  refine Array.ext (by simp;omega) fun i h1 h2=>?_;cases i with
  |zero=>rw[Kt];simp
  |succ i =>
   have hi:i<rest.length:=by omega
   have:=hv (i+1) (.v rest[i]) us[i+1] (by simp[List.getElem?_eq_getElem hi]) (BN h1)
   rw[this.v_eq];simp
 rw[Lw];rcases a2 with ⟨b1,b2,b3⟩ | ⟨b,cap,E,vs,b1,b2,b3,b4,b5,b6,b7⟩
 ·exact absurd b1 DM
 ·have hl:(Ap [(1000,HO.arr sz es)] Ab 1000).live:=trivial;have DH:=(hI.loc 1000 b hl b2).1;have Ho:es.length*sz≤vs.size:=by rw[b5];exact Bn _ b3
  have hF:((vs.toList.take (es.length*sz)).toArray).size=es.length*sz:=by simp;omega
  have hH:Holds id w b 0 (vs.toList.take (es.length*sz)).toArray:=fun j hj=>by
   have hj:j<es.length*sz:=by rw[hF]at hj;exact hj
   refine⟨?_,?_⟩
   ·have sc:j<vs.size:=by omega
    simp only[World.cell?,b4,Bo,Option.isSome_none,Df,Gd];rw[BN sc,DL _ j (by rw[hF];exact hj)];simp
   ·simp[World.frozen?,b4]
  rw[b1];refine(h1 g w b cap _ (by simpa using b6) hF hH DH b3).mono ?_
  rintro e w' ⟨rfl,F',FQ,n,os,f1,f2,f3,f4,f5,rfl⟩
  have qf : F'.size=es.length*sz:=f1.trans hF;have sC:=NW F' vs (by omega);have oU : (grow (putRow id (Sort.ahead w n) b 0 F') os).heap[b]?=some (.cells (putCells id 0 F' vs) E (0,0)):=by
   rw[heap_grow_old _ _ (by rw[size_putRow];exact DH)];show(w.heap.modify b (onCells (putCells id 0 F')))[b]?=_;rw[Array.getElem?_modify,Au rfl,b4];rfl
  have sr:∀k,k<w.heap.size→k≠b→(grow (putRow id (Sort.ahead w n) b 0 F') os).heap[k]?=w.heap[k]?:=fun k hk DM=>by
   rw[heap_grow_old _ _ (by rw[size_putRow];exact hk)];simp[putRow,mapBlock,Array.getElem?_modify,Ne.symm DM]
  have El:w.heap.size≤(grow (putRow id (Sort.ahead w n) b 0 F') os).heap.size:=by rw[size_grow,size_putRow];show w.heap.size≤w.heap.size+_;omega
  obtain⟨k1,k2⟩:=hI.upd 1000 (.arr sz FQ) (g.ρ 1000) (g.ln 1000) (g.tk 1000) (g.own 1000) g.S (grow (putRow id (Sort.ahead w n) b 0 F') os) (some b) ⟨rfl,rfl,rfl,El⟩
   (fun k hk DM=>sr k hk (fun e=>DM (by rw[e]))) (fun b' e=>by cases e;exact⟨hl,b2⟩) (fun _ _ h=>h) (fun _ _ h=>.inl h) (fun b' o e hs=>by cases e;exact absurd hs (b7 o))
   (fun b' _ e=>by rw[b2]at e;cases e;exact⟨BQ DH El,.inl ⟨hl,b2⟩⟩) (by simp) (fun _=>⟨rfl,Am _,fun _=>rfl,fun _=>rfl⟩) (fun hg hk=>by
    refine⟨by simp[Gh.upd,t1],by simp[Gh.upd,l1,f3],f4,.inr ⟨b,cap,E,_,by simp[Gh.upd,b1,f3],by simp[Gh.upd,b2],by omega,oU,by rw[sC.2,b5],?_,b7⟩⟩
    have:=f5 g w (by simpa using b6)
    rw[f3,←qf,sC.1];exact this.mono hk (fun _ h=>h) (fun _ h=>h.elim))
  rw[TG]at k1 k2;generalize gS : g.upd 1000 (g.ρ 1000) (g.ln 1000) (g.tk 1000) (g.own 1000) g.S=g' at k1 k2;have ng : g'.own 1000=some b:=by rw[←gS];simp[Gh.upd,b2]
  have su:=k1.objs 1000;have kj:Ap [(1000,HO.arr sz FQ)] Ab 1000=.arr sz FQ:=rfl;rw[kj]at su;obtain⟨m1,m2,m3,m4⟩:=su;have hρ:g'.ρ 1000=.slice (some ⟨b,0,none⟩) es.length cap:=by rw[←gS];simp[Gh.upd,b1]
  have wY : FQ≠[]:=fun e=>DM (AA (by rw[←f3,e];rfl));rcases m4 with ⟨m4,_⟩ | ⟨b',L3,E',fq,c1,c2,c3,c4,c5,c6,c7⟩
  ·exact absurd m4 wY
  ·rw[hρ]at c1;simp only[Value.slice.injEq,Bw,Addr.mk.injEq,and_true]at c1;obtain⟨c1a,c1b,c1c⟩:=c1;subst c1a;subst c1c;have gY : (FQ.take n').length=n':=by rw[AH];omega
   obtain⟨k3,k4⟩:=k1.move 1000 2000 (by decide) rfl trivial ng (.arr sz (FQ.take n')) (.slice (some ⟨b,0,none⟩) n' cap) n' true (by simp) (fun hk=>by
    refine⟨by simp[Gh.upd],by simp[Gh.upd,gY],fun cs hcs=>m3 cs (ED hcs),.inr ⟨b,cap,E',fq,by simp[Gh.upd,gY],by simp[Gh.upd],by omega,c4,c5,?_,c7⟩⟩
    have:=(c6.mono hk (fun _ h=>h) (fun _ h=>h.elim)).take (n'*sz)
    rw[Lt FQ n' m3,KG,Nat.min_eq_left (Bn _ (by omega))]at this;rw[gY];exact this)
   have r9:A2 (A2 (Ap [(1000,HO.arr sz FQ)] Ab) 1000 .dead) 2000 (.arr sz (FQ.take n'))=Ap [(1000,.dead),(2000,.arr sz (FQ.take n'))] Ab:=by
    funext i
    by_cases e1:i=2000
    ·subst e1;rw[Bi];rfl
    ·rw[B5 _ _ _ _ e1]
     by_cases e2:i=1000
     ·subst e2;rw[Bi];rfl
     ·rw[B5 _ _ _ _ e2];simp[Ap,CV e1,CV e2]
   rw[r9]at k3 k4;exact⟨_,.msl 2000 n',_,_,rfl,⟨rfl,FQ,f2,rfl⟩,.msl _ 2000 n' (some ⟨b,0,none⟩) cap (by intro c;cases c) (by simp[Gh.upd]) (by simp[Gh.upd]) (.inr ⟨b,rfl⟩) (fun _=>by simp[Gh.upd]),k3,k2.trans k4⟩
end
end Go.Eng
namespace Go.Eng
def gl(a b:FI):Bool :=
 (match a.2 with | some r=>!I5 b.1 r | none=>true)&&(match b.2 with | some r=>!I5 a.1 r | none=>true)
def Qj(ops:Array Oper)(oi:Oper)(fi:FI)(D:List Nat)(k:Nat):List Oper→List FI→Bool
 |o::r,f::fs=>(I5 D k||(oi.apart ops o&&gl fi f))&&Qj ops oi fi D (k+1) r fs
 | [],[]=>true
 |_,_=>false
def Vs(ops:Array Oper)(all:List Oper)(k:Nat):List Oper→List FI→Bool
 |o::r,f::fs =>
  let D:=Qp k [] 0 all
  (o.after.toList.all fun e=>!Region.binds .any e||Nat.blt e.on k)&&Uw k D 0 all&&(D.all fun j=>Nat.blt k j&&Nat.blt j all.length)&&Qj ops o f D (k+1) r fs&&Vs ops all (k+1) r fs
 | [],[]=>true
 |_,_=>false
def aX(ops:Array Oper)(fs:List FI):Bool:=Region.noSelect ops&&Vs ops ops.toList 0 ops.toList fs
def QW(f:FI):Prop:=∀r,f.2=some r→r<10000000
def SB:List FI→Prop
 | []=>True
 |f::r=>QW f∧SB r
theorem A5(l:List Nat):QW (l,none):=fun _ h=>by cases h
theorem Ei{l:List Nat}{r:Nat}(h:r<10000000):QW (l,some r):=fun _ e=>by cases e;exact h
theorem gm{a b:FI}(ha:QW a)(hb:QW b)(h:gl a b=true):Tf a b=true:=by
 obtain⟨a1,a2⟩:=a;obtain⟨b1,b2⟩:=b;unfold gl at h;unfold Tf;rw[Ai]at h⊢;refine⟨?_,?_⟩
 ·cases a2 with
  |none=>rfl
  |some r =>
   have h1:(!I5 b1 r)=true:=h.1;show YQ b1 r=true;unfold YQ;rw[CV (show r≠Wr by have:=ha r rfl;unfold Wr;omega),Ez,h1,show Nat.blt r 10000000=true by rw[Co];exact ha r rfl];rfl
 ·cases b2 with
  |none=>rfl
  |some r =>
   have h1:(!I5 a1 r)=true:=h.2;show YQ a1 r=true;unfold YQ;rw[CV (show r≠Wr by have:=hb r rfl;unfold Wr;omega),Ez,h1,show Nat.blt r 10000000=true by rw[Co];exact hb r rfl];rfl
theorem Vc{ops:Array Oper}{oi:Oper}{fi:FI}{D:List Nat}(hi:QW fi):∀{l:List Oper} {fs:List FI} {k:Nat},SB fs→Qj ops oi fi D k l fs=true→IN ops oi fi D k l fs=true
 | [],[],_,_,h=>h
 |o::r,f::fs,k,hs,h=>by
  unfold Qj at h;unfold IN;rw[Ai,CG,Ai]at h⊢;exact⟨h.1.imp id (fun q=>⟨q.1,gm hi hs.1 q.2⟩),Vc hi hs.2 h.2⟩
 | [],_::_,_,_,h=>by simp[Qj]at h
 |_::_,[],_,_,h=>by simp[Qj]at h
theorem XQ{ops:Array Oper}{all:List Oper}:∀{l:List Oper} {fs:List FI} {k:Nat},SB fs→Vs ops all k l fs=true→Mm ops all k l fs=true
 | [],[],_,_,h=>h
 |o::r,f::fs,k,hs,h=>by
  unfold Vs at h;unfold Mm;simp only[Ai]at h⊢;exact⟨⟨h.1.1,Vc hs.1 hs.2 h.1.2⟩,XQ hs.2 h.2⟩
 | [],_::_,_,_,h=>by simp[Vs]at h
 |_::_,[],_,_,h=>by simp[Vs]at h
theorem Jl{ops:Array Oper}{fs:List FI}(hs:SB fs)(h:aX ops fs=true):Tg ops fs=true:=by
 unfold aX at h;unfold Tg;rw[Ai]at h⊢;exact⟨h.1,XQ hs h.2⟩
theorem Rr{cx:Cx}{d:Option Nat}{h:Nat→HO}{ty e m:Nat}{r:Nat}{es es2:List (List AV)}{x:AV}{K:HK}(xq:(cx.T ty).d=.slice e)(hz:Nat.beq (cx.T e).zc.length (cx.T e).size=true)(El:(cx.T e).size=m+1)
  (hx:∀K' : List (List AV)→Prop,K' es2→Lr h x K') (hr:h r=.tok (m+1) es.length) (hl:Da (m+1) es2) (hb:(es.length+es2.length)*(cx.T e).bytes≤140737488355328) (hc:es.length+es2.length≤9223372036854775807)
  (hk:K (.slice (.id r (m+1)) (es++es2)) (A2 h r (.tok (m+1) (es.length+es2.length)))):IF cx d h ty (.slice (.id r (m+1)) es) x K:=by
 have hq:Nat.beq (m+1) (m+1)=true:=Dg _;unfold IF;rw[xq];rw[El]at hz;simp only[El,hz];refine hx _ ?_;simp only[hr,hq];exact⟨⟨hl,trivial,hb,hc⟩,hk⟩
theorem Rp{cx:Cx}{d:Nat}{h:Nat→HO}{ty e m:Nat}{es2:List (List AV)}{x:AV}{K:HK}(xq:(cx.T ty).d=.slice e)(hz:Nat.beq (cx.T e).zc.length (cx.T e).size=true)(El:(cx.T e).size=m+1)
  (hx:∀K' : List (List AV)→Prop,K' es2→Lr h x K') (hr:h (KQ cx d)=.free) (ha:GU cx.pl.arr d=none) (hl:Da (m+1) es2) (hb:es2.length*(cx.T e).bytes≤140737488355328) (hc:es2.length≤9223372036854775807)
  (hk:K (.slice (.id (KQ cx d) (m+1)) es2) (A2 h (KQ cx d) (.tok (m+1) es2.length))):IF cx (some d) h ty (.v (.slice none 0 0)) x K:=by
 unfold IF;rw[xq];rw[El]at hz;simp only[El,hz];refine hx _ ?_;refine⟨⟨El▸hl,hb,hc⟩,?_⟩;unfold EL;simp only[hr,ha];exact hk
end Go.Eng
namespace Go.Eng
open Go.RowKit
section
variable {P:Program}
end
end Go.Eng
namespace Go.Eng
def WA:Obj→Bool
 |.cells ..=>false
 |.map ..=>false
 |.mapIter ..=>false
 |.loop r=>!OX [] r.body
 |_=>true
structure aQ(n0 x:Nat)(w:World)(g:Gh)(h:Nat→HO)(w' : World)(g' : Gh)(h' : Nat→HO):Prop where
 os:w'.os=w.os
 tape:w'.tape=w.tape
 output:w'.output=w.output
 size:w.heap.size≤w'.heap.size
 frame:∀b,b<n0→b≠x→(∀r,(h r).live→g.own r≠some b)→w'.heap[b]?=w.heap[b]?
 loc:∀r b,(h' r).live→g'.own r=some b→n0≤b∨∃r',(h r').live∧g.own r'=some b
 sg:∀b o,g'.S b o→g.S b o∨n0≤b∨∃r',(h r').live∧g.own r'=some b
 le:Le h g w h' g' w'
section
variable {P:Program}{N:Nat}{ds:List Deferred}{n0 x:Nat}{w w' w1 w2:World}{g g' g1 g2:Gh}{h h' h1 h2:Nat→HO}
theorem aQ.trans(a:aQ n0 x w g h w1 g1 h1)(b:aQ n0 x w1 g1 h1 w2 g2 h2):aQ n0 x w g h w2 g2 h2 where
 os:=b.os.trans a.os
 tape:=b.tape.trans a.tape
 output:=b.output.trans a.output
 size:=AT a.size b.size
 frame c hc hx hn:=(b.frame c hc hx fun r hl e=>by
  rcases a.loc r c hl e with h | ⟨r',h1,h2⟩
  ·omega
  ·exact hn r' h1 h2).trans (a.frame c hc hx hn)
 loc r c hl e:=by
  rcases b.loc r c hl e with h | ⟨r',h1,h2⟩
  ·exact .inl h
  ·exact a.loc r' c h1 h2
 sg c o hs:=by
  rcases b.sg c o hs with h | h | ⟨r',h1,h2⟩
  ·exact a.sg c o h
  ·exact .inr (.inl h)
  ·rcases a.loc r' c h1 h2 with h | h
   ·exact .inr (.inl h)
   ·exact .inr (.inr h)
 le:=a.le.trans b.le
theorem aQ.of_inv(hI:DS w g h h' g' w')(hL:Le h g w h' g' w')(hn:n0≤w.heap.size):aQ n0 x w g h w' g' h' where
 os:=hI.os
 tape:=hI.tape
 output:=hI.output
 size:=hI.size
 frame c hc _ Yj:=hI.frame c (by omega) Yj
 loc r c hl e:=by
  rcases(hI.loc r c hl e).2 with h | h
  ·exact .inl (by omega)
  ·exact .inr h
 sg c o hs:=by
  rcases hI.sg c o hs with h | h | h
  ·exact .inl h
  ·exact .inr (.inl (by omega))
  ·exact .inr (.inr h)
 le:=hL
theorem DS.base(hI:DS w g h h' g' w'):DS w' g' h' h' g' w' where
 os:=rfl
 tape:=rfl
 output:=rfl
 size:=Am _
 frame _ _ _:=rfl
 slt:=hI.slt
 objs:=hI.objs
 inj:=hI.inj
 loc r b hl e:=⟨(hI.loc r b hl e).1,.inr ⟨r,hl,e⟩⟩
 sg _ _ hs:=.inl hs
 glob:=hI.glob
theorem DS.of_seg(hI:DS w' g' h' h' g' w')(s:aQ w.heap.size x w g h w' g' h')(hx:x<w.heap.size→w'.heap[x]?=w.heap[x]?):DS w g h h' g' w' where
 os:=s.os
 tape:=s.tape
 output:=s.output
 size:=s.size
 frame b hb hn:=by
  by_cases e:b=x
  ·subst e;exact hx hb
  ·exact s.frame b hb e hn
 slt:=hI.slt
 objs:=hI.objs
 inj:=hI.inj
 loc r b hl e:=⟨(hI.loc r b hl e).1,s.loc r b hl e⟩
 sg:=s.sg
 glob:=hI.glob
theorem PH{U:Nat→Prop}{r b:Nat}{o:HO}{ob:Obj}(ho:Er g w U r o)(hl:o.live)(e:g.own r=some b)(hb:w.heap[b]?=some ob)(hd:WA ob=true):False:=by
 cases o with
 |free=>exact hl
 |dead=>exact hl
 |ro cs=>exact hl
 |rom sh B7=>exact hl
 |cells cs =>
  obtain⟨_,b',E,vs,h1,_,h3,_⟩:=ho;rw[e]at h1;cases h1;rw[hb]at h3;cases h3;cases hd
 |tok sz n =>
  obtain⟨_,_,a,cap,_,(⟨_,h1⟩ | ⟨_,b',E,vs,off,_,h1,h3,_⟩)⟩:=ho
  ·rw[e]at h1;cases h1
  ·rw[e]at h1;cases h1;rw[hb]at h3;cases h3;cases hd
 |vox v=>exact hl
 |hol sz es i c av =>
  obtain⟨_,_,_,b',cap,E,vs,_,h1,_,h3,_⟩:=ho;rw[e]at h1;cases h1;rw[hb]at h3;cases h3;cases hd
 |raw b' bG =>
  obtain⟨_,h1,h2,h3,_⟩:=ho;rw[e]at h1;cases h1;rw[hb]at h2;cases h2;cases ob<;>simp[WA,qV]at hd h3
  rw[hd]at h3;cases h3
 |var sz v n =>
  obtain⟨_,_,a,cap,_,(⟨_,h1⟩ | ⟨_,b',E,vs,off,_,h1,h3,_⟩)⟩:=ho
  ·rw[e]at h1;cases h1
  ·rw[e]at h1;cases h1;rw[hb]at h3;cases h3;cases hd
 |arr sz es =>
  obtain⟨_,_,_,(⟨_,_,h1⟩ | ⟨b',cap,E,vs,_,h1,_,h3,_⟩)⟩:=ho
  ·rw[e]at h1;cases h1
  ·rw[e]at h1;cases h1;rw[hb]at h3;cases h3;cases hd
 |map sh B7 =>
  obtain⟨_,b',es,ck,h1,_,h3,_⟩:=ho;rw[e]at h1;cases h1;rw[hb]at h3;cases h3;cases hd
 |mapU sh B7 =>
  obtain⟨_,b',es,ck,h1,_,h3,_⟩:=ho;rw[e]at h1;cases h1;rw[hb]at h3;cases h3;cases hd
 |iter all rem FP =>
  obtain⟨_,b',mb,Ki,seen,st,es,ck,h1,_,h3,_⟩:=ho;rw[e]at h1;cases h1;rw[hb]at h3;cases h3;cases hd
theorem DS.dullS(hI:DS w g h h g w)(ho:w'.os=w.os∧w'.tape=w.tape∧w'.output=w.output)(El:w.heap.size≤w'.heap.size)
  (hb:∀b,b<w.heap.size→w'.heap[b]?=w.heap[b]?∨∃o o',w.heap[b]?=some o∧w'.heap[b]?=some o'∧WA o=true∧WA o'=true)
  (hn:∀b,b<n0→b≠x→w'.heap[b]?=w.heap[b]?):DS w' g h h g w'∧aQ n0 x w g h w' g h:=by
 have hk:Fg g w g w':=fun b o hs=>by
  refine⟨hs,?_⟩;rcases hb b (hI.slt b o hs)with e | ⟨ob,bG,e1,e2,d1,d2⟩
  ·exact⟨by simp only[World.cell?,e],fun es ck he=>e.trans he⟩
  ·refine⟨?_,fun es ck he=>?_⟩
   ·simp only[World.cell?,e1,e2];cases ob<;>cases bG<;>first | rfl | (cases d1;done) | (cases d2;done)
   ·rw[e1]at he;cases he;cases d1
 have WS:∀r b,(h r).live→g.own r=some b→w'.heap[b]?=w.heap[b]?:=fun r b hl e=>by
  rcases hb b (hI.loc r b hl e).1 with e' | ⟨ob,bG,e1,_,d1,_⟩
  ·exact e'
  ·exact(PH (hI.objs r) hl e e1 d1).elim
 refine⟨⟨rfl,rfl,rfl,Am _,fun _ _ _=>rfl,fun b o hs=>BQ (hI.slt b o hs) El,fun r=>?_,hI.inj,fun r b hl e=>⟨BQ (hI.loc r b hl e).1 El,.inr ⟨r,hl,e⟩⟩,fun _ _ hs=>.inl hs,hI.glob.keep hk⟩,⟨ho.1,ho.2.1,ho.2.2,El,fun b oU hx _=>hn b oU hx,fun r b hl e=>.inr ⟨r,hl,e⟩,fun _ _ hs=>.inl hs,⟨.refl _ _,fun _ h=>h,hk⟩⟩⟩;exact(hI.objs r).same hk (fun _ h=>h) (.refl _ _) rfl rfl rfl rfl fun b hl e=>⟨WS r b hl e,fun _ h=>h⟩
theorem DS.put(hI:DS w g h h g w){l:Nat}{o o' : Obj}(hl:w.heap[l]?=some o)(hd:WA o=true)(lz : WA o'=true)(hx:n0≤l∨l=x) :
  DS (w.putObj l o') g h h g (w.putObj l o')∧aQ n0 x w g h (w.putObj l o') g h:=by
 have DH:l<w.heap.size:=(BG.1 hl).1;refine hI.dullS ⟨rfl,rfl,rfl⟩ (by simp[World.putObj]) (fun b _=>?_) (fun b hb DM=>?_)
 ·by_cases e:b=l
  ·subst e;exact .inr ⟨o,o',hl,World.putObj_heap_same DH,hd,lz⟩
  ·exact .inl (World.putObj_heap_other e)
 ·refine World.putObj_heap_other fun e=>?_;rcases hx with h | h
  ·omega
  ·exact DM (e.trans h)
theorem DS.allocS(hI:DS w g h h g w)(o:Obj)(hn:n0≤w.heap.size):DS (w.alloc o) g h h g (w.alloc o)∧aQ n0 x w g h (w.alloc o) g h:=by
 refine hI.dullS ⟨rfl,rfl,rfl⟩ (by rw[World.size_alloc];omega) (fun b hb=>.inl (heap_alloc_old _ _ hb)) (fun b hb _=>heap_alloc_old _ _ (by omega))
end
end Go.Eng
