/- Lemmas for the claims of this seat, without a condition: part 16 (Tab, EngZG, EngZH, EngZI, EngZJ, EngZK, EngZM, EngZN, EngZO). -/
import Derived.Test.YtmcbkdbfaneofaaGreatDoorA15
import Derived.Test.YtmcbkdbfaneofaaGreatDoorProg
import Derived.Sort.Grow
import Derived.Shelf.GgSortFunc.InsertionK
import Derived.Below
import Derived.RangeFuncLeaves
import Derived.RangeFuncNested
namespace Go.Eng
open Go.Proofs
abbrev zg:TI := jZ
abbrev tF:TI := ⟨.func,1,8,.nilFunc,true⟩
abbrev tI:TI := ⟨.int .i64,1,8,.int .i64 0,true⟩
abbrev tP(n:Nat):TI := ⟨.ptr n,1,8,.pointer none,true⟩
abbrev tS(n:Nat):TI := ⟨.slice n,1,24,.slice none 0 0,true⟩
def je{α:Type}(d:α):List α → Nat → α
 | [],_ => d
 |a::r,n => match n with |0 => a |n + 1 => je d r n
def yB:List TI := [⟨.other,1,0,(.tuple #[]),true⟩,tF,tI,tI,⟨.bool,1,1,(.bool .false),true⟩,⟨.int .u8,1,1,(.int .u8 0),true⟩,⟨.int .u8,1,1,(.int .u8 0),true⟩,⟨.struct [(2,0),(3,1),(4,2),(6,3)],4,24,(.agg #[.int .i64 0,.int .i64 0,.bool .false,.int .u8 0]),true⟩,⟨.struct [(2,0),(3,1),(4,2),(6,3)],4,24,(.agg #[.int .i64 0,.int .i64 0,.bool .false,.int .u8 0]),true⟩,⟨.string,1,16,(.string ⟨#[]⟩),true⟩,⟨.string,1,16,(.string ⟨#[]⟩),true⟩,⟨.string,1,16,(.string ⟨#[]⟩),true⟩,⟨.int .u64,1,8,(.int .u64 0),true⟩,⟨.struct [(9,0),(12,1)],2,24,(.agg #[.string ⟨#[]⟩,.int .u64 0]),false⟩,⟨.struct [(9,0),(12,1)],2,24,(.agg #[.string ⟨#[]⟩,.int .u64 0]),false⟩,tP 314]
def yC:List TI := [tP 317,tP 326,⟨.struct [(17,0)],1,8,(.agg #[.pointer none]),false⟩,⟨.struct [(17,0)],1,8,(.agg #[.pointer none]),false⟩,⟨.iface,1,16,.nilIface,true⟩,⟨.int .i32,1,4,(.int .i32 0),true⟩,tS 45,tS 86,⟨.struct [(22,0),(23,1)],2,48,(.agg #[.slice none 0 0,.slice none 0 0]),true⟩,⟨.struct [(22,0),(23,1)],2,48,(.agg #[.slice none 0 0,.slice none 0 0]),true⟩,tS 51,⟨.struct [(22,0),(26,1),(26,2)],3,72,(.agg #[.slice none 0 0,.slice none 0 0,.slice none 0 0]),true⟩,⟨.struct [(22,0),(26,1),(26,2)],3,72,(.agg #[.slice none 0 0,.slice none 0 0,.slice none 0 0]),true⟩,tF,tF,tI]
def yD:List TI := [⟨.other,1,0,(.tuple #[.agg #[.slice none 0 0,.slice none 0 0],.int .i64 0]),true⟩,tF,tF,tF,tF,⟨.other,1,0,(.tuple #[.agg #[.slice none 0 0,.slice none 0 0,.slice none 0 0],.int .i64 0]),true⟩,tF,tF,tF,⟨.struct [(3,0),(3,1),(3,2)],3,24,(.agg #[.int .i64 0,.int .i64 0,.int .i64 0]),true⟩,⟨.struct [(3,0),(3,1),(3,2)],3,24,(.agg #[.int .i64 0,.int .i64 0,.int .i64 0]),true⟩,tS 66,⟨.struct [(9,0),(42,1),(43,4),(9,5),(9,6),(9,7),(4,8)],9,120,(.agg #[.string ⟨#[]⟩,.int .i64 0,.int .i64 0,.int .i64 0,.slice none 0 0,.string ⟨#[]⟩,.string ⟨#[]⟩,.string ⟨#[]⟩,.bool .false]),true⟩,⟨.struct [(9,0),(42,1),(43,4),(9,5),(9,6),(9,7),(4,8)],9,120,(.agg #[.string ⟨#[]⟩,.int .i64 0,.int .i64 0,.int .i64 0,.slice none 0 0,.string ⟨#[]⟩,.string ⟨#[]⟩,.string ⟨#[]⟩,.bool .false]),true⟩,tF,tF]
def yE:List TI := [tF,tF,⟨.struct [(9,0),(42,1)],4,40,(.agg #[.string ⟨#[]⟩,.int .i64 0,.int .i64 0,.int .i64 0]),true⟩,⟨.struct [(9,0),(42,1)],4,40,(.agg #[.string ⟨#[]⟩,.int .i64 0,.int .i64 0,.int .i64 0]),true⟩,tF,tF,tF,⟨.other,1,0,(.tuple #[.slice none 0 0,.int .i64 0]),true⟩,tF,⟨.other,1,0,(.tuple #[.agg #[.string ⟨#[]⟩,.int .i64 0,.int .i64 0,.int .i64 0,.slice none 0 0,.string ⟨#[]⟩,.string ⟨#[]⟩,.string ⟨#[]⟩,.bool .false],.bool .false]),true⟩,tF,tF,tF,⟨.struct [(3,0),(3,1)],2,16,(.agg #[.int .i64 0,.int .i64 0]),true⟩,⟨.struct [(3,0),(3,1)],2,16,(.agg #[.int .i64 0,.int .i64 0]),true⟩,tS 62]
def yF:List TI := [tS 62,⟨.struct [(9,0),(64,1)],2,40,(.agg #[.string ⟨#[]⟩,.slice none 0 0]),true⟩,⟨.struct [(9,0),(64,1)],2,40,(.agg #[.string ⟨#[]⟩,.slice none 0 0]),true⟩,tS 72,⟨.other,1,0,(.tuple #[.slice none 0 0,.int .i64 0]),true⟩,tF,tF,⟨.struct [(9,0),(3,1),(3,2)],3,32,(.agg #[.string ⟨#[]⟩,.int .i64 0,.int .i64 0]),true⟩,⟨.struct [(9,0),(3,1),(3,2)],3,32,(.agg #[.string ⟨#[]⟩,.int .i64 0,.int .i64 0]),true⟩,tF,tF,tF,tF,tF,tF,tF]
def yG:List TI := [tF,tS 333,tS 335,tS 337,tS 339,⟨.struct [(9,0),(81,1),(82,2),(83,3),(84,4)],5,112,(.agg #[.string ⟨#[]⟩,.slice none 0 0,.slice none 0 0,.slice none 0 0,.slice none 0 0]),true⟩,⟨.struct [(9,0),(81,1),(82,2),(83,3),(84,4)],5,112,(.agg #[.string ⟨#[]⟩,.slice none 0 0,.slice none 0 0,.slice none 0 0,.slice none 0 0]),true⟩,tF,⟨.other,1,0,(.tuple #[.agg #[.string ⟨#[]⟩,.int .i64 0,.int .i64 0,.int .i64 0],.bool .false]),true⟩,tF,tF,tF,tF,tF,tF,tF]
def yH:List TI := [tS 28,tF,tF,tF,tF,tF,tF,tF,tF,tS 201,tS 181,⟨.struct [(4,0),(26,1),(105,2),(106,3)],4,80,(.agg #[.bool .false,.slice none 0 0,.slice none 0 0,.slice none 0 0]),true⟩,⟨.struct [(4,0),(26,1),(105,2),(106,3)],4,80,(.agg #[.bool .false,.slice none 0 0,.slice none 0 0,.slice none 0 0]),true⟩,⟨.other,1,0,(.tuple #[.agg #[.bool .false,.slice none 0 0,.slice none 0 0,.slice none 0 0],.int .i64 0]),true⟩,tF,⟨.map 51 45,1,8,(.map none),true⟩]
def yI:List TI := [⟨.map 9 22,1,8,(.map none),true⟩,⟨.struct [(111,0),(112,1)],2,16,(.agg #[.map none,.map none]),true⟩,⟨.struct [(111,0),(112,1)],2,16,(.agg #[.map none,.map none]),true⟩,⟨.other,1,0,(.tuple #[.agg #[.map none,.map none],.int .i64 0]),true⟩,tF,tF,tF,tF,tF,tF,tF,tF,⟨.other,1,0,(.tuple #[.string ⟨#[]⟩,.int .i64 0,.int .i64 0]),true⟩,tF,tF,tF]
def yJ:List TI := [tF,tS 9,tF,tP 142,tF,⟨.other,1,0,(.tuple #[.int .i64 0,.bool .false]),true⟩,tF,⟨.map 9 139,1,8,(.map none),true⟩,⟨.map 9 64,1,8,(.map none),true⟩,tS 179,⟨.map 201 3,1,8,(.map none),true⟩,tS 162,tS 106,⟨.struct [(43,0),(135,1),(136,2),(105,3),(137,4),(138,5),(4,6),(139,7),(26,8),(140,9)],10,176,(.agg #[.slice none 0 0,.map none,.map none,.slice none 0 0,.slice none 0 0,.map none,.bool .false,.slice none 0 0,.slice none 0 0,.slice none 0 0]),true⟩,⟨.struct [(43,0),(135,1),(136,2),(105,3),(137,4),(138,5),(4,6),(139,7),(26,8),(140,9)],10,176,(.agg #[.slice none 0 0,.map none,.map none,.slice none 0 0,.slice none 0 0,.map none,.bool .false,.slice none 0 0,.slice none 0 0,.slice none 0 0]),true⟩,tF]
def yK:List TI := [⟨.map 9 3,1,8,(.map none),true⟩,⟨.other,1,0,(.tuple #[.map none,.bool .false]),true⟩,tF,tF,tF,tF,tF,tS 3,⟨.array 3 3,3,24,(.agg #[.int .i64 0,.int .i64 0,.int .i64 0]),true⟩,tF,tF,⟨.other,1,0,(.tuple #[.int .i64 0,.int .i64 0]),true⟩,tF,tF,tP 66,tF]
def tv:List TI := [tF,⟨.struct [(3,0),(45,1)],10,128,(.agg #[.int .i64 0,.string ⟨#[]⟩,.int .i64 0,.int .i64 0,.int .i64 0,.slice none 0 0,.string ⟨#[]⟩,.string ⟨#[]⟩,.string ⟨#[]⟩,.bool .false]),true⟩,⟨.struct [(3,0),(45,1)],10,128,(.agg #[.int .i64 0,.string ⟨#[]⟩,.int .i64 0,.int .i64 0,.int .i64 0,.slice none 0 0,.string ⟨#[]⟩,.string ⟨#[]⟩,.string ⟨#[]⟩,.bool .false]),true⟩,tF,tS 169,⟨.other,1,0,(.tuple #[.string ⟨#[]⟩,.slice none 0 0]),true⟩,tF,tF,⟨.struct [(66,0),(9,2),(3,3),(3,4)],5,72,(.agg #[.string ⟨#[]⟩,.slice none 0 0,.string ⟨#[]⟩,.int .i64 0,.int .i64 0]),true⟩,⟨.struct [(66,0),(9,2),(3,3),(3,4)],5,72,(.agg #[.string ⟨#[]⟩,.slice none 0 0,.string ⟨#[]⟩,.int .i64 0,.int .i64 0]),true⟩,tF,tF,tF,tF,⟨.other,1,0,(.tuple #[.agg #[.string ⟨#[]⟩,.slice none 0 0,.string ⟨#[]⟩,.int .i64 0,.int .i64 0],.bool .false]),true⟩,tF]
def tw:List TI := [tF,tF,tS 207,tS 207,⟨.struct [(9,0),(3,1),(3,2)],3,32,(.agg #[.string ⟨#[]⟩,.int .i64 0,.int .i64 0]),true⟩,⟨.struct [(9,0),(3,1),(3,2)],3,32,(.agg #[.string ⟨#[]⟩,.int .i64 0,.int .i64 0]),true⟩,tF,tF,tF,⟨.int .u64,1,8,(.int .u64 0),true⟩,tF,tF,tF,tF,tF,tF]
def tx:List TI := [tF,tF,tF,tF,tF,tF,tF,tF,⟨.struct [(3,0),(9,1),(3,2),(3,3),(3,4),(3,5)],6,56,(.agg #[.int .i64 0,.string ⟨#[]⟩,.int .i64 0,.int .i64 0,.int .i64 0,.int .i64 0]),true⟩,⟨.struct [(3,0),(9,1),(3,2),(3,3),(3,4),(3,5)],6,56,(.agg #[.int .i64 0,.string ⟨#[]⟩,.int .i64 0,.int .i64 0,.int .i64 0,.int .i64 0]),true⟩,tF,tF,tF,tF,⟨.struct [(9,0),(4,1),(64,2)],3,48,(.agg #[.string ⟨#[]⟩,.bool .false,.slice none 0 0]),true⟩,⟨.struct [(9,0),(4,1),(64,2)],3,48,(.agg #[.string ⟨#[]⟩,.bool .false,.slice none 0 0]),true⟩]
def tA:List TI := [tF,tF,⟨.other,1,0,(.tuple #[.slice none 0 0,.int .i64 0]),true⟩,tF,tF,tI,⟨.other,1,0,(.tuple #[.int .i64 0,.int .i64 0]),true⟩,tF,tF,tF,tF,tF,⟨.int .u32,1,4,(.int .u32 0),true⟩,tF,⟨.int .u64,1,8,(.int .u64 0),true⟩,tF]
def tB:List TI := [tF,tF,tF,tF,tF,tS 5,tF,⟨.other,1,0,(.tuple #[.string ⟨#[]⟩,.bool .false]),true⟩,tF,⟨.other,1,0,(.tuple #[.int .u32 0,.int .u32 0]),true⟩,tF,tF,tF,tF,tF,tF]
def tC:List TI := [tF,tF,tF,⟨.other,1,0,(.tuple #[.agg #[.string ⟨#[]⟩,.bool .false,.slice none 0 0],.slice none 0 0,.bool .false]),true⟩,tF,⟨.other,1,0,(.tuple #[.slice none 0 0,.bool .false]),true⟩,tF,tF,⟨.int .u64,1,8,(.int .u64 0),true⟩,tF,tF,tF,tP 3,tF,tF,tF]
def tD:List TI := [tF,tF,tF,tF,tF,tF,tF,tF,tF,⟨.map 9 207,1,8,(.map none),true⟩,tF,tF,tF,tF,tP 248,⟨.other,1,0,(.tuple #[.int .i64 0,.int .i64 0]),true⟩]
def tE:List TI := [tF,tF,⟨.other,1,0,(.tuple #[.int .i32 0,.int .i64 0]),true⟩,tF,tF,tF,tF,tF,tF,tS 64,⟨.map 3 3,1,8,(.map none),true⟩,tF,⟨.other,1,0,(.tuple #[.agg #[.string ⟨#[]⟩,.bool .false,.slice none 0 0],.bool .false]),true⟩,tF,tF,tF]
def tG:List TI := [tF,tF,tF,tF,tF,tF,tF,⟨.array 256 5,256,256,(.agg (([.int .u8 0,.int .u8 0,.int .u8 0,.int .u8 0,.int .u8 0,.int .u8 0,.int .u8 0,.int .u8 0,.int .u8 0,.int .u8 0,.int .u8 0,.int .u8 0,.int .u8 0,.int .u8 0,.int .u8 0,.int .u8 0,.int .u8 0,.int .u8 0,.int .u8 0,.int .u8 0,.int .u8 0,.int .u8 0,.int .u8 0,.int .u8 0,.int .u8 0,.int .u8 0,.int .u8 0,.int .u8 0,.int .u8 0,.int .u8 0,.int .u8 0,.int .u8 0,.int .u8 0,.int .u8 0,.int .u8 0,.int .u8 0,.int .u8 0,.int .u8 0,.int .u8 0,.int .u8 0,.int .u8 0,.int .u8 0,.int .u8 0,.int .u8 0,.int .u8 0,.int .u8 0,.int .u8 0,.int .u8 0,.int .u8 0,.int .u8 0,.int .u8 0,.int .u8 0,.int .u8 0,.int .u8 0,.int .u8 0,.int .u8 0,.int .u8 0,.int .u8 0,.int .u8 0,.int .u8 0,.int .u8 0,.int .u8 0,.int .u8 0,.int .u8 0].append [.int .u8 0,.int .u8 0,.int .u8 0,.int .u8 0,.int .u8 0,.int .u8 0,.int .u8 0,.int .u8 0,.int .u8 0,.int .u8 0,.int .u8 0,.int .u8 0,.int .u8 0,.int .u8 0,.int .u8 0,.int .u8 0,.int .u8 0,.int .u8 0,.int .u8 0,.int .u8 0,.int .u8 0,.int .u8 0,.int .u8 0,.int .u8 0,.int .u8 0,.int .u8 0,.int .u8 0,.int .u8 0,.int .u8 0,.int .u8 0,.int .u8 0,.int .u8 0,.int .u8 0,.int .u8 0,.int .u8 0,.int .u8 0,.int .u8 0,.int .u8 0,.int .u8 0,.int .u8 0,.int .u8 0,.int .u8 0,.int .u8 0,.int .u8 0,.int .u8 0,.int .u8 0,.int .u8 0,.int .u8 0,.int .u8 0,.int .u8 0,.int .u8 0,.int .u8 0,.int .u8 0,.int .u8 0,.int .u8 0,.int .u8 0,.int .u8 0,.int .u8 0,.int .u8 0,.int .u8 0,.int .u8 0,.int .u8 0,.int .u8 0,.int .u8 0]).append ([.int .u8 0,.int .u8 0,.int .u8 0,.int .u8 0,.int .u8 0,.int .u8 0,.int .u8 0,.int .u8 0,.int .u8 0,.int .u8 0,.int .u8 0,.int .u8 0,.int .u8 0,.int .u8 0,.int .u8 0,.int .u8 0,.int .u8 0,.int .u8 0,.int .u8 0,.int .u8 0,.int .u8 0,.int .u8 0,.int .u8 0,.int .u8 0,.int .u8 0,.int .u8 0,.int .u8 0,.int .u8 0,.int .u8 0,.int .u8 0,.int .u8 0,.int .u8 0,.int .u8 0,.int .u8 0,.int .u8 0,.int .u8 0,.int .u8 0,.int .u8 0,.int .u8 0,.int .u8 0,.int .u8 0,.int .u8 0,.int .u8 0,.int .u8 0,.int .u8 0,.int .u8 0,.int .u8 0,.int .u8 0,.int .u8 0,.int .u8 0,.int .u8 0,.int .u8 0,.int .u8 0,.int .u8 0,.int .u8 0,.int .u8 0,.int .u8 0,.int .u8 0,.int .u8 0,.int .u8 0,.int .u8 0,.int .u8 0,.int .u8 0,.int .u8 0].append [.int .u8 0,.int .u8 0,.int .u8 0,.int .u8 0,.int .u8 0,.int .u8 0,.int .u8 0,.int .u8 0,.int .u8 0,.int .u8 0,.int .u8 0,.int .u8 0,.int .u8 0,.int .u8 0,.int .u8 0,.int .u8 0,.int .u8 0,.int .u8 0,.int .u8 0,.int .u8 0,.int .u8 0,.int .u8 0,.int .u8 0,.int .u8 0,.int .u8 0,.int .u8 0,.int .u8 0,.int .u8 0,.int .u8 0,.int .u8 0,.int .u8 0,.int .u8 0,.int .u8 0,.int .u8 0,.int .u8 0,.int .u8 0,.int .u8 0,.int .u8 0,.int .u8 0,.int .u8 0,.int .u8 0,.int .u8 0,.int .u8 0,.int .u8 0,.int .u8 0,.int .u8 0,.int .u8 0,.int .u8 0,.int .u8 0,.int .u8 0,.int .u8 0,.int .u8 0,.int .u8 0,.int .u8 0,.int .u8 0,.int .u8 0,.int .u8 0,.int .u8 0,.int .u8 0,.int .u8 0,.int .u8 0,.int .u8 0,.int .u8 0,.int .u8 0])).toArray),true⟩,⟨.struct [(5,0),(5,1)],2,2,(.agg #[.int .u8 0,.int .u8 0]),true⟩,⟨.struct [(5,0),(5,1)],2,2,(.agg #[.int .u8 0,.int .u8 0]),true⟩,⟨.array 16 297,32,32,(.agg (Array.replicate 32 (.int .u8 0))),true⟩,tF,tF,tF,tF,tF]
def tH:List TI := [tF,tF,tF,tF,tF,tF,tF,tF,tF,⟨.struct [(17,0),(17,1),(17,2),(9,3)],4,40,(.agg #[.pointer none,.pointer none,.pointer none,.string ⟨#[]⟩]),false⟩,⟨.struct [(17,0),(17,1),(17,2),(9,3)],4,40,(.agg #[.pointer none,.pointer none,.pointer none,.string ⟨#[]⟩]),false⟩,⟨.array 0 16,0,0,(.agg #[]),true⟩,⟨.other,0,0,(.agg #[]),false⟩,⟨.other,0,0,(.agg #[]),false⟩,tF,⟨.int .u8,1,1,(.int .u8 0),true⟩]
def tJ:List TI := [⟨.int .u8,1,1,(.int .u8 0),true⟩,tF,tP 5,⟨.int .i32,1,4,(.int .i32 0),true⟩,⟨.int .i32,1,4,(.int .i32 0),true⟩,⟨.struct [(12,0),(12,1),(220,2),(319,3),(5,4),(5,5),(320,6),(321,7),(322,8),(323,9),(324,10)],11,48,(.agg #[.int .u64 0,.int .u64 0,.int .u32 0,.int .u8 0,.int .u8 0,.int .u8 0,.int .u8 0,.nilFunc,.pointer none,.int .i32 0,.int .i32 0]),false⟩,⟨.struct [(12,0),(12,1),(220,2),(319,3),(5,4),(5,5),(320,6),(321,7),(322,8),(323,9),(324,10)],11,48,(.agg #[.int .u64 0,.int .u64 0,.int .u32 0,.int .u8 0,.int .u8 0,.int .u8 0,.int .u8 0,.nilFunc,.pointer none,.int .i32 0,.int .i32 0]),false⟩,tS 343,tS 331,tS 345,⟨.struct [(3,0),(9,1),(9,2),(328,3),(329,4)],5,88,(.agg #[.int .i64 0,.string ⟨#[]⟩,.string ⟨#[]⟩,.slice none 0 0,.slice none 0 0]),true⟩,⟨.struct [(3,0),(9,1),(9,2),(328,3),(329,4)],5,88,(.agg #[.int .i64 0,.string ⟨#[]⟩,.string ⟨#[]⟩,.slice none 0 0,.slice none 0 0]),true⟩,⟨.struct [(9,0),(327,1),(331,2),(331,7)],12,216,(.agg #[.string ⟨#[]⟩,.slice none 0 0,.int .i64 0,.string ⟨#[]⟩,.string ⟨#[]⟩,.slice none 0 0,.slice none 0 0,.int .i64 0,.string ⟨#[]⟩,.string ⟨#[]⟩,.slice none 0 0,.slice none 0 0]),true⟩,⟨.struct [(9,0),(327,1),(331,2),(331,7)],12,216,(.agg #[.string ⟨#[]⟩,.slice none 0 0,.int .i64 0,.string ⟨#[]⟩,.string ⟨#[]⟩,.slice none 0 0,.slice none 0 0,.int .i64 0,.string ⟨#[]⟩,.string ⟨#[]⟩,.slice none 0 0,.slice none 0 0]),true⟩,⟨.struct [(9,0),(327,1),(331,2)],7,128,(.agg #[.string ⟨#[]⟩,.slice none 0 0,.int .i64 0,.string ⟨#[]⟩,.string ⟨#[]⟩,.slice none 0 0,.slice none 0 0]),true⟩,⟨.struct [(9,0),(327,1),(331,2)],7,128,(.agg #[.string ⟨#[]⟩,.slice none 0 0,.int .i64 0,.string ⟨#[]⟩,.string ⟨#[]⟩,.slice none 0 0,.slice none 0 0]),true⟩]
def tK:List TI := [⟨.struct [(9,0),(9,1),(9,2)],3,48,(.agg #[.string ⟨#[]⟩,.string ⟨#[]⟩,.string ⟨#[]⟩]),true⟩,⟨.struct [(9,0),(9,1),(9,2)],3,48,(.agg #[.string ⟨#[]⟩,.string ⟨#[]⟩,.string ⟨#[]⟩]),true⟩,⟨.struct [(9,0),(9,1)],2,32,(.agg #[.string ⟨#[]⟩,.string ⟨#[]⟩]),true⟩,⟨.struct [(9,0),(9,1)],2,32,(.agg #[.string ⟨#[]⟩,.string ⟨#[]⟩]),true⟩,tF,⟨.other,1,8,(.pointer none),true⟩,⟨.struct [(9,0),(3,1),(331,2)],7,112,(.agg #[.string ⟨#[]⟩,.int .i64 0,.int .i64 0,.string ⟨#[]⟩,.string ⟨#[]⟩,.slice none 0 0,.slice none 0 0]),true⟩,⟨.struct [(9,0),(3,1),(331,2)],7,112,(.agg #[.string ⟨#[]⟩,.int .i64 0,.int .i64 0,.string ⟨#[]⟩,.string ⟨#[]⟩,.slice none 0 0,.slice none 0 0]),true⟩,⟨.struct [(9,0),(331,1),(4,6)],7,112,(.agg #[.string ⟨#[]⟩,.int .i64 0,.string ⟨#[]⟩,.string ⟨#[]⟩,.slice none 0 0,.slice none 0 0,.bool .false]),true⟩,⟨.struct [(9,0),(331,1),(4,6)],7,112,(.agg #[.string ⟨#[]⟩,.int .i64 0,.string ⟨#[]⟩,.string ⟨#[]⟩,.slice none 0 0,.slice none 0 0,.bool .false]),true⟩]
def tbl:List (List TI) := [yB,yC,yD,yE,yF,yG,yH,yI,yJ,yK,tv,tw,tx,tA,tB,tC,tD,tE,tG,tH,tJ,tK]
def nO:GS := fun t => je zg (je [] tbl (t / 16)) (t % 16)
theorem jY:(List.range 352).map nO = (List.range 352).map (ff Tryz.prog) := by kernel_rfl
theorem bO{α:Type}(d:α):∀(l:List α) (n:Nat),l.length ≤ n → je d l n = d
 | [],_,_ => rfl
 |_::_,0,h => by simp at h
 |_::r,n + 1,h => bO d r n (by simpa using h)
theorem CY:CH Tryz.prog nO := by
 intro t
 by_cases h:t<352
 ·have := Ab (fun l => l[t]?) jY
  rw[AK,AK,List.getElem?_range h,FS,FS]at this
  exact .inr (BA this)
 ·have h1:je ([]:List TI) tbl (t / 16) = [] := bO _ _ _ (by show 22 ≤ t / 16;omega)
  have h2:nO t = zg := by unfold nO;rw[h1];rfl
  exact .inl h2
end Go.Eng
namespace Go.Eng
section
variable {P:Program}
theorem cV {f : Nat} {fn : Func} {c : Code} (hf : P.funcs[f]? = some fn) (hn : (fn.name == "runtime.NumGoroutine") = false) (hb : fn.body = some c) : Gs P f := ⟨fn, hf, hn, by simp [hb]⟩
theorem LF{f:Nat}{args:List AV}{res:AV}(vals:List Value)(v:Value)(hE:Gs P f)(ha:args=vals.map .v)(pp:∀g w,BS g w FL res v)
  (h:∀w,(∃m,w.cell? ⟨gB,0,none⟩=some (.int .i64 m))→Calls P f vals.toArray w fun e w'=>e=.returned v∧w'=w):Ma P f args res:=by
 refine⟨hE,fun g w us hs hv hI=>?_⟩;have hu:us=vals.toArray:=by
  subst ha;rw[Bh]at hs;refine Array.ext (by simpa using hs) fun i h1 h2=>?_
  have:=hv i (.v (vals[i]'(by simpa using h2))) us[i] (by rw[AK,AE (by simpa using h2)];rfl) (by rw[BO h1])
  rw[this.v_eq];simp
 subst hu;refine(h w hI.glob.1.2).mono ?_
 rintro e w' ⟨rfl,rfl⟩
 exact⟨v,res,Aa,g,rfl,⟨rfl,rfl⟩,(pp g _).up _,hI,.refl _ _ _⟩
theorem jF{g:Gh}{w:World}:∀(vs:List Value),BS g w FL (.tup (vs.map .v)) (.tuple vs.toArray):=fun vs =>
 .tup _ _ _ (by simp) fun i av x h1 h2=>by
  rw[AK,AY]at h1;obtain⟨a,e1,rfl⟩:=h1
  have:vs[i]?=some x:=by simpa using h2
  rw[e1]at this;cases this;exact .v _ _
theorem d8{f:Nat}{args:List AV}(vals:List Value)(es:List Value)(T:TypeId)(hE:Gs P f)(ha:args=vals.map .v)(h1:∀x∈es,x.oneCell'=true)
  (h:∀w,(∃m,w.cell? ⟨gB,0,none⟩=some (.int .i64 m))→Calls P f vals.toArray w fun e w'=>e=.returned (.slice (some ⟨w.heap.size,0,none⟩) es.length es.length)∧w'=w.alloc (.cells es.toArray T)) :
  Ma P f args (.slice .none (es.map fun x=>[.v x])):=by
 refine⟨hE,fun g w us hs hv hI=>?_⟩;have hu:us=vals.toArray:=by
  subst ha;rw[Bh]at hs;refine Array.ext (by simpa using hs) fun i h1 h2=>?_
  have:=hv i (.v (vals[i]'(by simpa using h2))) us[i] (by rw[AK,AE (by simpa using h2)];rfl) (by rw[BO h1])
  rw[this.v_eq];simp
 subst hu;refine(h w hI.glob.1.2).mono ?_
 rintro e w' ⟨rfl,rfl⟩
 have E6:(w.alloc (.cells es.toArray T)).heap[w.heap.size]?=some (.cells es.toArray T (0,0)):=H3 w _ rfl;have W0:∀b,b<w.heap.size→(w.alloc (.cells es.toArray T)).heap[b]?=w.heap[b]?:=fun b hb=>heap_alloc_old _ _ hb;have hK:Fj g w ⟨g.ρ,g.ln,g.tk,g.own,g.more w.heap.size es.length⟩ (w.alloc (.cells es.toArray T)):=fun b o hb=>by
  have DF:=hI.slt b o hb;exact⟨.inl hb,by simp only[World.cell?,W0 b DF],fun es ck he=>(W0 b DF).trans he⟩
 refine⟨_,_,Aa,⟨g.ρ,g.ln,g.tk,g.own,g.more w.heap.size es.length⟩,rfl,⟨rfl,rfl⟩,?_,⟨rfl,rfl,rfl,?_,fun b hb _=>W0 b hb,fun b o hs=>?_,fun _=>trivial,fun _ _ _ h=>h.elim,fun _ _ h=>h.elim,fun b o hs=>?_,hI.glob.keep hK⟩,⟨.refl _ _,fun _ h=>h,hK⟩⟩
 ·have hr:CP ⟨g.ρ,g.ln,g.tk,g.own,g.more w.heap.size es.length⟩ (w.alloc (.cells es.toArray T)) FL (es.map fun x=>[AV.v x]).flatten (es.toArray.toList.take ((es.map fun x=>[AV.v x]).length*1)):=by
   have hfl:∀l:List Value,(l.map fun x=>[AV.v x]).flatten=l.map .v:=fun l=>by
    induction l with
    |nil=>rfl
    |cons a l ih=>rw[AS,BJ,ih];rfl
   rw[hfl];simp only[Bh,Nat.mul_one,Dp];refine⟨by simp,fun x hx=>h1 x (by simpa using hx),fun i av x q1 q2=>?_⟩;rw[AK,AY]at q1;obtain⟨a,e1,rfl⟩:=q1;rw[e1]at q2;cases q2;exact .v _ _
  have:=BS.slice_row (U:=AU Aa) (cap:=es.length) (sz:=1) (es:=es.map fun x=>[AV.v x]) E6 (fun cs hcs=>by
   obtain⟨x,_,rfl⟩:=Ar.1 hcs;rfl) (by simp) hr (fun o ho=>.inr ⟨rfl,by simpa using ho⟩)
  simpa using this
 ·rw[World.size_alloc];omega
 ·rw[World.size_alloc];rcases hs with hs | ⟨rfl,_⟩
  ·have:=hI.slt b o hs;omega
  ·omega
 ·rcases hs with hs | ⟨rfl,_⟩
  ·exact .inl hs
  ·exact .inr (.inl (Al _))
end
end Go.Eng
namespace Go.Eng
open Go.Sort
section
variable {P:Program}
theorem NQ(F c:Array Value)(h:F.size≤c.size):(putCells id 0 F c).toList.take F.size=F.toList∧(putCells id 0 F c).size=c.size:=by
 have hs:(putCells id 0 F c).size=c.size:=by simp[putCells]
 refine⟨?_,hs⟩;apply CM;intro i;rw[J5,AQ,AQ]
 by_cases hi:i<F.size
 ·rw[Ax hi];have hi2:i<c.size:=by omega
  simp only[putCells,Array.getElem?_mapIdx,BO hi2,BO hi,FS,AG,true_and,Bk,hi,RD,Nat.sub_zero,id_eq];rw[DK F i hi]
 ·rw[Ao hi,UK (by omega)]
theorem TH(r:Nat)(o o' : HO):A2 (Aq [(r,o)] Aa) r o'=Aq [(r,o')] Aa:=by
 funext i
 by_cases e:i=r
 ·subst e;rw[Bl];simp[Aq]
 ·rw[B8 _ _ _ _ e];simp[Aq,CV e]
theorem Qf{f:Nat}{es:List (List AV)}{sz:Nat}{rest:List Value}{Q:List (List AV)→Prop}(hE:Gs P f)
  (h0:es=[]→Q []∧∀w,Calls P f (#[.slice none 0 0]++rest.toArray) w fun e w'=>e=.returned (.tuple #[])∧w'=w)
  (h1:∀(g:Gh) (w:World) (b cap:Nat) (F:Array Value),CP g w FL es.flatten F.toList→F.size=es.length*sz→Holds id w b 0 F→b<w.heap.size→Calls P f (#[.slice (some ⟨b,0,none⟩) es.length cap]++rest.toArray) w fun e w' =>
   e=.returned (.tuple #[])∧∃(F' : Array Value) (FW : List (List AV)) (n:Nat) (os:Array Obj),F'.size=F.size∧Q FW∧FW.length=es.length∧(∀cs∈FW,cs.length=sz) ∧
    (∀(g:Gh) (w:World),CP g w FL es.flatten F.toList→CP g w FL FW.flatten F'.toList)∧w'=grow (putRow id (Sort.ahead w n) b 0 F') os) :
  Bm P f (.msl 1000 es.length::rest.map .v) (Aq [(1000,.arr sz es)] Aa) fun r h'=>r=.tup []∧∃FW,Q FW∧h'=Aq [(1000,.arr sz FW)] Aa:=by
 refine⟨hE,fun g w us hs hv hI=>?_⟩;have ho:=hI.objs 1000;have he:Aq [(1000,HO.arr sz es)] Aa 1000=.arr sz es:=rfl;rw[he]at ho;obtain⟨t1,l1,al,a2⟩:=ho;simp only[Au,Bh]at hs
 -- the arguments
 have xy:0<us.size:=by omega
 have fw:=hv 0 (.msl 1000 es.length) us[0] rfl (BO xy);have Kw:us[0]=g.ρ 1000:=by
  generalize us[0]=x at fw;cases fw with
  |msl _ r n a cap hu ht hn ha hx=>exact hx l1.symm
 have Ly:us=#[g.ρ 1000]++rest.toArray:=by
  refine Array.ext (by simp;omega) fun i h1 h2=>?_;cases i with
  |zero=>rw[Kw];simp
  |succ i =>
   have hi:i<rest.length:=by omega
   have:=hv (i+1) (.v rest[i]) us[i+1] (by simp[List.getElem?_eq_getElem hi]) (BO h1)
   rw[this.v_eq];simp
 rw[Ly];rcases a2 with ⟨b1,b2,b3⟩ | ⟨b,cap,E,vs,b1,b2,b3,b4,b5,b6,b7⟩
 ·subst b1;obtain⟨q,h0⟩:=h0 rfl;rw[b2];refine(h0 w).mono ?_
  rintro e w' ⟨rfl,rfl⟩
  exact⟨_,.tup [],_,g,rfl,⟨rfl,[],q,rfl⟩,.tup _ _ _ rfl (fun i av x h=>by simp at h),hI,.refl _ _ _⟩
 ·have hl:(Aq [(1000,HO.arr sz es)] Aa 1000).live:=trivial;have DF:=(hI.loc 1000 b hl b2).1;have Hr:es.length*sz≤vs.size:=by rw[b5];exact Bs _ b3
  have hF:((vs.toList.take (es.length*sz)).toArray).size=es.length*sz:=by simp;omega
  have hH:Holds id w b 0 (vs.toList.take (es.length*sz)).toArray:=fun j hj=>by
   have hj:j<es.length*sz:=by rw[hF]at hj;exact hj
   refine⟨?_,?_⟩
   ·have sm:j<vs.size:=by omega
    simp only[World.cell?,b4,Bk,Option.isSome_none,Dz,GJ];rw[BO sm,DK _ j (by rw[hF];exact hj)];simp
   ·simp[World.frozen?,b4]
  rw[b1];refine(h1 g w b cap _ (by simpa using b6) hF hH DF).mono ?_
  rintro e w' ⟨rfl,F',FW,n,os,f1,f2,f3,f4,f5,rfl⟩
  have qj : F'.size=es.length*sz:=f1.trans hF;have sJ:=NQ F' vs (by omega);have oZ : (grow (putRow id (Sort.ahead w n) b 0 F') os).heap[b]?=some (.cells (putCells id 0 F' vs) E (0,0)):=by
   rw[heap_grow_old _ _ (by rw[size_putRow];exact DF)];show(w.heap.modify b (onCells (putCells id 0 F')))[b]?=_;rw[Array.getElem?_modify,Ax rfl,b4];rfl
  have sC:∀k,k<w.heap.size→k≠b→(grow (putRow id (Sort.ahead w n) b 0 F') os).heap[k]?=w.heap[k]?:=fun k hk DL=>by
   rw[heap_grow_old _ _ (by rw[size_putRow];exact hk)];simp[putRow,mapBlock,Array.getElem?_modify,Ne.symm DL]
  have Ek:w.heap.size≤(grow (putRow id (Sort.ahead w n) b 0 F') os).heap.size:=by rw[size_grow,size_putRow];show w.heap.size≤w.heap.size+_;omega
  obtain⟨k1,k2⟩:=hI.upd 1000 (.arr sz FW) (g.ρ 1000) (g.ln 1000) (g.tk 1000) (g.own 1000) g.S (grow (putRow id (Sort.ahead w n) b 0 F') os) (some b) ⟨rfl,rfl,rfl,Ek⟩
   (fun k hk DL=>sC k hk (fun e=>DL (by rw[e]))) (fun b' e=>by cases e;exact⟨hl,b2⟩) (fun _ _ h=>h) (fun _ _ h=>.inl h) (fun b' o e hs=>by cases e;exact absurd hs (b7 o))
   (fun b' _ e=>by rw[b2]at e;cases e;exact⟨BT DF Ek,.inl ⟨hl,b2⟩⟩) (by simp) (fun _=>⟨rfl,Al _,fun _=>rfl,fun _=>rfl⟩) (fun hg hk=>by
    refine⟨by simp[Gh.upd,t1],by simp[Gh.upd,l1,f3],f4,.inr ⟨b,cap,E,_,by simp[Gh.upd,b1,f3],by simp[Gh.upd,b2],by omega,oZ,by rw[sJ.2,b5],?_,b7⟩⟩
    have:=f5 g w (by simpa using b6)
    rw[f3,←qj,sJ.1];exact this.mono hk (fun _ h=>h) (fun _ h=>h.elim))
  rw[TH]at k1 k2;exact⟨_,.tup [],_,_,rfl,⟨rfl,FW,f2,rfl⟩,.tup _ _ _ rfl (fun i av x h=>by simp at h),k1,k2⟩
end
end Go.Eng
namespace Go.Eng
open Go.Sort Go.Proofs
theorem RP{g:Gh}{w:World}{U:Nat→Prop}{cs ZN : List AV}{vs fD : List Value}(h:vs.length=cs.length):CP g w U (cs++ZN) (vs++fD)↔CP g w U cs vs∧CP g w U ZN fD:=by
 constructor
 ·intro⟨h1,h2,h3⟩;refine⟨⟨h,fun x hx=>h2 x (Br _ hx),fun i av x q1 q2=>?_⟩,⟨by simp at h1;omega,fun x hx=>h2 x (Bv _ hx),fun i av x q1 q2=>?_⟩⟩
  ·have a1:=(Aw.1 q1).1;have a2:=(Aw.1 q2).1;exact h3 i av x (by rw[A4 a1];exact q1) (by rw[A4 a2];exact q2)
  ·exact h3 (cs.length+i) av x (by rw[A1 (by omega),G9];exact q1) (by rw[A1 (by omega),h,G9];exact q2)
 ·intro⟨⟨h1,h2,h3⟩,k1,k2,k3⟩;refine⟨by simp[h1,k1],fun x hx=>(A6.1 hx).elim (h2 x) (k2 x),fun i av x q1 q2=>?_⟩
  by_cases hi:i<cs.length
  ·rw[A4 hi]at q1;rw[A4 (by omega)]at q2;exact h3 i av x q1 q2
  ·rw[A1 (by omega)]at q1;rw[A1 (by omega)]at q2;rw[h]at q2;exact k3 _ av x q1 q2
theorem QR{α β:Type}{g:Gh}{w:World}{U:Nat→Prop}{I4:β→List AV}{enc:α→List Value}(hl:∀x y,(enc x).length=(I4 y).length):∀ps:List (β×α),
  CP g w U (ps.map fun p=>I4 p.1).flatten (ps.map fun p=>enc p.2).flatten↔∀p∈ps,CP g w U (I4 p.1) (enc p.2)
 | []=>by simp[CP]
 |p::ps=>by
  simp only[AS,BJ];rw[RP (hl _ _),QR hl ps];simp
theorem MI{α β:Type}{f:α→β}:∀{m m' : List β},m.Perm m'→∀ps:List α,ps.map f=m→∃jB : List α,jB.Perm ps∧jB.map f=m':=by
 intro m m' h
 induction h with
 |nil=>intro ps e;exact⟨ps,.refl _,e⟩
 |cons x h ih =>
  intro ps e;cases ps with
  |nil=>cases e
  |cons p ps =>
   rw[AS]at e
   injection e with e1 e2
   obtain⟨jB,h1,h2⟩:=ih ps e2;exact⟨p::jB,h1.cons p,by rw[AS,e1,h2]⟩
 |swap x y l =>
  intro ps e
  match ps,e with
  |p::q::ps,e =>
   simp only[AS,FN]at e;exact⟨q::p::ps,List.Perm.swap _ _ _,by simp[e.1,e.2.1,e.2.2]⟩
 |trans h1 h2 ih1 ih2 =>
  intro ps e;obtain⟨ps1,p1,p2⟩:=ih1 ps e;obtain⟨ps2,q1,q2⟩:=ih2 ps1 p2;exact⟨ps2,q1.trans p1,q2⟩
theorem Tu{α:Type}[Inhabited α]{enc:α→List Value}{k:Nat}(hk:∀x,(enc x).length=k)(d:Array α):(flatK enc k d).toList=(d.toList.map enc).flatten:=by
 have hl:∀cs∈d.toList.map enc,cs.length=k:=fun cs hcs=>by
  obtain⟨x,_,rfl⟩:=Ar.1 hcs;exact hk x
 have CJ:(d.toList.map enc).flatten.length=d.size*k:=by
  have:∀l:List α,(l.map enc).flatten.length=l.length*k:=fun l=>by
   induction l with
   |nil=>simp
   |cons a l ih=>simp[hk,Nat.succ_mul,ih];omega
  rw[this];simp
 apply CM;intro t
 by_cases ht:t<d.size*k
 ·have k0:0<k:=Nat.pos_of_ne_zero fun h=>by subst h;simp at ht
  have h1:t / k<d.size:=by rw[LL k0];exact ht
  have h2:t % k<k:=Nat.mod_lt _ k0;have e:t=t / k*k+t % k:=by rw[Nat.mul_comm];exact(Vc t k).symm
  rw[AQ,BO (by simpa using ht),←DK _ t (by simpa using ht),get_flatK _ _ _ _ ht];have hg:(d.toList.map enc)[t / k]?=some (enc d[t / k]!):=by
   rw[AK,AQ,BO h1,DK d _ h1];rfl
  have:=Fw hl hg h2
  rw[e,this,←e];rw[AE (by rw[hk];exact h2),DK _ _ (by rw[hk];exact h2)]
 ·rw[A8 (by simp;omega),A8 (by omega)]
theorem cw{α β:Type}:∀{l:List α} {m:List β},l.length=m.length→(l.zip m).map (·.1)=l∧(l.zip m).map (·.2)=m
 | [],[],_=>⟨rfl,rfl⟩
 |a::l,b::m,h=>by
  have:=cw (l:=l) (m:=m) (by simpa using h)
  simp[this.1,this.2]
section
variable {P:Program}
theorem JF{α β:Type}[Inhabited α]{f k:Nat}{rest:List Value}(hE:Gs P f)(I4:β→List AV)(enc:α→List Value)(hB:∀x,(I4 x).length=k)(hk:∀x,(enc x).length=k)(lt:α→α→Bool)(R:β→α→Prop)(l:List β)(hl:l.length<4611686018427387904)
  (hR:∀x∈l,∀(g:Gh) (w:World) (vs:List Value),CP g w FL (I4 x) vs→∃a,enc a=vs∧R x a)
  (DM:∀(w:World) (b cap:Nat) (d:Array α),HoldsK enc k w b 0 d→b<w.heap.size→d.size<4611686018427387904→d.size=l.length→Calls P f (#[.slice (some ⟨b,0,none⟩) d.size cap]++rest.toArray) w fun e w' =>
   e=.returned (.tuple #[])∧∃d' n os,PermIn 0 d.size d d'∧SortedIn lt 0 d.size d'∧w'=sortWorldK enc k w b 0 n d' os)
  (sA:l=[]→∀w:World,Calls P f (#[.slice none 0 0]++rest.toArray) w fun e w'=>e=.returned (.tuple #[])∧w'=w) :
  Bm P f (.msl 1000 l.length::rest.map .v) (Aq [(1000,.arr k (l.map I4))] Aa) fun r h' =>
   r=.tup []∧∃l' : List β,l'.Perm l∧(∃al:List α,al.length=l'.length∧(∀(i:Nat) (x:β) (a:α),l'[i]?=some x→al[i]?=some a→R x a)∧al.Pairwise (fun x y=>lt y x=false))∧h'=Aq [(1000,.arr k (l'.map I4))] Aa:=by
 have HB:=Qf (P:=P) (f:=f) (es:=l.map I4) (sz:=k) (rest:=rest)
  (Q:=fun FW=>∃l' : List β,l'.Perm l∧(∃al:List α,al.length=l'.length∧(∀(i:Nat) (x:β) (a:α),l'[i]?=some x→al[i]?=some a→R x a)∧al.Pairwise (fun x y=>lt y x=false))∧FW=l'.map I4) hE ?_ ?_
 ·rw[Bh]at HB;refine⟨hE,fun g w vals q1 q2 q3=>(HB.2 g w vals q1 q2 q3).mono fun _ _ ⟨v,r,h',g',e1,⟨e2,FW,⟨l',p1,p2,p3⟩,p4⟩,rest⟩=>⟨v,r,h',g',e1,⟨e2,l',p1,p2,by rw[p4,p3]⟩,rest⟩⟩
 ·intro e
  have:l=[]:=by simpa using e
  subst this;exact⟨⟨[],.refl _,⟨[],rfl,fun i x a h=>by simp at h,.nil⟩,rfl⟩,sA rfl⟩
 ·intro g w b cap F hr hF hH hb
  -- the elements in memory
  have pt:∀(m:List β) (vs:List Value),(∀x∈m,x∈l)→CP g w FL (m.map I4).flatten vs→∃al:List α,al.length=m.length∧vs=(al.map enc).flatten∧∀(i:Nat) (x:β) (a:α),m[i]?=some x→al[i]?=some a→R x a:=by
   intro m
   induction m with
   |nil =>
    intro vs _ h
    have:vs=[]:=Az (by simpa using h.1)
    subst this;exact⟨[],rfl,rfl,fun i x a h=>by simp at h⟩
   |cons x m ih =>
    intro vs hm h;rw[AS,BJ]at h;have CJ:=h.1;rw[Ad,hB]at CJ;have e:vs=vs.take k++vs.drop k:=(Gp k vs).symm;rw[e]at h;rw[RP (by rw[AC,hB];omega)]at h;obtain⟨a,a1,a2⟩:=hR x (hm x (Ac ..)) g w _ h.1;obtain⟨al,b1,b2,b3⟩:=ih _ (fun y hy=>hm y (Af _ hy)) h.2;refine⟨a::al,by simp[b1],by rw[AS,BJ,a1,←b2,←e],fun i y c q1 q2=>?_⟩;cases i with
    |zero=>simp only[Bd,Bx]at q1 q2;subst q1;subst q2;exact a2
    |succ i=>exact b3 i y c (by simpa using q1) (by simpa using q2)
  obtain⟨al,s1,s2,s3⟩:=pt l F.toList (fun _ h=>h) hr;have hFd:F=flatK enc k al.toArray:=I0.1 (by rw[Tu hk,s2]);have hd:HoldsK enc k w b 0 al.toArray:=by unfold HoldsK;rw[←hFd];exact hH
  have hc:=DM w b cap al.toArray hd hb (by simpa[s1]using hl) (by simp[s1]);have Ek:al.toArray.size=(l.map I4).length:=by simp[s1]
  rw[Ek]at hc;refine hc.mono ?_
  rintro e w' ⟨rfl,d',n,os,p1,p2,rfl⟩
  obtain⟨z1,z2⟩:=cw s1.symm;obtain⟨iw,_,Je⟩:=p1;have iw : d'.size=al.length:=by rw[iw];simp
  have e1:d'.extract 0 (l.map I4).length=d':=by rw[show(l.map I4).length=d'.size by rw[iw];simp[s1]];exact Array.extract_size
  have e2:al.toArray.extract 0 (l.map I4).length=al.toArray:=by rw[←Ek];exact Array.extract_size
  rw[e1,e2]at Je;have Je:al.Perm d'.toList:=by
   first
   |exact Je.symm
   |exact Je
   |(have:=Je.symm;simpa using this)
  obtain⟨jB,r1,r2⟩:=MI Je (l.zip al) z2;have rel:∀p∈l.zip al,R p.1 p.2:=fun p hp=>by
   obtain⟨i,hi⟩:=Ck.1 hp;rw[List.getElem?_zip_eq_some]at hi;exact s3 i _ _ hi.1 hi.2
  refine⟨rfl,flatK enc k d',(jB.map (·.1)).map I4,n,os,by rw[size_flatK,iw,hF];simp[s1],⟨jB.map (·.1),?_,⟨d'.toList,by rw[←r2];simp,fun i x a q1 q2=>?_,?_⟩,rfl⟩,by have:=r1.length_eq;simp[this,s1],fun cs hcs=>?_,fun g w hr=>?_,?_⟩
  ·have:=r1.map (·.1);rw[z1]at this;exact this
  ·rw[←r2]at q2;rw[AK,AY]at q1 q2;obtain⟨p,q1,rfl⟩:=q1;obtain⟨p',q2,rfl⟩:=q2;rw[q1]at q2;cases q2;exact rel p (r1.mem_iff.1 (AA q1))
  ·rw[A7];intro i j hi hj VF;have L8 : i<d'.size:=by simpa using hi
   have pf : j<d'.size:=by simpa using hj
   have:=p2 i j (AG _) VF (by rw[iw]at pf;simp[s1]at pf⊢;omega)
   rw[DK d' j pf,DK d' i L8]at this;simpa using this
  ·obtain⟨x,_,rfl⟩:=Ar.1 hcs;exact hB x
  ·have h1:CP g w FL ((l.zip al).map fun p=>I4 p.1).flatten ((l.zip al).map fun p=>enc p.2).flatten:=by
    have a1:(l.zip al).map (fun p=>I4 p.1)=l.map I4:=by
     have:(l.zip al).map (fun p=>I4 p.1)=((l.zip al).map (·.1)).map I4:=by rw[BW];rfl
     rw[this,z1]
    have a2:(l.zip al).map (fun p=>enc p.2)=al.map enc:=by
     have:(l.zip al).map (fun p=>enc p.2)=((l.zip al).map (·.2)).map enc:=by rw[BW];rfl
     rw[this,z2]
    rw[a1,a2,←s2];exact hr
   have CJ:∀(x:α) (y:β),(enc x).length=(I4 y).length:=fun x y=>by rw[hk,hB]
   rw[QR CJ]at h1;have h2:=(QR (g:=g) (w:=w) (U:=FL) CJ jB).2 fun p hp=>h1 p (r1.mem_iff.1 hp);have b1:(jB.map (·.1)).map I4=jB.map fun p=>I4 p.1:=by rw[BW];rfl
   have b2:(flatK enc k d').toList=(jB.map fun p=>enc p.2).flatten:=by
    rw[Tu hk,←r2,BW];rfl
   rw[b1,b2];exact h2
  ·rfl
end
end Go.Eng
namespace Go.Eng
section
variable {P:Program}
theorem Ct{f:Nat}{fn:Func}{c:Code}{args:List AV}{H0:List (Nat×HO)}{Q:AV→(Nat→HO)→Prop}(cx:Cx)(σ:Ji)(hP:cx.P=P)(hT:CH P cx.T)(hm:P.follows .mixedOrders=true)(hx:cx.ext=true)(hf:P.funcs[f]?=some fn)
  (hn : (fn.name == "runtime.NumGoroutine") = false) (hb : fn.body = some c) (hN : args.length ≤ fn.ntmps) (hc : EH fn.ntmps c = true) (hσ : (G5 σ && IR σ H0) = true)
  (hk:RV cx c (XY cx fn.results.toList σ fun r h'=>∃r',Hm r r'∧Q r' h') ⟨O0 args,Aq H0 Aa⟩) (hY:∀l σ g w,cx.yp l σ g w:=by exact fun _ _ _ _=>trivial):Bm P f args (Aq H0 Aa) Q :=
 (gL cx σ hP hT hm hx hf hn hb hN hc hσ hk hY).mono fun _ _ ⟨r',s,q⟩=>⟨r',s,q⟩
end
end Go.Eng
namespace Go.Eng
open Go.Sort
theorem CP.append{g:Gh}{w:World}{U:Nat→Prop}{US bs:List AV}{xs ys:List Value}(h:CP g w U US xs)(k:CP g w U bs ys):CP g w U (US++bs) (xs++ys):=by
 refine⟨by rw[Ad,Ad,h.1,k.1],fun x hx=>?_,fun i av x q1 q2=>?_⟩
 ·rcases A6.1 hx with hx | hx
  ·exact h.2.1 x hx
  ·exact k.2.1 x hx
 ·have hl:=h.1
  by_cases hi:i<US.length
  ·rw[A4 hi]at q1;rw[A4 (by omega)]at q2;exact h.2.2 i av x q1 q2
  ·rw[A1 (by omega)]at q1;rw[A1 (by omega),hl]at q2;exact k.2.2 _ av x q1 q2
theorem CP.take{g:Gh}{w:World}{U:Nat→Prop}{US:List AV}{xs:List Value}(h:CP g w U US xs)(k:Nat):CP g w U (US.take k) (xs.take k):=by
 refine⟨by rw[AC,AC,h.1],fun x hx=>h.2.1 x (EG hx),fun i av x q1 q2=>?_⟩;rw[J5]at q1 q2;split at q1
 ·rename_i hi;rw[Ax hi]at q2;exact h.2.2 i av x q1 q2
 ·cases q1
theorem CP.drop{g:Gh}{w:World}{U:Nat→Prop}{US:List AV}{xs:List Value}(h:CP g w U US xs)(k:Nat):CP g w U (US.drop k) (xs.drop k):=by
 refine⟨by rw[Ap,Ap,h.1],fun x hx=>h.2.1 x (IM hx),fun i av x q1 q2=>?_⟩;rw[BZ]at q1 q2;exact h.2.2 _ av x q1 q2
theorem Lv{α:Type}{k:Nat}:∀(es:List (List α)) (i:Nat),(∀e∈es,e.length=k)→es.flatten.take (i*k)=(es.take i).flatten
 | [],i,_=>by simp
 |e::es,0,_=>by simp
 |e::es,i+1,h=>by
  have he:=h e (Ac ..);rw[BJ,Jh,BJ,List.take_append,←Lv es i fun x hx=>h x (Af _ hx),AJ (by rw[he,D7];omega),he,show(i+1)*k-k=i*k by rw[D7];omega]
theorem Pi{α:Type}{k:Nat}:∀(es:List (List α)) (i:Nat),(∀e∈es,e.length=k)→es.flatten.drop (i*k)=(es.drop i).flatten
 | [],i,_=>by simp
 |e::es,0,_=>by simp
 |e::es,i+1,h=>by
  have he:=h e (Ac ..);rw[BJ,List.drop_succ_cons,List.drop_append,←Pi es i fun x hx=>h x (Af _ hx),DI (by rw[he,D7];omega),he,show(i+1)*k-k=i*k by rw[D7];omega,En]
section
variable {P:Program}
theorem Ve{f:Nat}{es:List (List AV)}{sz:Nat}{rest:List Value}{n' : Nat}{Q:List (List AV)→Prop}(hE:Gs P f)(DL:es≠[])(Yo : n'≤es.length)
  (h1:∀(g:Gh) (w:World) (b cap:Nat) (F:Array Value),CP g w FL es.flatten F.toList→F.size=es.length*sz→Holds id w b 0 F→b<w.heap.size→es.length≤cap→Calls P f (#[.slice (some ⟨b,0,none⟩) es.length cap]++rest.toArray) w fun e w' =>
   e=.returned (.slice (some ⟨b,0,none⟩) n' cap)∧∃(F' : Array Value) (FW : List (List AV)) (n:Nat) (os:Array Obj),F'.size=F.size∧Q FW∧FW.length=es.length∧(∀cs∈FW,cs.length=sz) ∧
    (∀(g:Gh) (w:World),CP g w FL es.flatten F.toList→CP g w FL FW.flatten F'.toList)∧w'=grow (putRow id (Sort.ahead w n) b 0 F') os) :
  Bm P f (.msl 1000 es.length::rest.map .v) (Aq [(1000,.arr sz es)] Aa) fun r h'=>r=.msl 2000 n'∧∃FW,Q FW∧h'=Aq [(1000,.dead),(2000,.arr sz (FW.take n'))] Aa:=by
 refine⟨hE,fun g w us hs hv hI=>?_⟩;have ho:=hI.objs 1000;have he:Aq [(1000,HO.arr sz es)] Aa 1000=.arr sz es:=rfl;rw[he]at ho;obtain⟨t1,l1,al,a2⟩:=ho;simp only[Au,Bh]at hs;have xy:0<us.size:=by omega
 have fw:=hv 0 (.msl 1000 es.length) us[0] rfl (BO xy);have Kw:us[0]=g.ρ 1000:=by
  generalize us[0]=x at fw;cases fw with
  |msl _ r n a cap hu ht hn ha hx=>exact hx l1.symm
 have Ly:us=#[g.ρ 1000]++rest.toArray:=by
  refine Array.ext (by simp;omega) fun i h1 h2=>?_;cases i with
  |zero=>rw[Kw];simp
  |succ i =>
   have hi:i<rest.length:=by omega
   have:=hv (i+1) (.v rest[i]) us[i+1] (by simp[List.getElem?_eq_getElem hi]) (BO h1)
   rw[this.v_eq];simp
 rw[Ly];rcases a2 with ⟨b1,b2,b3⟩ | ⟨b,cap,E,vs,b1,b2,b3,b4,b5,b6,b7⟩
 ·exact absurd b1 DL
 ·have hl:(Aq [(1000,HO.arr sz es)] Aa 1000).live:=trivial;have DF:=(hI.loc 1000 b hl b2).1;have Hr:es.length*sz≤vs.size:=by rw[b5];exact Bs _ b3
  have hF:((vs.toList.take (es.length*sz)).toArray).size=es.length*sz:=by simp;omega
  have hH:Holds id w b 0 (vs.toList.take (es.length*sz)).toArray:=fun j hj=>by
   have hj:j<es.length*sz:=by rw[hF]at hj;exact hj
   refine⟨?_,?_⟩
   ·have sm:j<vs.size:=by omega
    simp only[World.cell?,b4,Bk,Option.isSome_none,Dz,GJ];rw[BO sm,DK _ j (by rw[hF];exact hj)];simp
   ·simp[World.frozen?,b4]
  rw[b1];refine(h1 g w b cap _ (by simpa using b6) hF hH DF b3).mono ?_
  rintro e w' ⟨rfl,F',FW,n,os,f1,f2,f3,f4,f5,rfl⟩
  have qj : F'.size=es.length*sz:=f1.trans hF;have sJ:=NQ F' vs (by omega);have oZ : (grow (putRow id (Sort.ahead w n) b 0 F') os).heap[b]?=some (.cells (putCells id 0 F' vs) E (0,0)):=by
   rw[heap_grow_old _ _ (by rw[size_putRow];exact DF)];show(w.heap.modify b (onCells (putCells id 0 F')))[b]?=_;rw[Array.getElem?_modify,Ax rfl,b4];rfl
  have sC:∀k,k<w.heap.size→k≠b→(grow (putRow id (Sort.ahead w n) b 0 F') os).heap[k]?=w.heap[k]?:=fun k hk DL=>by
   rw[heap_grow_old _ _ (by rw[size_putRow];exact hk)];simp[putRow,mapBlock,Array.getElem?_modify,Ne.symm DL]
  have Ek:w.heap.size≤(grow (putRow id (Sort.ahead w n) b 0 F') os).heap.size:=by rw[size_grow,size_putRow];show w.heap.size≤w.heap.size+_;omega
  obtain⟨k1,k2⟩:=hI.upd 1000 (.arr sz FW) (g.ρ 1000) (g.ln 1000) (g.tk 1000) (g.own 1000) g.S (grow (putRow id (Sort.ahead w n) b 0 F') os) (some b) ⟨rfl,rfl,rfl,Ek⟩
   (fun k hk DL=>sC k hk (fun e=>DL (by rw[e]))) (fun b' e=>by cases e;exact⟨hl,b2⟩) (fun _ _ h=>h) (fun _ _ h=>.inl h) (fun b' o e hs=>by cases e;exact absurd hs (b7 o))
   (fun b' _ e=>by rw[b2]at e;cases e;exact⟨BT DF Ek,.inl ⟨hl,b2⟩⟩) (by simp) (fun _=>⟨rfl,Al _,fun _=>rfl,fun _=>rfl⟩) (fun hg hk=>by
    refine⟨by simp[Gh.upd,t1],by simp[Gh.upd,l1,f3],f4,.inr ⟨b,cap,E,_,by simp[Gh.upd,b1,f3],by simp[Gh.upd,b2],by omega,oZ,by rw[sJ.2,b5],?_,b7⟩⟩
    have:=f5 g w (by simpa using b6)
    rw[f3,←qj,sJ.1];exact this.mono hk (fun _ h=>h) (fun _ h=>h.elim))
  rw[TH]at k1 k2;generalize ib : g.upd 1000 (g.ρ 1000) (g.ln 1000) (g.tk 1000) (g.own 1000) g.S=g' at k1 k2;have ns : g'.own 1000=some b:=by rw[←ib];simp[Gh.upd,b2]
  have sD:=k1.objs 1000;have kk:Aq [(1000,HO.arr sz FW)] Aa 1000=.arr sz FW:=rfl;rw[kk]at sD;obtain⟨m1,m2,m3,m4⟩:=sD;have hρ:g'.ρ 1000=.slice (some ⟨b,0,none⟩) es.length cap:=by rw[←ib];simp[Gh.upd,b1]
  have xc : FW≠[]:=fun e=>DL (Az (by rw[←f3,e];rfl));rcases m4 with ⟨m4,_⟩ | ⟨b',L0,E',fD,c1,c2,c3,c4,c5,c6,c7⟩
  ·exact absurd m4 xc
  ·rw[hρ]at c1;simp only[Value.slice.injEq,Bx,Addr.mk.injEq,and_true]at c1;obtain⟨c1a,c1b,c1c⟩:=c1;subst c1a;subst c1c;have ik : (FW.take n').length=n':=by rw[AC];omega
   obtain⟨k3,k4⟩:=k1.move 1000 2000 (by decide) rfl trivial ns (.arr sz (FW.take n')) (.slice (some ⟨b,0,none⟩) n' cap) n' true (by simp) (fun hk=>by
    refine⟨by simp[Gh.upd],by simp[Gh.upd,ik],fun cs hcs=>m3 cs (EG hcs),.inr ⟨b,cap,E',fD,by simp[Gh.upd,ik],by simp[Gh.upd],by omega,c4,c5,?_,c7⟩⟩
    have:=(c6.mono hk (fun _ h=>h) (fun _ h=>h.elim)).take (n'*sz)
    rw[Lv FW n' m3,KJ,Nat.min_eq_left (Bs _ (by omega))]at this;rw[ik];exact this)
   have se:A2 (A2 (Aq [(1000,HO.arr sz FW)] Aa) 1000 .dead) 2000 (.arr sz (FW.take n'))=Aq [(1000,.dead),(2000,.arr sz (FW.take n'))] Aa:=by
    funext i
    by_cases e1:i=2000
    ·subst e1;rw[Bl];rfl
    ·rw[B8 _ _ _ _ e1]
     by_cases e2:i=1000
     ·subst e2;rw[Bl];rfl
     ·rw[B8 _ _ _ _ e2];simp[Aq,CV e1,CV e2]
   rw[se]at k3 k4;exact⟨_,.msl 2000 n',_,_,rfl,⟨rfl,FW,f2,rfl⟩,.msl _ 2000 n' (some ⟨b,0,none⟩) cap (by intro c;cases c) (by simp[Gh.upd]) (by simp[Gh.upd]) (.inr ⟨b,rfl⟩) (fun _=>by simp[Gh.upd]),k3,k2.trans k4⟩
end
end Go.Eng
namespace Go.Eng
def gz(a b:FM):Bool :=
 (match a.2 with | some r=>!I5 b.1 r | none=>true)&&(match b.2 with | some r=>!I5 a.1 r | none=>true)
def Qg(ops:Array Oper)(oi:Oper)(fi:FM)(D:List Nat)(k:Nat):List Oper→List FM→Bool
 |o::r,f::fs=>(I5 D k||(oi.apart ops o&&gz fi f))&&Qg ops oi fi D (k+1) r fs
 | [],[]=>true
 |_,_=>false
def Vw(ops:Array Oper)(all:List Oper)(k:Nat):List Oper→List FM→Bool
 |o::r,f::fs =>
  let D:=Qn k [] 0 all
  (o.after.toList.all fun e=>!Region.binds .any e||Nat.blt e.on k)&&UB k D 0 all&&(D.all fun j=>Nat.blt k j&&Nat.blt j all.length)&&Qg ops o f D (k+1) r fs&&Vw ops all (k+1) r fs
 | [],[]=>true
 |_,_=>false
def bi(ops:Array Oper)(fs:List FM):Bool:=Region.noSelect ops&&Vw ops ops.toList 0 ops.toList fs
def QW(f:FM):Prop:=∀r,f.2=some r→r<10000000
def SC:List FM→Prop
 | []=>True
 |f::r=>QW f∧SC r
theorem A5(l:List Nat):QW (l,none):=fun _ h=>by cases h
theorem Eh{l:List Nat}{r:Nat}(h:r<10000000):QW (l,some r):=fun _ e=>by cases e;exact h
theorem gA{a b:FM}(ha:QW a)(hb:QW b)(h:gz a b=true):Th a b=true:=by
 obtain⟨a1,a2⟩:=a;obtain⟨b1,b2⟩:=b;unfold gz at h;unfold Th;rw[Ah]at h⊢;refine⟨?_,?_⟩
 ·cases a2 with
  |none=>rfl
  |some r =>
   have h1:(!I5 b1 r)=true:=h.1;show Y2 b1 r=true;unfold Y2;rw[CV (show r≠Wz by have:=ha r rfl;unfold Wz;omega),Ez,h1,show Nat.blt r 10000000=true by rw[Cr];exact ha r rfl];rfl
 ·cases b2 with
  |none=>rfl
  |some r =>
   have h1:(!I5 a1 r)=true:=h.2;show Y2 a1 r=true;unfold Y2;rw[CV (show r≠Wz by have:=hb r rfl;unfold Wz;omega),Ez,h1,show Nat.blt r 10000000=true by rw[Cr];exact hb r rfl];rfl
theorem Vg{ops:Array Oper}{oi:Oper}{fi:FM}{D:List Nat}(hi:QW fi):∀{l:List Oper} {fs:List FM} {k:Nat},SC fs→Qg ops oi fi D k l fs=true→IN ops oi fi D k l fs=true
 | [],[],_,_,h=>h
 |o::r,f::fs,k,hs,h=>by
  unfold Qg at h;unfold IN;rw[Ah,CF,Ah]at h⊢;exact⟨h.1.imp id (fun q=>⟨q.1,gA hi hs.1 q.2⟩),Vg hi hs.2 h.2⟩
 | [],_::_,_,_,h=>by simp[Qg]at h
 |_::_,[],_,_,h=>by simp[Qg]at h
theorem XV{ops:Array Oper}{all:List Oper}:∀{l:List Oper} {fs:List FM} {k:Nat},SC fs→Vw ops all k l fs=true→Mk ops all k l fs=true
 | [],[],_,_,h=>h
 |o::r,f::fs,k,hs,h=>by
  unfold Vw at h;unfold Mk;simp only[Ah]at h⊢;exact⟨⟨h.1.1,Vg hs.1 hs.2 h.1.2⟩,XV hs.2 h.2⟩
 | [],_::_,_,_,h=>by simp[Vw]at h
 |_::_,[],_,_,h=>by simp[Vw]at h
theorem Jl{ops:Array Oper}{fs:List FM}(hs:SC fs)(h:bi ops fs=true):Ti ops fs=true:=by
 unfold bi at h;unfold Ti;rw[Ah]at h⊢;exact⟨h.1,XV hs h.2⟩
theorem Rr{cx:Cx}{d:Option Nat}{h:Nat→HO}{ty e m:Nat}{r:Nat}{es es2:List (List AV)}{x:AV}{K:HK}(xx:(cx.T ty).d=.slice e)(hz:Nat.beq (cx.T e).zc.length (cx.T e).size=true)(Ek:(cx.T e).size=m+1)
  (hx:∀K' : List (List AV)→Prop,K' es2→Lu h x K') (hr:h r=.tok (m+1) es.length) (hl:CT (m+1) es2) (hb:(es.length+es2.length)*(cx.T e).bytes≤140737488355328) (hc:es.length+es2.length≤9223372036854775807)
  (hk:K (.slice (.id r (m+1)) (es++es2)) (A2 h r (.tok (m+1) (es.length+es2.length)))):IG cx d h ty (.slice (.id r (m+1)) es) x K:=by
 have hq:Nat.beq (m+1) (m+1)=true:=Dg _;unfold IG;rw[xx];rw[Ek]at hz;simp only[Ek,hz];refine hx _ ?_;simp only[hr,hq];exact⟨⟨hl,trivial,hb,hc⟩,hk⟩
theorem Rp{cx:Cx}{d:Nat}{h:Nat→HO}{ty e m:Nat}{es2:List (List AV)}{x:AV}{K:HK}(xx:(cx.T ty).d=.slice e)(hz:Nat.beq (cx.T e).zc.length (cx.T e).size=true)(Ek:(cx.T e).size=m+1)
  (hx:∀K' : List (List AV)→Prop,K' es2→Lu h x K') (hr:h (KT cx d)=.free) (ha:GZ cx.pl.arr d=none) (hl:CT (m+1) es2) (hb:es2.length*(cx.T e).bytes≤140737488355328) (hc:es2.length≤9223372036854775807)
  (hk:K (.slice (.id (KT cx d) (m+1)) es2) (A2 h (KT cx d) (.tok (m+1) es2.length))):IG cx (some d) h ty (.v (.slice none 0 0)) x K:=by
 unfold IG;rw[xx];rw[Ek]at hz;simp only[Ek,hz];refine hx _ ?_;refine⟨⟨Ek▸hl,hb,hc⟩,?_⟩;unfold EN;simp only[hr,ha];exact hk
end Go.Eng
namespace Go.Eng
open Go.RowKit
section
variable {P:Program}
end
end Go.Eng
namespace Go.Eng
def WI:Obj→Bool
 |.cells ..=>false
 |.map ..=>false
 |.mapIter ..=>false
 |.loop r=>!OT [] r.body
 |_=>true
structure aW(n0 x:Nat)(w:World)(g:Gh)(h:Nat→HO)(w' : World)(g' : Gh)(h' : Nat→HO):Prop where
 os:w'.os=w.os
 tape:w'.tape=w.tape
 output:w'.output=w.output
 size:w.heap.size≤w'.heap.size
 frame:∀b,b<n0→b≠x→(∀r,(h r).live→g.own r≠some b)→w'.heap[b]?=w.heap[b]?
 loc:∀r b,(h' r).live→g'.own r=some b→n0≤b∨∃r',(h r').live∧g.own r'=some b
 sg:∀b o,g'.S b o→g.S b o∨n0≤b∨∃r',(h r').live∧g.own r'=some b
 le:Le h g w h' g' w'
section
variable {P:Program}{N:Nat}{ds:List Deferred}{n0 x:Nat}{w w' w1 w2:World}{g g' g1 g2:Gh}{h h' h1 h2:Nat→HO}
theorem aW.trans(a:aW n0 x w g h w1 g1 h1)(b:aW n0 x w1 g1 h1 w2 g2 h2):aW n0 x w g h w2 g2 h2 where
 os:=b.os.trans a.os
 tape:=b.tape.trans a.tape
 output:=b.output.trans a.output
 size:=A3 a.size b.size
 frame c hc hx hn:=(b.frame c hc hx fun r hl e=>by
  rcases a.loc r c hl e with h | ⟨r',h1,h2⟩
  ·omega
  ·exact hn r' h1 h2).trans (a.frame c hc hx hn)
 loc r c hl e:=by
  rcases b.loc r c hl e with h | ⟨r',h1,h2⟩
  ·exact .inl h
  ·exact a.loc r' c h1 h2
 sg c o hs:=by
  rcases b.sg c o hs with h | h | ⟨r',h1,h2⟩
  ·exact a.sg c o h
  ·exact .inr (.inl h)
  ·rcases a.loc r' c h1 h2 with h | h
   ·exact .inr (.inl h)
   ·exact .inr (.inr h)
 le:=a.le.trans b.le
theorem aW.of_inv(hI:DQ w g h h' g' w')(hL:Le h g w h' g' w')(hn:n0≤w.heap.size):aW n0 x w g h w' g' h' where
 os:=hI.os
 tape:=hI.tape
 output:=hI.output
 size:=hI.size
 frame c hc _ Yo:=hI.frame c (by omega) Yo
 loc r c hl e:=by
  rcases(hI.loc r c hl e).2 with h | h
  ·exact .inl (by omega)
  ·exact .inr h
 sg c o hs:=by
  rcases hI.sg c o hs with h | h | h
  ·exact .inl h
  ·exact .inr (.inl (by omega))
  ·exact .inr (.inr h)
 le:=hL
theorem DQ.base(hI:DQ w g h h' g' w'):DQ w' g' h' h' g' w' where
 os:=rfl
 tape:=rfl
 output:=rfl
 size:=Al _
 frame _ _ _:=rfl
 slt:=hI.slt
 objs:=hI.objs
 inj:=hI.inj
 loc r b hl e:=⟨(hI.loc r b hl e).1,.inr ⟨r,hl,e⟩⟩
 sg _ _ hs:=.inl hs
 glob:=hI.glob
theorem DQ.of_seg(hI:DQ w' g' h' h' g' w')(s:aW w.heap.size x w g h w' g' h')(hx:x<w.heap.size→w'.heap[x]?=w.heap[x]?):DQ w g h h' g' w' where
 os:=s.os
 tape:=s.tape
 output:=s.output
 size:=s.size
 frame b hb hn:=by
  by_cases e:b=x
  ·subst e;exact hx hb
  ·exact s.frame b hb e hn
 slt:=hI.slt
 objs:=hI.objs
 inj:=hI.inj
 loc r b hl e:=⟨(hI.loc r b hl e).1,s.loc r b hl e⟩
 sg:=s.sg
 glob:=hI.glob
theorem PF{U:Nat→Prop}{r b:Nat}{o:HO}{ob:Obj}(ho:Eo g w U r o)(hl:o.live)(e:g.own r=some b)(hb:w.heap[b]?=some ob)(hd:WI ob=true):False:=by
 cases o with
 |free=>exact hl
 |dead=>exact hl
 |ro cs=>exact hl
 |rom sh Ca=>exact hl
 |cells cs =>
  obtain⟨_,b',E,vs,h1,_,h3,_⟩:=ho;rw[e]at h1;cases h1;rw[hb]at h3;cases h3;cases hd
 |tok sz n =>
  obtain⟨_,_,a,cap,_,(⟨_,h1⟩ | ⟨_,b',E,vs,off,_,h1,h3,_⟩)⟩:=ho
  ·rw[e]at h1;cases h1
  ·rw[e]at h1;cases h1;rw[hb]at h3;cases h3;cases hd
 |vox v=>exact hl
 |hol sz es i c av =>
  obtain⟨_,_,_,b',cap,E,vs,_,h1,_,h3,_⟩:=ho;rw[e]at h1;cases h1;rw[hb]at h3;cases h3;cases hd
 |raw b' bQ =>
  obtain⟨_,h1,h2,h3,_⟩:=ho;rw[e]at h1;cases h1;rw[hb]at h2;cases h2;cases ob<;>simp[WI,q8]at hd h3
  rw[hd]at h3;cases h3
 |var sz v n =>
  obtain⟨_,_,a,cap,_,(⟨_,h1⟩ | ⟨_,b',E,vs,off,_,h1,h3,_⟩)⟩:=ho
  ·rw[e]at h1;cases h1
  ·rw[e]at h1;cases h1;rw[hb]at h3;cases h3;cases hd
 |arr sz es =>
  obtain⟨_,_,_,(⟨_,_,h1⟩ | ⟨b',cap,E,vs,_,h1,_,h3,_⟩)⟩:=ho
  ·rw[e]at h1;cases h1
  ·rw[e]at h1;cases h1;rw[hb]at h3;cases h3;cases hd
 |map sh Ca =>
  obtain⟨_,b',es,ck,h1,_,h3,_⟩:=ho;rw[e]at h1;cases h1;rw[hb]at h3;cases h3;cases hd
 |mapU sh Ca =>
  obtain⟨_,b',es,ck,h1,_,h3,_⟩:=ho;rw[e]at h1;cases h1;rw[hb]at h3;cases h3;cases hd
 |iter all rem FV =>
  obtain⟨_,b',mb,Ko,seen,st,es,ck,h1,_,h3,_⟩:=ho;rw[e]at h1;cases h1;rw[hb]at h3;cases h3;cases hd
theorem DQ.dullS(hI:DQ w g h h g w)(ho:w'.os=w.os∧w'.tape=w.tape∧w'.output=w.output)(Ek:w.heap.size≤w'.heap.size)
  (hb:∀b,b<w.heap.size→w'.heap[b]?=w.heap[b]?∨∃o o',w.heap[b]?=some o∧w'.heap[b]?=some o'∧WI o=true∧WI o'=true)
  (hn:∀b,b<n0→b≠x→w'.heap[b]?=w.heap[b]?):DQ w' g h h g w'∧aW n0 x w g h w' g h:=by
 have hk:Fj g w g w':=fun b o hs=>by
  refine⟨hs,?_⟩;rcases hb b (hI.slt b o hs)with e | ⟨ob,bQ,e1,e2,d1,d2⟩
  ·exact⟨by simp only[World.cell?,e],fun es ck he=>e.trans he⟩
  ·refine⟨?_,fun es ck he=>?_⟩
   ·simp only[World.cell?,e1,e2];cases ob<;>cases bQ<;>first | rfl | (cases d1;done) | (cases d2;done)
   ·rw[e1]at he;cases he;cases d1
 have W2:∀r b,(h r).live→g.own r=some b→w'.heap[b]?=w.heap[b]?:=fun r b hl e=>by
  rcases hb b (hI.loc r b hl e).1 with e' | ⟨ob,bQ,e1,_,d1,_⟩
  ·exact e'
  ·exact(PF (hI.objs r) hl e e1 d1).elim
 refine⟨⟨rfl,rfl,rfl,Al _,fun _ _ _=>rfl,fun b o hs=>BT (hI.slt b o hs) Ek,fun r=>?_,hI.inj,fun r b hl e=>⟨BT (hI.loc r b hl e).1 Ek,.inr ⟨r,hl,e⟩⟩,fun _ _ hs=>.inl hs,hI.glob.keep hk⟩,⟨ho.1,ho.2.1,ho.2.2,Ek,fun b oZ hx _=>hn b oZ hx,fun r b hl e=>.inr ⟨r,hl,e⟩,fun _ _ hs=>.inl hs,⟨.refl _ _,fun _ h=>h,hk⟩⟩⟩;exact(hI.objs r).same hk (fun _ h=>h) (.refl _ _) rfl rfl rfl rfl fun b hl e=>⟨W2 r b hl e,fun _ h=>h⟩
theorem DQ.put(hI:DQ w g h h g w){l:Nat}{o o' : Obj}(hl:w.heap[l]?=some o)(hd:WI o=true)(lz : WI o'=true)(hx:n0≤l∨l=x) :
  DQ (w.putObj l o') g h h g (w.putObj l o')∧aW n0 x w g h (w.putObj l o') g h:=by
 have DF:l<w.heap.size:=(BI.1 hl).1;refine hI.dullS ⟨rfl,rfl,rfl⟩ (by simp[World.putObj]) (fun b _=>?_) (fun b hb DL=>?_)
 ·by_cases e:b=l
  ·subst e;exact .inr ⟨o,o',hl,World.putObj_heap_same DF,hd,lz⟩
  ·exact .inl (World.putObj_heap_other e)
 ·refine World.putObj_heap_other fun e=>?_;rcases hx with h | h
  ·omega
  ·exact DL (e.trans h)
theorem DQ.allocS(hI:DQ w g h h g w)(o:Obj)(hn:n0≤w.heap.size):DQ (w.alloc o) g h h g (w.alloc o)∧aW n0 x w g h (w.alloc o) g h:=by
 refine hI.dullS ⟨rfl,rfl,rfl⟩ (by rw[World.size_alloc];omega) (fun b hb=>.inl (heap_alloc_old _ _ hb)) (fun b hb _=>heap_alloc_old _ _ (by omega))
end
end Go.Eng
