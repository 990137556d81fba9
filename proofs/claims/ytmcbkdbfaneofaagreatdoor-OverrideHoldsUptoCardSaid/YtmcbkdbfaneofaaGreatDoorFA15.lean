/- Lemmas for the claims of this seat, without a condition: part 15 (Tab, EngZG, EngZH, EngZI, EngZJ, EngZK, EngZM, EngZN, EngZO). -/
import Derived.Test.YtmcbkdbfaneofaaGreatDoorFA14
import Derived.Test.YtmcbkdbfaneofaaGreatDoorProg
import Derived.Sort.Grow
import Derived.Shelf.GgSortFunc.InsertionK
import Derived.Below
import Derived.RangeFuncLeaves
import Derived.RangeFuncNested
namespace Go.Eng
open Go.Proofs
abbrev xG:TI := jd
abbrev tF:TI := ⟨.func,1,8,.nilFunc,true⟩
abbrev tI:TI := ⟨.int .i64,1,8,.int .i64 0,true⟩
abbrev tP(n:Nat):TI := ⟨.ptr n,1,8,.pointer none,true⟩
abbrev tS(n:Nat):TI := ⟨.slice n,1,24,.slice none 0 0,true⟩
def hJ{α:Type}(d:α):List α → Nat → α
 | [],_ => d
 |a::r,n => match n with |0 => a |n + 1 => hJ d r n
def w8:List TI := [⟨.other,1,0,(.tuple #[]),true⟩,tF,tI,tI,⟨.bool,1,1,(.bool .false),true⟩,⟨.int .u8,1,1,(.int .u8 0),true⟩,⟨.int .u8,1,1,(.int .u8 0),true⟩,⟨.struct [(2,0),(3,1),(4,2),(6,3)],4,24,(.agg #[.int .i64 0,.int .i64 0,.bool .false,.int .u8 0]),true⟩,⟨.struct [(2,0),(3,1),(4,2),(6,3)],4,24,(.agg #[.int .i64 0,.int .i64 0,.bool .false,.int .u8 0]),true⟩,⟨.string,1,16,(.string ⟨#[]⟩),true⟩,⟨.string,1,16,(.string ⟨#[]⟩),true⟩,⟨.string,1,16,(.string ⟨#[]⟩),true⟩,⟨.int .u64,1,8,(.int .u64 0),true⟩,⟨.struct [(9,0),(12,1)],2,24,(.agg #[.string ⟨#[]⟩,.int .u64 0]),false⟩,⟨.struct [(9,0),(12,1)],2,24,(.agg #[.string ⟨#[]⟩,.int .u64 0]),false⟩,tP 314]
def w9:List TI := [tP 317,tP 326,⟨.struct [(17,0)],1,8,(.agg #[.pointer none]),false⟩,⟨.struct [(17,0)],1,8,(.agg #[.pointer none]),false⟩,⟨.iface,1,16,.nilIface,true⟩,⟨.int .i32,1,4,(.int .i32 0),true⟩,tS 45,tS 86,⟨.struct [(22,0),(23,1)],2,48,(.agg #[.slice none 0 0,.slice none 0 0]),true⟩,⟨.struct [(22,0),(23,1)],2,48,(.agg #[.slice none 0 0,.slice none 0 0]),true⟩,tS 51,⟨.struct [(22,0),(26,1),(26,2)],3,72,(.agg #[.slice none 0 0,.slice none 0 0,.slice none 0 0]),true⟩,⟨.struct [(22,0),(26,1),(26,2)],3,72,(.agg #[.slice none 0 0,.slice none 0 0,.slice none 0 0]),true⟩,tF,tF,tI]
def xa:List TI := [⟨.other,1,0,(.tuple #[.agg #[.slice none 0 0,.slice none 0 0],.int .i64 0]),true⟩,tF,tF,tF,tF,⟨.other,1,0,(.tuple #[.agg #[.slice none 0 0,.slice none 0 0,.slice none 0 0],.int .i64 0]),true⟩,tF,tF,tF,⟨.struct [(3,0),(3,1),(3,2)],3,24,(.agg #[.int .i64 0,.int .i64 0,.int .i64 0]),true⟩,⟨.struct [(3,0),(3,1),(3,2)],3,24,(.agg #[.int .i64 0,.int .i64 0,.int .i64 0]),true⟩,tS 66,⟨.struct [(9,0),(42,1),(43,4),(9,5),(9,6),(9,7),(4,8)],9,120,(.agg #[.string ⟨#[]⟩,.int .i64 0,.int .i64 0,.int .i64 0,.slice none 0 0,.string ⟨#[]⟩,.string ⟨#[]⟩,.string ⟨#[]⟩,.bool .false]),true⟩,⟨.struct [(9,0),(42,1),(43,4),(9,5),(9,6),(9,7),(4,8)],9,120,(.agg #[.string ⟨#[]⟩,.int .i64 0,.int .i64 0,.int .i64 0,.slice none 0 0,.string ⟨#[]⟩,.string ⟨#[]⟩,.string ⟨#[]⟩,.bool .false]),true⟩,tF,tF]
def xb:List TI := [tF,tF,⟨.struct [(9,0),(42,1)],4,40,(.agg #[.string ⟨#[]⟩,.int .i64 0,.int .i64 0,.int .i64 0]),true⟩,⟨.struct [(9,0),(42,1)],4,40,(.agg #[.string ⟨#[]⟩,.int .i64 0,.int .i64 0,.int .i64 0]),true⟩,tF,tF,tF,⟨.other,1,0,(.tuple #[.slice none 0 0,.int .i64 0]),true⟩,tF,⟨.other,1,0,(.tuple #[.agg #[.string ⟨#[]⟩,.int .i64 0,.int .i64 0,.int .i64 0,.slice none 0 0,.string ⟨#[]⟩,.string ⟨#[]⟩,.string ⟨#[]⟩,.bool .false],.bool .false]),true⟩,tF,tF,tF,⟨.struct [(3,0),(3,1)],2,16,(.agg #[.int .i64 0,.int .i64 0]),true⟩,⟨.struct [(3,0),(3,1)],2,16,(.agg #[.int .i64 0,.int .i64 0]),true⟩,tS 62]
def xc:List TI := [tS 62,⟨.struct [(9,0),(64,1)],2,40,(.agg #[.string ⟨#[]⟩,.slice none 0 0]),true⟩,⟨.struct [(9,0),(64,1)],2,40,(.agg #[.string ⟨#[]⟩,.slice none 0 0]),true⟩,tS 72,⟨.other,1,0,(.tuple #[.slice none 0 0,.int .i64 0]),true⟩,tF,tF,⟨.struct [(9,0),(3,1),(3,2)],3,32,(.agg #[.string ⟨#[]⟩,.int .i64 0,.int .i64 0]),true⟩,⟨.struct [(9,0),(3,1),(3,2)],3,32,(.agg #[.string ⟨#[]⟩,.int .i64 0,.int .i64 0]),true⟩,tF,tF,tF,tF,tF,tF,tF]
def xd:List TI := [tF,tS 333,tS 335,tS 337,tS 339,⟨.struct [(9,0),(81,1),(82,2),(83,3),(84,4)],5,112,(.agg #[.string ⟨#[]⟩,.slice none 0 0,.slice none 0 0,.slice none 0 0,.slice none 0 0]),true⟩,⟨.struct [(9,0),(81,1),(82,2),(83,3),(84,4)],5,112,(.agg #[.string ⟨#[]⟩,.slice none 0 0,.slice none 0 0,.slice none 0 0,.slice none 0 0]),true⟩,tF,⟨.other,1,0,(.tuple #[.agg #[.string ⟨#[]⟩,.int .i64 0,.int .i64 0,.int .i64 0],.bool .false]),true⟩,tF,tF,tF,tF,tF,tF,tF]
def xe:List TI := [tS 28,tF,tF,tF,tF,tF,tF,tF,tF,tS 201,tS 181,⟨.struct [(4,0),(26,1),(105,2),(106,3)],4,80,(.agg #[.bool .false,.slice none 0 0,.slice none 0 0,.slice none 0 0]),true⟩,⟨.struct [(4,0),(26,1),(105,2),(106,3)],4,80,(.agg #[.bool .false,.slice none 0 0,.slice none 0 0,.slice none 0 0]),true⟩,⟨.other,1,0,(.tuple #[.agg #[.bool .false,.slice none 0 0,.slice none 0 0,.slice none 0 0],.int .i64 0]),true⟩,tF,⟨.map 51 45,1,8,(.map none),true⟩]
def xf:List TI := [⟨.map 9 22,1,8,(.map none),true⟩,⟨.struct [(111,0),(112,1)],2,16,(.agg #[.map none,.map none]),true⟩,⟨.struct [(111,0),(112,1)],2,16,(.agg #[.map none,.map none]),true⟩,⟨.other,1,0,(.tuple #[.agg #[.map none,.map none],.int .i64 0]),true⟩,tF,tF,tF,tF,tF,tF,tF,tF,⟨.other,1,0,(.tuple #[.string ⟨#[]⟩,.int .i64 0,.int .i64 0]),true⟩,tF,tF,tF]
def xg:List TI := [tF,tS 9,tF,tP 142,tF,⟨.other,1,0,(.tuple #[.int .i64 0,.bool .false]),true⟩,tF,⟨.map 9 139,1,8,(.map none),true⟩,⟨.map 9 64,1,8,(.map none),true⟩,tS 179,⟨.map 201 3,1,8,(.map none),true⟩,tS 162,tS 106,⟨.struct [(43,0),(135,1),(136,2),(105,3),(137,4),(138,5),(4,6),(139,7),(26,8),(140,9)],10,176,(.agg #[.slice none 0 0,.map none,.map none,.slice none 0 0,.slice none 0 0,.map none,.bool .false,.slice none 0 0,.slice none 0 0,.slice none 0 0]),true⟩,⟨.struct [(43,0),(135,1),(136,2),(105,3),(137,4),(138,5),(4,6),(139,7),(26,8),(140,9)],10,176,(.agg #[.slice none 0 0,.map none,.map none,.slice none 0 0,.slice none 0 0,.map none,.bool .false,.slice none 0 0,.slice none 0 0,.slice none 0 0]),true⟩,tF]
def xh:List TI := [⟨.map 9 3,1,8,(.map none),true⟩,⟨.other,1,0,(.tuple #[.map none,.bool .false]),true⟩,tF,tF,tF,tF,tF,tS 3,⟨.array 3 3,3,24,(.agg #[.int .i64 0,.int .i64 0,.int .i64 0]),true⟩,tF,tF,⟨.other,1,0,(.tuple #[.int .i64 0,.int .i64 0]),true⟩,tF,tF,tP 66,tF]
def rX:List TI := [tF,⟨.struct [(3,0),(45,1)],10,128,(.agg #[.int .i64 0,.string ⟨#[]⟩,.int .i64 0,.int .i64 0,.int .i64 0,.slice none 0 0,.string ⟨#[]⟩,.string ⟨#[]⟩,.string ⟨#[]⟩,.bool .false]),true⟩,⟨.struct [(3,0),(45,1)],10,128,(.agg #[.int .i64 0,.string ⟨#[]⟩,.int .i64 0,.int .i64 0,.int .i64 0,.slice none 0 0,.string ⟨#[]⟩,.string ⟨#[]⟩,.string ⟨#[]⟩,.bool .false]),true⟩,tF,tS 169,⟨.other,1,0,(.tuple #[.string ⟨#[]⟩,.slice none 0 0]),true⟩,tF,tF,⟨.struct [(66,0),(9,2),(3,3),(3,4)],5,72,(.agg #[.string ⟨#[]⟩,.slice none 0 0,.string ⟨#[]⟩,.int .i64 0,.int .i64 0]),true⟩,⟨.struct [(66,0),(9,2),(3,3),(3,4)],5,72,(.agg #[.string ⟨#[]⟩,.slice none 0 0,.string ⟨#[]⟩,.int .i64 0,.int .i64 0]),true⟩,tF,tF,tF,tF,⟨.other,1,0,(.tuple #[.agg #[.string ⟨#[]⟩,.slice none 0 0,.string ⟨#[]⟩,.int .i64 0,.int .i64 0],.bool .false]),true⟩,tF]
def rY:List TI := [tF,tF,tS 207,tS 207,⟨.struct [(9,0),(3,1),(3,2)],3,32,(.agg #[.string ⟨#[]⟩,.int .i64 0,.int .i64 0]),true⟩,⟨.struct [(9,0),(3,1),(3,2)],3,32,(.agg #[.string ⟨#[]⟩,.int .i64 0,.int .i64 0]),true⟩,tF,tF,tF,⟨.int .u64,1,8,(.int .u64 0),true⟩,tF,tF,tF,tF,tF,tF]
def rZ:List TI := [tF,tF,tF,tF,tF,tF,tF,tF,⟨.struct [(3,0),(9,1),(3,2),(3,3),(3,4),(3,5)],6,56,(.agg #[.int .i64 0,.string ⟨#[]⟩,.int .i64 0,.int .i64 0,.int .i64 0,.int .i64 0]),true⟩,⟨.struct [(3,0),(9,1),(3,2),(3,3),(3,4),(3,5)],6,56,(.agg #[.int .i64 0,.string ⟨#[]⟩,.int .i64 0,.int .i64 0,.int .i64 0,.int .i64 0]),true⟩,tF,tF,tF,tF,⟨.struct [(9,0),(4,1),(64,2)],3,48,(.agg #[.string ⟨#[]⟩,.bool .false,.slice none 0 0]),true⟩,⟨.struct [(9,0),(4,1),(64,2)],3,48,(.agg #[.string ⟨#[]⟩,.bool .false,.slice none 0 0]),true⟩]
def r4:List TI := [tF,tF,⟨.other,1,0,(.tuple #[.slice none 0 0,.int .i64 0]),true⟩,tF,tF,tI,⟨.other,1,0,(.tuple #[.int .i64 0,.int .i64 0]),true⟩,tF,tF,tF,tF,tF,⟨.int .u32,1,4,(.int .u32 0),true⟩,tF,⟨.int .u64,1,8,(.int .u64 0),true⟩,tF]
def r5:List TI := [tF,tF,tF,tF,tF,tS 5,tF,⟨.other,1,0,(.tuple #[.string ⟨#[]⟩,.bool .false]),true⟩,tF,⟨.other,1,0,(.tuple #[.int .u32 0,.int .u32 0]),true⟩,tF,tF,tF,tF,tF,tF]
def r6:List TI := [tF,tF,tF,⟨.other,1,0,(.tuple #[.agg #[.string ⟨#[]⟩,.bool .false,.slice none 0 0],.slice none 0 0,.bool .false]),true⟩,tF,⟨.other,1,0,(.tuple #[.slice none 0 0,.bool .false]),true⟩,tF,tF,⟨.int .u64,1,8,(.int .u64 0),true⟩,tF,tF,tF,tP 3,tF,tF,tF]
def r7:List TI := [tF,tF,tF,tF,tF,tF,tF,tF,tF,⟨.map 9 207,1,8,(.map none),true⟩,tF,tF,tF,tF,tP 248,⟨.other,1,0,(.tuple #[.int .i64 0,.int .i64 0]),true⟩]
def r8:List TI := [tF,tF,⟨.other,1,0,(.tuple #[.int .i32 0,.int .i64 0]),true⟩,tF,tF,tF,tF,tF,tF,tS 64,⟨.map 3 3,1,8,(.map none),true⟩,tF,⟨.other,1,0,(.tuple #[.agg #[.string ⟨#[]⟩,.bool .false,.slice none 0 0],.bool .false]),true⟩,tF,tF,tF]
def r9:List TI := [tF,tF,tF,tF,tF,tF,tF,⟨.array 256 5,256,256,(.agg (([.int .u8 0,.int .u8 0,.int .u8 0,.int .u8 0,.int .u8 0,.int .u8 0,.int .u8 0,.int .u8 0,.int .u8 0,.int .u8 0,.int .u8 0,.int .u8 0,.int .u8 0,.int .u8 0,.int .u8 0,.int .u8 0,.int .u8 0,.int .u8 0,.int .u8 0,.int .u8 0,.int .u8 0,.int .u8 0,.int .u8 0,.int .u8 0,.int .u8 0,.int .u8 0,.int .u8 0,.int .u8 0,.int .u8 0,.int .u8 0,.int .u8 0,.int .u8 0,.int .u8 0,.int .u8 0,.int .u8 0,.int .u8 0,.int .u8 0,.int .u8 0,.int .u8 0,.int .u8 0,.int .u8 0,.int .u8 0,.int .u8 0,.int .u8 0,.int .u8 0,.int .u8 0,.int .u8 0,.int .u8 0,.int .u8 0,.int .u8 0,.int .u8 0,.int .u8 0,.int .u8 0,.int .u8 0,.int .u8 0,.int .u8 0,.int .u8 0,.int .u8 0,.int .u8 0,.int .u8 0,.int .u8 0,.int .u8 0,.int .u8 0,.int .u8 0].append [.int .u8 0,.int .u8 0,.int .u8 0,.int .u8 0,.int .u8 0,.int .u8 0,.int .u8 0,.int .u8 0,.int .u8 0,.int .u8 0,.int .u8 0,.int .u8 0,.int .u8 0,.int .u8 0,.int .u8 0,.int .u8 0,.int .u8 0,.int .u8 0,.int .u8 0,.int .u8 0,.int .u8 0,.int .u8 0,.int .u8 0,.int .u8 0,.int .u8 0,.int .u8 0,.int .u8 0,.int .u8 0,.int .u8 0,.int .u8 0,.int .u8 0,.int .u8 0,.int .u8 0,.int .u8 0,.int .u8 0,.int .u8 0,.int .u8 0,.int .u8 0,.int .u8 0,.int .u8 0,.int .u8 0,.int .u8 0,.int .u8 0,.int .u8 0,.int .u8 0,.int .u8 0,.int .u8 0,.int .u8 0,.int .u8 0,.int .u8 0,.int .u8 0,.int .u8 0,.int .u8 0,.int .u8 0,.int .u8 0,.int .u8 0,.int .u8 0,.int .u8 0,.int .u8 0,.int .u8 0,.int .u8 0,.int .u8 0,.int .u8 0,.int .u8 0]).append ([.int .u8 0,.int .u8 0,.int .u8 0,.int .u8 0,.int .u8 0,.int .u8 0,.int .u8 0,.int .u8 0,.int .u8 0,.int .u8 0,.int .u8 0,.int .u8 0,.int .u8 0,.int .u8 0,.int .u8 0,.int .u8 0,.int .u8 0,.int .u8 0,.int .u8 0,.int .u8 0,.int .u8 0,.int .u8 0,.int .u8 0,.int .u8 0,.int .u8 0,.int .u8 0,.int .u8 0,.int .u8 0,.int .u8 0,.int .u8 0,.int .u8 0,.int .u8 0,.int .u8 0,.int .u8 0,.int .u8 0,.int .u8 0,.int .u8 0,.int .u8 0,.int .u8 0,.int .u8 0,.int .u8 0,.int .u8 0,.int .u8 0,.int .u8 0,.int .u8 0,.int .u8 0,.int .u8 0,.int .u8 0,.int .u8 0,.int .u8 0,.int .u8 0,.int .u8 0,.int .u8 0,.int .u8 0,.int .u8 0,.int .u8 0,.int .u8 0,.int .u8 0,.int .u8 0,.int .u8 0,.int .u8 0,.int .u8 0,.int .u8 0,.int .u8 0].append [.int .u8 0,.int .u8 0,.int .u8 0,.int .u8 0,.int .u8 0,.int .u8 0,.int .u8 0,.int .u8 0,.int .u8 0,.int .u8 0,.int .u8 0,.int .u8 0,.int .u8 0,.int .u8 0,.int .u8 0,.int .u8 0,.int .u8 0,.int .u8 0,.int .u8 0,.int .u8 0,.int .u8 0,.int .u8 0,.int .u8 0,.int .u8 0,.int .u8 0,.int .u8 0,.int .u8 0,.int .u8 0,.int .u8 0,.int .u8 0,.int .u8 0,.int .u8 0,.int .u8 0,.int .u8 0,.int .u8 0,.int .u8 0,.int .u8 0,.int .u8 0,.int .u8 0,.int .u8 0,.int .u8 0,.int .u8 0,.int .u8 0,.int .u8 0,.int .u8 0,.int .u8 0,.int .u8 0,.int .u8 0,.int .u8 0,.int .u8 0,.int .u8 0,.int .u8 0,.int .u8 0,.int .u8 0,.int .u8 0,.int .u8 0,.int .u8 0,.int .u8 0,.int .u8 0,.int .u8 0,.int .u8 0,.int .u8 0,.int .u8 0,.int .u8 0])).toArray),true⟩,⟨.struct [(5,0),(5,1)],2,2,(.agg #[.int .u8 0,.int .u8 0]),true⟩,⟨.struct [(5,0),(5,1)],2,2,(.agg #[.int .u8 0,.int .u8 0]),true⟩,⟨.array 16 297,32,32,(.agg (Array.replicate 32 (.int .u8 0))),true⟩,tF,tF,tF,tF,tF]
def sa:List TI := [tF,tF,tF,tF,tF,tF,tF,tF,tF,⟨.struct [(17,0),(17,1),(17,2),(9,3)],4,40,(.agg #[.pointer none,.pointer none,.pointer none,.string ⟨#[]⟩]),false⟩,⟨.struct [(17,0),(17,1),(17,2),(9,3)],4,40,(.agg #[.pointer none,.pointer none,.pointer none,.string ⟨#[]⟩]),false⟩,⟨.array 0 16,0,0,(.agg #[]),true⟩,⟨.other,0,0,(.agg #[]),false⟩,⟨.other,0,0,(.agg #[]),false⟩,tF,⟨.int .u8,1,1,(.int .u8 0),true⟩]
def sb:List TI := [⟨.int .u8,1,1,(.int .u8 0),true⟩,tF,tP 5,⟨.int .i32,1,4,(.int .i32 0),true⟩,⟨.int .i32,1,4,(.int .i32 0),true⟩,⟨.struct [(12,0),(12,1),(220,2),(319,3),(5,4),(5,5),(320,6),(321,7),(322,8),(323,9),(324,10)],11,48,(.agg #[.int .u64 0,.int .u64 0,.int .u32 0,.int .u8 0,.int .u8 0,.int .u8 0,.int .u8 0,.nilFunc,.pointer none,.int .i32 0,.int .i32 0]),false⟩,⟨.struct [(12,0),(12,1),(220,2),(319,3),(5,4),(5,5),(320,6),(321,7),(322,8),(323,9),(324,10)],11,48,(.agg #[.int .u64 0,.int .u64 0,.int .u32 0,.int .u8 0,.int .u8 0,.int .u8 0,.int .u8 0,.nilFunc,.pointer none,.int .i32 0,.int .i32 0]),false⟩,tS 343,tS 331,tS 345,⟨.struct [(3,0),(9,1),(9,2),(328,3),(329,4)],5,88,(.agg #[.int .i64 0,.string ⟨#[]⟩,.string ⟨#[]⟩,.slice none 0 0,.slice none 0 0]),true⟩,⟨.struct [(3,0),(9,1),(9,2),(328,3),(329,4)],5,88,(.agg #[.int .i64 0,.string ⟨#[]⟩,.string ⟨#[]⟩,.slice none 0 0,.slice none 0 0]),true⟩,⟨.struct [(9,0),(327,1),(331,2),(331,7)],12,216,(.agg #[.string ⟨#[]⟩,.slice none 0 0,.int .i64 0,.string ⟨#[]⟩,.string ⟨#[]⟩,.slice none 0 0,.slice none 0 0,.int .i64 0,.string ⟨#[]⟩,.string ⟨#[]⟩,.slice none 0 0,.slice none 0 0]),true⟩,⟨.struct [(9,0),(327,1),(331,2),(331,7)],12,216,(.agg #[.string ⟨#[]⟩,.slice none 0 0,.int .i64 0,.string ⟨#[]⟩,.string ⟨#[]⟩,.slice none 0 0,.slice none 0 0,.int .i64 0,.string ⟨#[]⟩,.string ⟨#[]⟩,.slice none 0 0,.slice none 0 0]),true⟩,⟨.struct [(9,0),(327,1),(331,2)],7,128,(.agg #[.string ⟨#[]⟩,.slice none 0 0,.int .i64 0,.string ⟨#[]⟩,.string ⟨#[]⟩,.slice none 0 0,.slice none 0 0]),true⟩,⟨.struct [(9,0),(327,1),(331,2)],7,128,(.agg #[.string ⟨#[]⟩,.slice none 0 0,.int .i64 0,.string ⟨#[]⟩,.string ⟨#[]⟩,.slice none 0 0,.slice none 0 0]),true⟩]
def sc:List TI := [⟨.struct [(9,0),(9,1),(9,2)],3,48,(.agg #[.string ⟨#[]⟩,.string ⟨#[]⟩,.string ⟨#[]⟩]),true⟩,⟨.struct [(9,0),(9,1),(9,2)],3,48,(.agg #[.string ⟨#[]⟩,.string ⟨#[]⟩,.string ⟨#[]⟩]),true⟩,⟨.struct [(9,0),(9,1)],2,32,(.agg #[.string ⟨#[]⟩,.string ⟨#[]⟩]),true⟩,⟨.struct [(9,0),(9,1)],2,32,(.agg #[.string ⟨#[]⟩,.string ⟨#[]⟩]),true⟩,tF,⟨.other,1,8,(.pointer none),true⟩,⟨.struct [(9,0),(3,1),(331,2)],7,112,(.agg #[.string ⟨#[]⟩,.int .i64 0,.int .i64 0,.string ⟨#[]⟩,.string ⟨#[]⟩,.slice none 0 0,.slice none 0 0]),true⟩,⟨.struct [(9,0),(3,1),(331,2)],7,112,(.agg #[.string ⟨#[]⟩,.int .i64 0,.int .i64 0,.string ⟨#[]⟩,.string ⟨#[]⟩,.slice none 0 0,.slice none 0 0]),true⟩,⟨.struct [(9,0),(331,1),(4,6)],7,112,(.agg #[.string ⟨#[]⟩,.int .i64 0,.string ⟨#[]⟩,.string ⟨#[]⟩,.slice none 0 0,.slice none 0 0,.bool .false]),true⟩,⟨.struct [(9,0),(331,1),(4,6)],7,112,(.agg #[.string ⟨#[]⟩,.int .i64 0,.string ⟨#[]⟩,.string ⟨#[]⟩,.slice none 0 0,.slice none 0 0,.bool .false]),true⟩]
def zb:List (List TI) := [w8,w9,xa,xb,xc,xd,xe,xf,xg,xh,rX,rY,rZ,r4,r5,r6,r7,r8,r9,sa,sb,sc]
def mH:Gt := fun t => hJ xG (hJ [] zb (t / 16)) (t % 16)
theorem jc:(List.range 352).map mH = (List.range 352).map (dK Tryz.prog) := by kernel_rfl
theorem aQ{α:Type}(d:α):∀(l:List α) (n:Nat),l.length ≤ n → hJ d l n = d
 | [],_,_ => rfl
 |_::_,0,h => by simp at h
 |_::r,n + 1,h => aQ d r n (by simpa using h)
theorem CD:CB Tryz.prog mH := by
 intro t
 by_cases h:t<352
 ·have := Ac (fun l => l[t]?) jc
  rw[AI,AI,List.getElem?_range h,FA,FA]at this
  exact .inr (BP this)
 ·have h1:hJ ([]:List TI) zb (t / 16) = [] := aQ _ _ _ (by show 22 ≤ t / 16;omega)
  have h2:mH t = xG := by unfold mH;rw[h1];rfl
  exact .inl h2
end Go.Eng
namespace Go.Eng
section
variable {P:Program}
theorem cc {f : Nat} {fn : Func} {c : Code} (hf : P.funcs[f]? = some fn) (hn : (fn.name == "runtime.NumGoroutine") = false) (hb : fn.body = some c) : F2 P f := ⟨fn, hf, hn, by simp [hb]⟩
theorem Lk{f:Nat}{args:List AV}{res:AV}(vals:List Value)(v:Value)(hE:F2 P f)(ha:args=vals.map .v)(nZ:∀g w,BJ g w Fm res v)
  (h:∀w,(∃m,w.cell? ⟨gB,0,none⟩=some (.int .i64 m))→Calls P f vals.toArray w fun e w'=>e=.returned v∧w'=w):LQ P f args res:=by
 refine⟨hE,fun g w us hs hv hI=>?_⟩;have hu:us=vals.toArray:=by
  subst ha;rw[Bb]at hs;refine Array.ext (by simpa using hs) fun i h1 h2=>?_
  have:=hv i (.v (vals[i]'(by simpa using h2))) us[i] (by rw[AI,AA (by simpa using h2)];rfl) (by rw[BG h1])
  rw[this.v_eq];simp
 subst hu;refine(h w hI.glob.1.2).mono ?_
 rintro e w' ⟨rfl,rfl⟩
 exact⟨v,res,Aa,g,rfl,⟨rfl,rfl⟩,(nZ g _).up _,hI,.refl _ _ _⟩
theorem iJ{g:Gh}{w:World}:∀(vs:List Value),BJ g w Fm (.tup (vs.map .v)) (.tuple vs.toArray):=fun vs =>
 .tup _ _ _ (by simp) fun i av x h1 h2=>by
  rw[AI,AZ]at h1;obtain⟨a,e1,rfl⟩:=h1
  have:vs[i]?=some x:=by simpa using h2
  rw[e1]at this;cases this;exact .v _ _
theorem dt{f:Nat}{args:List AV}(vals:List Value)(es:List Value)(T:TypeId)(hE:F2 P f)(ha:args=vals.map .v)(h1:∀x∈es,x.oneCell'=true)
  (h:∀w,(∃m,w.cell? ⟨gB,0,none⟩=some (.int .i64 m))→Calls P f vals.toArray w fun e w'=>e=.returned (.slice (some ⟨w.heap.size,0,none⟩) es.length es.length)∧w'=w.alloc (.cells es.toArray T)) :
  LQ P f args (.slice .none (es.map fun x=>[.v x])):=by
 refine⟨hE,fun g w us hs hv hI=>?_⟩;have hu:us=vals.toArray:=by
  subst ha;rw[Bb]at hs;refine Array.ext (by simpa using hs) fun i h1 h2=>?_
  have:=hv i (.v (vals[i]'(by simpa using h2))) us[i] (by rw[AI,AA (by simpa using h2)];rfl) (by rw[BG h1])
  rw[this.v_eq];simp
 subst hu;refine(h w hI.glob.1.2).mono ?_
 rintro e w' ⟨rfl,rfl⟩
 have ES:(w.alloc (.cells es.toArray T)).heap[w.heap.size]?=some (.cells es.toArray T (0,0)):=HA w _ rfl;have We:∀b,b<w.heap.size→(w.alloc (.cells es.toArray T)).heap[b]?=w.heap[b]?:=fun b hb=>heap_alloc_old _ _ hb;have hK:E2 g w ⟨g.ρ,g.ln,g.tk,g.own,g.more w.heap.size es.length⟩ (w.alloc (.cells es.toArray T)):=fun b o hb=>by
  have DL:=hI.slt b o hb;exact⟨.inl hb,by simp only[World.cell?,We b DL],fun es ck he=>(We b DL).trans he⟩
 refine⟨_,_,Aa,⟨g.ρ,g.ln,g.tk,g.own,g.more w.heap.size es.length⟩,rfl,⟨rfl,rfl⟩,?_,⟨rfl,rfl,rfl,?_,fun b hb _=>We b hb,fun b o hs=>?_,fun _=>trivial,fun _ _ _ h=>h.elim,fun _ _ h=>h.elim,fun b o hs=>?_,hI.glob.keep hK⟩,⟨.refl _ _,fun _ h=>h,hK⟩⟩
 ·have hr:CH ⟨g.ρ,g.ln,g.tk,g.own,g.more w.heap.size es.length⟩ (w.alloc (.cells es.toArray T)) Fm (es.map fun x=>[AV.v x]).flatten (es.toArray.toList.take ((es.map fun x=>[AV.v x]).length*1)):=by
   have hfl:∀l:List Value,(l.map fun x=>[AV.v x]).flatten=l.map .v:=fun l=>by
    induction l with
    |nil=>rfl
    |cons a l ih=>rw[AN,BA,ih];rfl
   rw[hfl];simp only[Bb,Nat.mul_one,Dv];refine⟨by simp,fun x hx=>h1 x (by simpa using hx),fun i av x q1 q2=>?_⟩;rw[AI,AZ]at q1;obtain⟨a,e1,rfl⟩:=q1;rw[e1]at q2;cases q2;exact .v _ _
  have:=BJ.slice_row (U:=AR Aa) (cap:=es.length) (sz:=1) (es:=es.map fun x=>[AV.v x]) ES (fun cs hcs=>by
   obtain⟨x,_,rfl⟩:=Al.1 hcs;rfl) (by simp) hr (fun o ho=>.inr ⟨rfl,by simpa using ho⟩)
  simpa using this
 ·rw[World.size_alloc];omega
 ·rw[World.size_alloc];rcases hs with hs | ⟨rfl,_⟩
  ·have:=hI.slt b o hs;omega
  ·omega
 ·rcases hs with hs | ⟨rfl,_⟩
  ·exact .inl hs
  ·exact .inr (.inl (Ak _))
end
end Go.Eng
namespace Go.Eng
open Go.Sort
section
variable {P:Program}
theorem Np(F c:Array Value)(h:F.size≤c.size):(putCells id 0 F c).toList.take F.size=F.toList∧(putCells id 0 F c).size=c.size:=by
 have hs:(putCells id 0 F c).size=c.size:=by simp[putCells]
 refine⟨?_,hs⟩;apply CE;intro i;rw[Jz,A2,A2]
 by_cases hi:i<F.size
 ·rw[Aw hi];have hi2:i<c.size:=by omega
  simp only[putCells,Array.getElem?_mapIdx,BG hi2,BG hi,FA,AL,true_and,Bi,hi,Kz,Nat.sub_zero,id_eq];rw[DD F i hi]
 ·rw[Ai hi,T1 (by omega)]
theorem SO(r:Nat)(o o' : HO):AW (Aj [(r,o)] Aa) r o'=Aj [(r,o')] Aa:=by
 funext i
 by_cases e:i=r
 ·subst e;rw[Bd];simp[Aj]
 ·rw[BZ _ _ _ _ e];simp[Aj,CM e]
theorem Px{f:Nat}{es:List (List AV)}{sz:Nat}{rest:List Value}{Q:List (List AV)→Prop}(hE:F2 P f)
  (h0:es=[]→Q []∧∀w,Calls P f (#[.slice none 0 0]++rest.toArray) w fun e w'=>e=.returned (.tuple #[])∧w'=w)
  (h1:∀(g:Gh) (w:World) (b cap:Nat) (F:Array Value),CH g w Fm es.flatten F.toList→F.size=es.length*sz→Holds id w b 0 F→b<w.heap.size→Calls P f (#[.slice (some ⟨b,0,none⟩) es.length cap]++rest.toArray) w fun e w' =>
   e=.returned (.tuple #[])∧∃(F' : Array Value) (FD : List (List AV)) (n:Nat) (os:Array Obj),F'.size=F.size∧Q FD∧FD.length=es.length∧(∀cs∈FD,cs.length=sz) ∧
    (∀(g:Gh) (w:World),CH g w Fm es.flatten F.toList→CH g w Fm FD.flatten F'.toList)∧w'=grow (putRow id (Sort.ahead w n) b 0 F') os) :
  Be P f (.msl 1000 es.length::rest.map .v) (Aj [(1000,.arr sz es)] Aa) fun r h'=>r=.tup []∧∃FD,Q FD∧h'=Aj [(1000,.arr sz FD)] Aa:=by
 refine⟨hE,fun g w us hs hv hI=>?_⟩;have ho:=hI.objs 1000;have he:Aj [(1000,HO.arr sz es)] Aa 1000=.arr sz es:=rfl;rw[he]at ho;obtain⟨t1,l1,al,a2⟩:=ho;simp only[Au,Bb]at hs
 -- the arguments
 have vS:0<us.size:=by omega
 have cz:=hv 0 (.msl 1000 es.length) us[0] rfl (BG vS);have JE:us[0]=g.ρ 1000:=by
  generalize us[0]=x at cz;cases cz with
  |msl _ r n a cap hu ht hn ha hx=>exact hx l1.symm
 have K9:us=#[g.ρ 1000]++rest.toArray:=by
  refine Array.ext (by simp;omega) fun i h1 h2=>?_;cases i with
  |zero=>rw[JE];simp
  |succ i =>
   have hi:i<rest.length:=by omega
   have:=hv (i+1) (.v rest[i]) us[i+1] (by simp[List.getElem?_eq_getElem hi]) (BG h1)
   rw[this.v_eq];simp
 rw[K9];rcases a2 with ⟨b1,b2,b3⟩ | ⟨b,cap,E,vs,b1,b2,b3,b4,b5,b6,b7⟩
 ·subst b1;obtain⟨q,h0⟩:=h0 rfl;rw[b2];refine(h0 w).mono ?_
  rintro e w' ⟨rfl,rfl⟩
  exact⟨_,.tup [],_,g,rfl,⟨rfl,[],q,rfl⟩,.tup _ _ _ rfl (fun i av x h=>by simp at h),hI,.refl _ _ _⟩
 ·have hl:(Aj [(1000,HO.arr sz es)] Aa 1000).live:=trivial;have DL:=(hI.loc 1000 b hl b2).1;have Hl:es.length*sz≤vs.size:=by rw[b5];exact Bh _ b3
  have hF:((vs.toList.take (es.length*sz)).toArray).size=es.length*sz:=by simp;omega
  have hH:Holds id w b 0 (vs.toList.take (es.length*sz)).toArray:=fun j hj=>by
   have hj:j<es.length*sz:=by rw[hF]at hj;exact hj
   refine⟨?_,?_⟩
   ·have qS:j<vs.size:=by omega
    simp only[World.cell?,b4,Bi,Option.isSome_none,Cy,Fg];rw[BG qS,DD _ j (by rw[hF];exact hj)];simp
   ·simp[World.frozen?,b4]
  rw[b1];refine(h1 g w b cap _ (by simpa using b6) hF hH DL).mono ?_
  rintro e w' ⟨rfl,F',FD,n,os,f1,f2,f3,f4,f5,rfl⟩
  have pe : F'.size=es.length*sz:=f1.trans hF;have rh:=Np F' vs (by omega);have nG : (grow (putRow id (Sort.ahead w n) b 0 F') os).heap[b]?=some (.cells (putCells id 0 F' vs) E (0,0)):=by
   rw[heap_grow_old _ _ (by rw[size_putRow];exact DL)];show(w.heap.modify b (onCells (putCells id 0 F')))[b]?=_;rw[Array.getElem?_modify,Aw rfl,b4];rfl
  have q8:∀k,k<w.heap.size→k≠b→(grow (putRow id (Sort.ahead w n) b 0 F') os).heap[k]?=w.heap[k]?:=fun k hk DE=>by
   rw[heap_grow_old _ _ (by rw[size_putRow];exact hk)];simp[putRow,mapBlock,Array.getElem?_modify,Ne.symm DE]
  have EK:w.heap.size≤(grow (putRow id (Sort.ahead w n) b 0 F') os).heap.size:=by rw[size_grow,size_putRow];show w.heap.size≤w.heap.size+_;omega
  obtain⟨k1,k2⟩:=hI.upd 1000 (.arr sz FD) (g.ρ 1000) (g.ln 1000) (g.tk 1000) (g.own 1000) g.S (grow (putRow id (Sort.ahead w n) b 0 F') os) (some b) ⟨rfl,rfl,rfl,EK⟩
   (fun k hk DE=>q8 k hk (fun e=>DE (by rw[e]))) (fun b' e=>by cases e;exact⟨hl,b2⟩) (fun _ _ h=>h) (fun _ _ h=>.inl h) (fun b' o e hs=>by cases e;exact absurd hs (b7 o))
   (fun b' _ e=>by rw[b2]at e;cases e;exact⟨BK DL EK,.inl ⟨hl,b2⟩⟩) (by simp) (fun _=>⟨rfl,Ak _,fun _=>rfl,fun _=>rfl⟩) (fun hg hk=>by
    refine⟨by simp[Gh.upd,t1],by simp[Gh.upd,l1,f3],f4,.inr ⟨b,cap,E,_,by simp[Gh.upd,b1,f3],by simp[Gh.upd,b2],by omega,nG,by rw[rh.2,b5],?_,b7⟩⟩
    have:=f5 g w (by simpa using b6)
    rw[f3,←pe,rh.1];exact this.mono hk (fun _ h=>h) (fun _ h=>h.elim))
  rw[SO]at k1 k2;exact⟨_,.tup [],_,_,rfl,⟨rfl,FD,f2,rfl⟩,.tup _ _ _ rfl (fun i av x h=>by simp at h),k1,k2⟩
end
end Go.Eng
namespace Go.Eng
open Go.Sort Go.Proofs
theorem Q0{g:Gh}{w:World}{U:Nat→Prop}{cs YY : List AV}{vs dV : List Value}(h:vs.length=cs.length):CH g w U (cs++YY) (vs++dV)↔CH g w U cs vs∧CH g w U YY dV:=by
 constructor
 ·intro⟨h1,h2,h3⟩;refine⟨⟨h,fun x hx=>h2 x (Bo _ hx),fun i av x q1 q2=>?_⟩,⟨by simp at h1;omega,fun x hx=>h2 x (Bk _ hx),fun i av x q1 q2=>?_⟩⟩
  ·have a1:=(At.1 q1).1;have a2:=(At.1 q2).1;exact h3 i av x (by rw[AX a1];exact q1) (by rw[AX a2];exact q2)
  ·exact h3 (cs.length+i) av x (by rw[A4 (by omega),GP];exact q1) (by rw[A4 (by omega),h,GP];exact q2)
 ·intro⟨⟨h1,h2,h3⟩,k1,k2,k3⟩;refine⟨by simp[h1,k1],fun x hx=>(A8.1 hx).elim (h2 x) (k2 x),fun i av x q1 q2=>?_⟩
  by_cases hi:i<cs.length
  ·rw[AX hi]at q1;rw[AX (by omega)]at q2;exact h3 i av x q1 q2
  ·rw[A4 (by omega)]at q1;rw[A4 (by omega)]at q2;rw[h]at q2;exact k3 _ av x q1 q2
theorem Qb{α β:Type}{g:Gh}{w:World}{U:Nat→Prop}{IF:β→List AV}{enc:α→List Value}(hl:∀x y,(enc x).length=(IF y).length):∀ps:List (β×α),
  CH g w U (ps.map fun p=>IF p.1).flatten (ps.map fun p=>enc p.2).flatten↔∀p∈ps,CH g w U (IF p.1) (enc p.2)
 | []=>by simp[CH]
 |p::ps=>by
  simp only[AN,BA];rw[Q0 (hl _ _),Qb hl ps];simp
theorem Mk{α β:Type}{f:α→β}:∀{m m' : List β},m.Perm m'→∀ps:List α,ps.map f=m→∃iF : List α,iF.Perm ps∧iF.map f=m':=by
 intro m m' h
 induction h with
 |nil=>intro ps e;exact⟨ps,.refl _,e⟩
 |cons x h ih =>
  intro ps e;cases ps with
  |nil=>cases e
  |cons p ps =>
   rw[AN]at e
   injection e with e1 e2
   obtain⟨iF,h1,h2⟩:=ih ps e2;exact⟨p::iF,h1.cons p,by rw[AN,e1,h2]⟩
 |swap x y l =>
  intro ps e
  match ps,e with
  |p::q::ps,e =>
   simp only[AN,Fw]at e;exact⟨q::p::ps,List.Perm.swap _ _ _,by simp[e.1,e.2.1,e.2.2]⟩
 |trans h1 h2 ih1 ih2 =>
  intro ps e;obtain⟨ps1,p1,p2⟩:=ih1 ps e;obtain⟨ps2,q1,q2⟩:=ih2 ps1 p2;exact⟨ps2,q1.trans p1,q2⟩
theorem SB{α:Type}[Inhabited α]{enc:α→List Value}{k:Nat}(hk:∀x,(enc x).length=k)(d:Array α):(flatK enc k d).toList=(d.toList.map enc).flatten:=by
 have hl:∀cs∈d.toList.map enc,cs.length=k:=fun cs hcs=>by
  obtain⟨x,_,rfl⟩:=Al.1 hcs;exact hk x
 have CJ:(d.toList.map enc).flatten.length=d.size*k:=by
  have:∀l:List α,(l.map enc).flatten.length=l.length*k:=fun l=>by
   induction l with
   |nil=>simp
   |cons a l ih=>simp[hk,Nat.succ_mul,ih];omega
  rw[this];simp
 apply CE;intro t
 by_cases ht:t<d.size*k
 ·have k0:0<k:=Nat.pos_of_ne_zero fun h=>by subst h;simp at ht
  have h1:t / k<d.size:=by rw[Lr k0];exact ht
  have h2:t % k<k:=Nat.mod_lt _ k0;have e:t=t / k*k+t % k:=by rw[Nat.mul_comm];exact(Uv t k).symm
  rw[A2,BG (by simpa using ht),←DD _ t (by simpa using ht),get_flatK _ _ _ _ ht];have hg:(d.toList.map enc)[t / k]?=some (enc d[t / k]!):=by
   rw[AI,A2,BG h1,DD d _ h1];rfl
  have:=Fd hl hg h2
  rw[e,this,←e];rw[AA (by rw[hk];exact h2),DD _ _ (by rw[hk];exact h2)]
 ·rw[A6 (by simp;omega),A6 (by omega)]
theorem bD{α β:Type}:∀{l:List α} {m:List β},l.length=m.length→(l.zip m).map (·.1)=l∧(l.zip m).map (·.2)=m
 | [],[],_=>⟨rfl,rfl⟩
 |a::l,b::m,h=>by
  have:=bD (l:=l) (m:=m) (by simpa using h)
  simp[this.1,this.2]
section
variable {P:Program}
theorem Ja{α β:Type}[Inhabited α]{f k:Nat}{rest:List Value}(hE:F2 P f)(IF:β→List AV)(enc:α→List Value)(hB:∀x,(IF x).length=k)(hk:∀x,(enc x).length=k)(lt:α→α→Bool)(R:β→α→Prop)(l:List β)(hl:l.length<4611686018427387904)
  (hR:∀x∈l,∀(g:Gh) (w:World) (vs:List Value),CH g w Fm (IF x) vs→∃a,enc a=vs∧R x a)
  (DF:∀(w:World) (b cap:Nat) (d:Array α),HoldsK enc k w b 0 d→b<w.heap.size→d.size<4611686018427387904→d.size=l.length→Calls P f (#[.slice (some ⟨b,0,none⟩) d.size cap]++rest.toArray) w fun e w' =>
   e=.returned (.tuple #[])∧∃d' n os,PermIn 0 d.size d d'∧SortedIn lt 0 d.size d'∧w'=sortWorldK enc k w b 0 n d' os)
  (qZ:l=[]→∀w:World,Calls P f (#[.slice none 0 0]++rest.toArray) w fun e w'=>e=.returned (.tuple #[])∧w'=w) :
  Be P f (.msl 1000 l.length::rest.map .v) (Aj [(1000,.arr k (l.map IF))] Aa) fun r h' =>
   r=.tup []∧∃l' : List β,l'.Perm l∧(∃al:List α,al.length=l'.length∧(∀(i:Nat) (x:β) (a:α),l'[i]?=some x→al[i]?=some a→R x a)∧al.Pairwise (fun x y=>lt y x=false))∧h'=Aj [(1000,.arr k (l'.map IF))] Aa:=by
 have Hb:=Px (P:=P) (f:=f) (es:=l.map IF) (sz:=k) (rest:=rest)
  (Q:=fun FD=>∃l' : List β,l'.Perm l∧(∃al:List α,al.length=l'.length∧(∀(i:Nat) (x:β) (a:α),l'[i]?=some x→al[i]?=some a→R x a)∧al.Pairwise (fun x y=>lt y x=false))∧FD=l'.map IF) hE ?_ ?_
 ·rw[Bb]at Hb;refine⟨hE,fun g w vals q1 q2 q3=>(Hb.2 g w vals q1 q2 q3).mono fun _ _ ⟨v,r,h',g',e1,⟨e2,FD,⟨l',p1,p2,p3⟩,p4⟩,rest⟩=>⟨v,r,h',g',e1,⟨e2,l',p1,p2,by rw[p4,p3]⟩,rest⟩⟩
 ·intro e
  have:l=[]:=by simpa using e
  subst this;exact⟨⟨[],.refl _,⟨[],rfl,fun i x a h=>by simp at h,.nil⟩,rfl⟩,qZ rfl⟩
 ·intro g w b cap F hr hF hH hb
  -- the elements in memory
  have oa:∀(m:List β) (vs:List Value),(∀x∈m,x∈l)→CH g w Fm (m.map IF).flatten vs→∃al:List α,al.length=m.length∧vs=(al.map enc).flatten∧∀(i:Nat) (x:β) (a:α),m[i]?=some x→al[i]?=some a→R x a:=by
   intro m
   induction m with
   |nil =>
    intro vs _ h
    have:vs=[]:=AC (by simpa using h.1)
    subst this;exact⟨[],rfl,rfl,fun i x a h=>by simp at h⟩
   |cons x m ih =>
    intro vs hm h;rw[AN,BA]at h;have CJ:=h.1;rw[Ad,hB]at CJ;have e:vs=vs.take k++vs.drop k:=(Lq k vs).symm;rw[e]at h;rw[Q0 (by rw[AJ,hB];omega)]at h;obtain⟨a,a1,a2⟩:=hR x (hm x (Ab ..)) g w _ h.1;obtain⟨al,b1,b2,b3⟩:=ih _ (fun y hy=>hm y (Af _ hy)) h.2;refine⟨a::al,by simp[b1],by rw[AN,BA,a1,←b2,←e],fun i y c q1 q2=>?_⟩;cases i with
    |zero=>simp only[A9,Bm]at q1 q2;subst q1;subst q2;exact a2
    |succ i=>exact b3 i y c (by simpa using q1) (by simpa using q2)
  obtain⟨al,s1,s2,s3⟩:=oa l F.toList (fun _ h=>h) hr;have zK:F=flatK enc k al.toArray:=IA.1 (by rw[SB hk,s2]);have hd:HoldsK enc k w b 0 al.toArray:=by unfold HoldsK;rw[←zK];exact hH
  have hc:=DF w b cap al.toArray hd hb (by simpa[s1]using hl) (by simp[s1]);have EK:al.toArray.size=(l.map IF).length:=by simp[s1]
  rw[EK]at hc;refine hc.mono ?_
  rintro e w' ⟨rfl,d',n,os,p1,p2,rfl⟩
  obtain⟨z1,z2⟩:=bD s1.symm;obtain⟨gq,_,IQ⟩:=p1;have gq : d'.size=al.length:=by rw[gq];simp
  have e1:d'.extract 0 (l.map IF).length=d':=by rw[show(l.map IF).length=d'.size by rw[gq];simp[s1]];exact Array.extract_size
  have e2:al.toArray.extract 0 (l.map IF).length=al.toArray:=by rw[←EK];exact Array.extract_size
  rw[e1,e2]at IQ;have IQ:al.Perm d'.toList:=by
   first
   |exact IQ.symm
   |exact IQ
   |(have:=IQ.symm;simpa using this)
  obtain⟨iF,r1,r2⟩:=Mk IQ (l.zip al) z2;have rel:∀p∈l.zip al,R p.1 p.2:=fun p hp=>by
   obtain⟨i,hi⟩:=Ca.1 hp;rw[List.getElem?_zip_eq_some]at hi;exact s3 i _ _ hi.1 hi.2
  refine⟨rfl,flatK enc k d',(iF.map (·.1)).map IF,n,os,by rw[size_flatK,gq,hF];simp[s1],⟨iF.map (·.1),?_,⟨d'.toList,by rw[←r2];simp,fun i x a q1 q2=>?_,?_⟩,rfl⟩,by have:=r1.length_eq;simp[this,s1],fun cs hcs=>?_,fun g w hr=>?_,?_⟩
  ·have:=r1.map (·.1);rw[z1]at this;exact this
  ·rw[←r2]at q2;rw[AI,AZ]at q1 q2;obtain⟨p,q1,rfl⟩:=q1;obtain⟨p',q2,rfl⟩:=q2;rw[q1]at q2;cases q2;exact rel p (r1.mem_iff.1 (Av q1))
  ·rw[A7];intro i j hi hj QL;have LL : i<d'.size:=by simpa using hi
   have nQ : j<d'.size:=by simpa using hj
   have:=p2 i j (AL _) QL (by rw[gq]at nQ;simp[s1]at nQ⊢;omega)
   rw[DD d' j nQ,DD d' i LL]at this;simpa using this
  ·obtain⟨x,_,rfl⟩:=Al.1 hcs;exact hB x
  ·have h1:CH g w Fm ((l.zip al).map fun p=>IF p.1).flatten ((l.zip al).map fun p=>enc p.2).flatten:=by
    have a1:(l.zip al).map (fun p=>IF p.1)=l.map IF:=by
     have:(l.zip al).map (fun p=>IF p.1)=((l.zip al).map (·.1)).map IF:=by rw[BN];rfl
     rw[this,z1]
    have a2:(l.zip al).map (fun p=>enc p.2)=al.map enc:=by
     have:(l.zip al).map (fun p=>enc p.2)=((l.zip al).map (·.2)).map enc:=by rw[BN];rfl
     rw[this,z2]
    rw[a1,a2,←s2];exact hr
   have CJ:∀(x:α) (y:β),(enc x).length=(IF y).length:=fun x y=>by rw[hk,hB]
   rw[Qb CJ]at h1;have h2:=(Qb (g:=g) (w:=w) (U:=Fm) CJ iF).2 fun p hp=>h1 p (r1.mem_iff.1 hp);have b1:(iF.map (·.1)).map IF=iF.map fun p=>IF p.1:=by rw[BN];rfl
   have b2:(flatK enc k d').toList=(iF.map fun p=>enc p.2).flatten:=by
    rw[SB hk,←r2,BN];rfl
   rw[b1,b2];exact h2
  ·rfl
end
end Go.Eng
namespace Go.Eng
section
variable {P:Program}
theorem Co{f:Nat}{fn:Func}{c:Code}{args:List AV}{H0:List (Nat×HO)}{Q:AV→(Nat→HO)→Prop}(cx:Cx)(σ:IU)(hP:cx.P=P)(hT:CB P cx.T)(hm:P.follows .mixedOrders=true)(hx:cx.ext=true)(hf:P.funcs[f]?=some fn)
  (hn : (fn.name == "runtime.NumGoroutine") = false) (hb : fn.body = some c) (hN : args.length ≤ fn.ntmps) (hc : Ew fn.ntmps c = true) (hσ : (GI σ && Ir σ H0) = true)
  (hk:Rf cx c (Xg cx fn.results.toList σ fun r h'=>∃r',Hq r r'∧Q r' h') ⟨Oq args,Aj H0 Aa⟩) (hY:∀l σ g w,cx.yp l σ g w:=by exact fun _ _ _ _=>trivial):Be P f args (Aj H0 Aa) Q :=
 (fI cx σ hP hT hm hx hf hn hb hN hc hσ hk hY).mono fun _ _ ⟨r',s,q⟩=>⟨r',s,q⟩
end
end Go.Eng
namespace Go.Eng
open Go.Sort
theorem CH.append{g:Gh}{w:World}{U:Nat→Prop}{Ua bs:List AV}{xs ys:List Value}(h:CH g w U Ua xs)(k:CH g w U bs ys):CH g w U (Ua++bs) (xs++ys):=by
 refine⟨by rw[Ad,Ad,h.1,k.1],fun x hx=>?_,fun i av x q1 q2=>?_⟩
 ·rcases A8.1 hx with hx | hx
  ·exact h.2.1 x hx
  ·exact k.2.1 x hx
 ·have hl:=h.1
  by_cases hi:i<Ua.length
  ·rw[AX hi]at q1;rw[AX (by omega)]at q2;exact h.2.2 i av x q1 q2
  ·rw[A4 (by omega)]at q1;rw[A4 (by omega),hl]at q2;exact k.2.2 _ av x q1 q2
theorem CH.take{g:Gh}{w:World}{U:Nat→Prop}{Ua:List AV}{xs:List Value}(h:CH g w U Ua xs)(k:Nat):CH g w U (Ua.take k) (xs.take k):=by
 refine⟨by rw[AJ,AJ,h.1],fun x hx=>h.2.1 x (Ev hx),fun i av x q1 q2=>?_⟩;rw[Jz]at q1 q2;split at q1
 ·rename_i hi;rw[Aw hi]at q2;exact h.2.2 i av x q1 q2
 ·cases q1
theorem CH.drop{g:Gh}{w:World}{U:Nat→Prop}{Ua:List AV}{xs:List Value}(h:CH g w U Ua xs)(k:Nat):CH g w U (Ua.drop k) (xs.drop k):=by
 refine⟨by rw[Ar,Ar,h.1],fun x hx=>h.2.1 x (Im hx),fun i av x q1 q2=>?_⟩;rw[BT]at q1 q2;exact h.2.2 _ av x q1 q2
theorem K6{α:Type}{k:Nat}:∀(es:List (List α)) (i:Nat),(∀e∈es,e.length=k)→es.flatten.take (i*k)=(es.take i).flatten
 | [],i,_=>by simp
 |e::es,0,_=>by simp
 |e::es,i+1,h=>by
  have he:=h e (Ab ..);rw[BA,IT,BA,List.take_append,←K6 es i fun x hx=>h x (Af _ hx),AS (by rw[he,D1];omega),he,show(i+1)*k-k=i*k by rw[D1];omega]
theorem OA{α:Type}{k:Nat}:∀(es:List (List α)) (i:Nat),(∀e∈es,e.length=k)→es.flatten.drop (i*k)=(es.drop i).flatten
 | [],i,_=>by simp
 |e::es,0,_=>by simp
 |e::es,i+1,h=>by
  have he:=h e (Ab ..);rw[BA,List.drop_succ_cons,List.drop_append,←OA es i fun x hx=>h x (Af _ hx),Hi (by rw[he,D1];omega),he,show(i+1)*k-k=i*k by rw[D1];omega,Ei]
section
variable {P:Program}
theorem Ux{f:Nat}{es:List (List AV)}{sz:Nat}{rest:List Value}{n' : Nat}{Q:List (List AV)→Prop}(hE:F2 P f)(DE:es≠[])(XG : n'≤es.length)
  (h1:∀(g:Gh) (w:World) (b cap:Nat) (F:Array Value),CH g w Fm es.flatten F.toList→F.size=es.length*sz→Holds id w b 0 F→b<w.heap.size→es.length≤cap→Calls P f (#[.slice (some ⟨b,0,none⟩) es.length cap]++rest.toArray) w fun e w' =>
   e=.returned (.slice (some ⟨b,0,none⟩) n' cap)∧∃(F' : Array Value) (FD : List (List AV)) (n:Nat) (os:Array Obj),F'.size=F.size∧Q FD∧FD.length=es.length∧(∀cs∈FD,cs.length=sz) ∧
    (∀(g:Gh) (w:World),CH g w Fm es.flatten F.toList→CH g w Fm FD.flatten F'.toList)∧w'=grow (putRow id (Sort.ahead w n) b 0 F') os) :
  Be P f (.msl 1000 es.length::rest.map .v) (Aj [(1000,.arr sz es)] Aa) fun r h'=>r=.msl 2000 n'∧∃FD,Q FD∧h'=Aj [(1000,.dead),(2000,.arr sz (FD.take n'))] Aa:=by
 refine⟨hE,fun g w us hs hv hI=>?_⟩;have ho:=hI.objs 1000;have he:Aj [(1000,HO.arr sz es)] Aa 1000=.arr sz es:=rfl;rw[he]at ho;obtain⟨t1,l1,al,a2⟩:=ho;simp only[Au,Bb]at hs;have vS:0<us.size:=by omega
 have cz:=hv 0 (.msl 1000 es.length) us[0] rfl (BG vS);have JE:us[0]=g.ρ 1000:=by
  generalize us[0]=x at cz;cases cz with
  |msl _ r n a cap hu ht hn ha hx=>exact hx l1.symm
 have K9:us=#[g.ρ 1000]++rest.toArray:=by
  refine Array.ext (by simp;omega) fun i h1 h2=>?_;cases i with
  |zero=>rw[JE];simp
  |succ i =>
   have hi:i<rest.length:=by omega
   have:=hv (i+1) (.v rest[i]) us[i+1] (by simp[List.getElem?_eq_getElem hi]) (BG h1)
   rw[this.v_eq];simp
 rw[K9];rcases a2 with ⟨b1,b2,b3⟩ | ⟨b,cap,E,vs,b1,b2,b3,b4,b5,b6,b7⟩
 ·exact absurd b1 DE
 ·have hl:(Aj [(1000,HO.arr sz es)] Aa 1000).live:=trivial;have DL:=(hI.loc 1000 b hl b2).1;have Hl:es.length*sz≤vs.size:=by rw[b5];exact Bh _ b3
  have hF:((vs.toList.take (es.length*sz)).toArray).size=es.length*sz:=by simp;omega
  have hH:Holds id w b 0 (vs.toList.take (es.length*sz)).toArray:=fun j hj=>by
   have hj:j<es.length*sz:=by rw[hF]at hj;exact hj
   refine⟨?_,?_⟩
   ·have qS:j<vs.size:=by omega
    simp only[World.cell?,b4,Bi,Option.isSome_none,Cy,Fg];rw[BG qS,DD _ j (by rw[hF];exact hj)];simp
   ·simp[World.frozen?,b4]
  rw[b1];refine(h1 g w b cap _ (by simpa using b6) hF hH DL b3).mono ?_
  rintro e w' ⟨rfl,F',FD,n,os,f1,f2,f3,f4,f5,rfl⟩
  have pe : F'.size=es.length*sz:=f1.trans hF;have rh:=Np F' vs (by omega);have nG : (grow (putRow id (Sort.ahead w n) b 0 F') os).heap[b]?=some (.cells (putCells id 0 F' vs) E (0,0)):=by
   rw[heap_grow_old _ _ (by rw[size_putRow];exact DL)];show(w.heap.modify b (onCells (putCells id 0 F')))[b]?=_;rw[Array.getElem?_modify,Aw rfl,b4];rfl
  have q8:∀k,k<w.heap.size→k≠b→(grow (putRow id (Sort.ahead w n) b 0 F') os).heap[k]?=w.heap[k]?:=fun k hk DE=>by
   rw[heap_grow_old _ _ (by rw[size_putRow];exact hk)];simp[putRow,mapBlock,Array.getElem?_modify,Ne.symm DE]
  have EK:w.heap.size≤(grow (putRow id (Sort.ahead w n) b 0 F') os).heap.size:=by rw[size_grow,size_putRow];show w.heap.size≤w.heap.size+_;omega
  obtain⟨k1,k2⟩:=hI.upd 1000 (.arr sz FD) (g.ρ 1000) (g.ln 1000) (g.tk 1000) (g.own 1000) g.S (grow (putRow id (Sort.ahead w n) b 0 F') os) (some b) ⟨rfl,rfl,rfl,EK⟩
   (fun k hk DE=>q8 k hk (fun e=>DE (by rw[e]))) (fun b' e=>by cases e;exact⟨hl,b2⟩) (fun _ _ h=>h) (fun _ _ h=>.inl h) (fun b' o e hs=>by cases e;exact absurd hs (b7 o))
   (fun b' _ e=>by rw[b2]at e;cases e;exact⟨BK DL EK,.inl ⟨hl,b2⟩⟩) (by simp) (fun _=>⟨rfl,Ak _,fun _=>rfl,fun _=>rfl⟩) (fun hg hk=>by
    refine⟨by simp[Gh.upd,t1],by simp[Gh.upd,l1,f3],f4,.inr ⟨b,cap,E,_,by simp[Gh.upd,b1,f3],by simp[Gh.upd,b2],by omega,nG,by rw[rh.2,b5],?_,b7⟩⟩
    have:=f5 g w (by simpa using b6)
    rw[f3,←pe,rh.1];exact this.mono hk (fun _ h=>h) (fun _ h=>h.elim))
  rw[SO]at k1 k2;generalize mf : g.upd 1000 (g.ρ 1000) (g.ln 1000) (g.tk 1000) (g.own 1000) g.S=g' at k1 k2;have mj : g'.own 1000=some b:=by rw[←mf];simp[Gh.upd,b2]
  have q9:=k1.objs 1000;have js:Aj [(1000,HO.arr sz FD)] Aa 1000=.arr sz FD:=rfl;rw[js]at q9;obtain⟨m1,m2,m3,m4⟩:=q9;have hρ:g'.ρ 1000=.slice (some ⟨b,0,none⟩) es.length cap:=by rw[←mf];simp[Gh.upd,b1]
  have vo : FD≠[]:=fun e=>DE (AC (by rw[←f3,e];rfl));rcases m4 with ⟨m4,_⟩ | ⟨b',LE,E',dV,c1,c2,c3,c4,c5,c6,c7⟩
  ·exact absurd m4 vo
  ·rw[hρ]at c1;simp only[Value.slice.injEq,Bm,Addr.mk.injEq,and_true]at c1;obtain⟨zn,c1b,zo⟩:=c1;subst zn;subst zo;have ga : (FD.take n').length=n':=by rw[AJ];omega
   obtain⟨k3,k4⟩:=k1.move 1000 2000 (by decide) rfl trivial mj (.arr sz (FD.take n')) (.slice (some ⟨b,0,none⟩) n' cap) n' true (by simp) (fun hk=>by
    refine⟨by simp[Gh.upd],by simp[Gh.upd,ga],fun cs hcs=>m3 cs (Ev hcs),.inr ⟨b,cap,E',dV,by simp[Gh.upd,ga],by simp[Gh.upd],by omega,c4,c5,?_,c7⟩⟩
    have:=(c6.mono hk (fun _ h=>h) (fun _ h=>h.elim)).take (n'*sz)
    rw[K6 FD n' m3,Km,Nat.min_eq_left (Bh _ (by omega))]at this;rw[ga];exact this)
   have qP:AW (AW (Aj [(1000,HO.arr sz FD)] Aa) 1000 .dead) 2000 (.arr sz (FD.take n'))=Aj [(1000,.dead),(2000,.arr sz (FD.take n'))] Aa:=by
    funext i
    by_cases e1:i=2000
    ·subst e1;rw[Bd];rfl
    ·rw[BZ _ _ _ _ e1]
     by_cases e2:i=1000
     ·subst e2;rw[Bd];rfl
     ·rw[BZ _ _ _ _ e2];simp[Aj,CM e1,CM e2]
   rw[qP]at k3 k4;exact⟨_,.msl 2000 n',_,_,rfl,⟨rfl,FD,f2,rfl⟩,.msl _ 2000 n' (some ⟨b,0,none⟩) cap (by intro c;cases c) (by simp[Gh.upd]) (by simp[Gh.upd]) (.inr ⟨b,rfl⟩) (fun _=>by simp[Gh.upd]),k3,k2.trans k4⟩
end
end Go.Eng
namespace Go.Eng
def fo(a b:Fv):Bool :=
 (match a.2 with | some r=>!II b.1 r | none=>true)&&(match b.2 with | some r=>!II a.1 r | none=>true)
def Py(ops:Array Oper)(oi:Oper)(fi:Fv)(D:List Nat)(k:Nat):List Oper→List Fv→Bool
 |o::r,f::fs=>(II D k||(oi.apart ops o&&fo fi f))&&Py ops oi fi D (k+1) r fs
 | [],[]=>true
 |_,_=>false
def US(ops:Array Oper)(all:List Oper)(k:Nat):List Oper→List Fv→Bool
 |o::r,f::fs =>
  let D:=PF k [] 0 all
  (o.after.toList.all fun e=>!Region.binds .any e||Nat.blt e.on k)&&TP k D 0 all&&(D.all fun j=>Nat.blt k j&&Nat.blt j all.length)&&Py ops o f D (k+1) r fs&&US ops all (k+1) r fs
 | [],[]=>true
 |_,_=>false
def ao(ops:Array Oper)(fs:List Fv):Bool:=Region.noSelect ops&&US ops ops.toList 0 ops.toList fs
def Qf(f:Fv):Prop:=∀r,f.2=some r→r<10000000
def RI:List Fv→Prop
 | []=>True
 |f::r=>Qf f∧RI r
theorem A1(l:List Nat):Qf (l,none):=fun _ h=>by cases h
theorem Ea{l:List Nat}{r:Nat}(h:r<10000000):Qf (l,some r):=fun _ e=>by cases e;exact h
theorem fp{a b:Fv}(ha:Qf a)(hb:Qf b)(h:fo a b=true):Sp a b=true:=by
 obtain⟨a1,a2⟩:=a;obtain⟨b1,b2⟩:=b;unfold fo at h;unfold Sp;rw[Ag]at h⊢;refine⟨?_,?_⟩
 ·cases a2 with
  |none=>rfl
  |some r =>
   have h1:(!II b1 r)=true:=h.1;show Ya b1 r=true;unfold Ya;rw[CM (show r≠VL by have:=ha r rfl;unfold VL;omega),Er,h1,show Nat.blt r 10000000=true by rw[Cm];exact ha r rfl];rfl
 ·cases b2 with
  |none=>rfl
  |some r =>
   have h1:(!II a1 r)=true:=h.2;show Ya a1 r=true;unfold Ya;rw[CM (show r≠VL by have:=hb r rfl;unfold VL;omega),Er,h1,show Nat.blt r 10000000=true by rw[Cm];exact hb r rfl];rfl
theorem UA{ops:Array Oper}{oi:Oper}{fi:Fv}{D:List Nat}(hi:Qf fi):∀{l:List Oper} {fs:List Fv} {k:Nat},RI fs→Py ops oi fi D k l fs=true→Io ops oi fi D k l fs=true
 | [],[],_,_,h=>h
 |o::r,f::fs,k,hs,h=>by
  unfold Py at h;unfold Io;rw[Ag,CG,Ag]at h⊢;exact⟨h.1.imp id (fun q=>⟨q.1,fp hi hs.1 q.2⟩),UA hi hs.2 h.2⟩
 | [],_::_,_,_,h=>by simp[Py]at h
 |_::_,[],_,_,h=>by simp[Py]at h
theorem Xd{ops:Array Oper}{all:List Oper}:∀{l:List Oper} {fs:List Fv} {k:Nat},RI fs→US ops all k l fs=true→LY ops all k l fs=true
 | [],[],_,_,h=>h
 |o::r,f::fs,k,hs,h=>by
  unfold US at h;unfold LY;simp only[Ag]at h⊢;exact⟨⟨h.1.1,UA hs.1 hs.2 h.1.2⟩,Xd hs.2 h.2⟩
 | [],_::_,_,_,h=>by simp[US]at h
 |_::_,[],_,_,h=>by simp[US]at h
theorem IX{ops:Array Oper}{fs:List Fv}(hs:RI fs)(h:ao ops fs=true):Sq ops fs=true:=by
 unfold ao at h;unfold Sq;rw[Ag]at h⊢;exact⟨h.1,Xd hs h.2⟩
theorem QB{cx:Cx}{d:Option Nat}{h:Nat→HO}{ty e m:Nat}{r:Nat}{es es2:List (List AV)}{x:AV}{K:HK}(vR:(cx.T ty).d=.slice e)(hz:Nat.beq (cx.T e).zc.length (cx.T e).size=true)(EK:(cx.T e).size=m+1)
  (hx:∀K' : List (List AV)→Prop,K' es2→K4 h x K') (hr:h r=.tok (m+1) es.length) (hl:Dn (m+1) es2) (hb:(es.length+es2.length)*(cx.T e).bytes≤140737488355328) (hc:es.length+es2.length≤9223372036854775807)
  (hk:K (.slice (.id r (m+1)) (es++es2)) (AW h r (.tok (m+1) (es.length+es2.length)))):Ie cx d h ty (.slice (.id r (m+1)) es) x K:=by
 have hq:Nat.beq (m+1) (m+1)=true:=CY _;unfold Ie;rw[vR];rw[EK]at hz;simp only[EK,hz];refine hx _ ?_;simp only[hr,hq];exact⟨⟨hl,trivial,hb,hc⟩,hk⟩
theorem QA{cx:Cx}{d:Nat}{h:Nat→HO}{ty e m:Nat}{es2:List (List AV)}{x:AV}{K:HK}(vR:(cx.T ty).d=.slice e)(hz:Nat.beq (cx.T e).zc.length (cx.T e).size=true)(EK:(cx.T e).size=m+1)
  (hx:∀K' : List (List AV)→Prop,K' es2→K4 h x K') (hr:h (Kv cx d)=.free) (ha:GD cx.pl.arr d=none) (hl:Dn (m+1) es2) (hb:es2.length*(cx.T e).bytes≤140737488355328) (hc:es2.length≤9223372036854775807)
  (hk:K (.slice (.id (Kv cx d) (m+1)) es2) (AW h (Kv cx d) (.tok (m+1) es2.length))):Ie cx (some d) h ty (.v (.slice none 0 0)) x K:=by
 unfold Ie;rw[vR];rw[EK]at hz;simp only[EK,hz];refine hx _ ?_;refine⟨⟨EK▸hl,hb,hc⟩,?_⟩;unfold EC;simp only[hr,ha];exact hk
end Go.Eng
namespace Go.Eng
open Go.RowKit
section
variable {P:Program}
end
end Go.Eng
namespace Go.Eng
def VV:Obj→Bool
 |.cells ..=>false
 |.map ..=>false
 |.mapIter ..=>false
 |.loop r=>!Og [] r.body
 |_=>true
structure aa(n0 x:Nat)(w:World)(g:Gh)(h:Nat→HO)(w' : World)(g' : Gh)(h' : Nat→HO):Prop where
 os:w'.os=w.os
 tape:w'.tape=w.tape
 output:w'.output=w.output
 size:w.heap.size≤w'.heap.size
 frame:∀b,b<n0→b≠x→(∀r,(h r).live→g.own r≠some b)→w'.heap[b]?=w.heap[b]?
 loc:∀r b,(h' r).live→g'.own r=some b→n0≤b∨∃r',(h r').live∧g.own r'=some b
 sg:∀b o,g'.S b o→g.S b o∨n0≤b∨∃r',(h r').live∧g.own r'=some b
 le:Le h g w h' g' w'
section
variable {P:Program}{N:Nat}{ds:List Deferred}{n0 x:Nat}{w w' w1 w2:World}{g g' g1 g2:Gh}{h h' h1 h2:Nat→HO}
theorem aa.trans(a:aa n0 x w g h w1 g1 h1)(b:aa n0 x w1 g1 h1 w2 g2 h2):aa n0 x w g h w2 g2 h2 where
 os:=b.os.trans a.os
 tape:=b.tape.trans a.tape
 output:=b.output.trans a.output
 size:=AU a.size b.size
 frame c hc hx hn:=(b.frame c hc hx fun r hl e=>by
  rcases a.loc r c hl e with h | ⟨r',h1,h2⟩
  ·omega
  ·exact hn r' h1 h2).trans (a.frame c hc hx hn)
 loc r c hl e:=by
  rcases b.loc r c hl e with h | ⟨r',h1,h2⟩
  ·exact .inl h
  ·exact a.loc r' c h1 h2
 sg c o hs:=by
  rcases b.sg c o hs with h | h | ⟨r',h1,h2⟩
  ·exact a.sg c o h
  ·exact .inr (.inl h)
  ·rcases a.loc r' c h1 h2 with h | h
   ·exact .inr (.inl h)
   ·exact .inr (.inr h)
 le:=a.le.trans b.le
theorem aa.of_inv(hI:DM w g h h' g' w')(hL:Le h g w h' g' w')(hn:n0≤w.heap.size):aa n0 x w g h w' g' h' where
 os:=hI.os
 tape:=hI.tape
 output:=hI.output
 size:=hI.size
 frame c hc _ XG:=hI.frame c (by omega) XG
 loc r c hl e:=by
  rcases(hI.loc r c hl e).2 with h | h
  ·exact .inl (by omega)
  ·exact .inr h
 sg c o hs:=by
  rcases hI.sg c o hs with h | h | h
  ·exact .inl h
  ·exact .inr (.inl (by omega))
  ·exact .inr (.inr h)
 le:=hL
theorem DM.base(hI:DM w g h h' g' w'):DM w' g' h' h' g' w' where
 os:=rfl
 tape:=rfl
 output:=rfl
 size:=Ak _
 frame _ _ _:=rfl
 slt:=hI.slt
 objs:=hI.objs
 inj:=hI.inj
 loc r b hl e:=⟨(hI.loc r b hl e).1,.inr ⟨r,hl,e⟩⟩
 sg _ _ hs:=.inl hs
 glob:=hI.glob
theorem DM.of_seg(hI:DM w' g' h' h' g' w')(s:aa w.heap.size x w g h w' g' h')(hx:x<w.heap.size→w'.heap[x]?=w.heap[x]?):DM w g h h' g' w' where
 os:=s.os
 tape:=s.tape
 output:=s.output
 size:=s.size
 frame b hb hn:=by
  by_cases e:b=x
  ·subst e;exact hx hb
  ·exact s.frame b hb e hn
 slt:=hI.slt
 objs:=hI.objs
 inj:=hI.inj
 loc r b hl e:=⟨(hI.loc r b hl e).1,s.loc r b hl e⟩
 sg:=s.sg
 glob:=hI.glob
theorem OY{U:Nat→Prop}{r b:Nat}{o:HO}{ob:Obj}(ho:Ej g w U r o)(hl:o.live)(e:g.own r=some b)(hb:w.heap[b]?=some ob)(hd:VV ob=true):False:=by
 cases o with
 |free=>exact hl
 |dead=>exact hl
 |ro cs=>exact hl
 |rom sh B4=>exact hl
 |cells cs =>
  obtain⟨_,b',E,vs,h1,_,h3,_⟩:=ho;rw[e]at h1;cases h1;rw[hb]at h3;cases h3;cases hd
 |tok sz n =>
  obtain⟨_,_,a,cap,_,(⟨_,h1⟩ | ⟨_,b',E,vs,off,_,h1,h3,_⟩)⟩:=ho
  ·rw[e]at h1;cases h1
  ·rw[e]at h1;cases h1;rw[hb]at h3;cases h3;cases hd
 |vox v=>exact hl
 |hol sz es i c av =>
  obtain⟨_,_,_,b',cap,E,vs,_,h1,_,h3,_⟩:=ho;rw[e]at h1;cases h1;rw[hb]at h3;cases h3;cases hd
 |raw b' aS =>
  obtain⟨_,h1,h2,h3,_⟩:=ho;rw[e]at h1;cases h1;rw[hb]at h2;cases h2;cases ob<;>simp[VV,pQ]at hd h3
  rw[hd]at h3;cases h3
 |var sz v n =>
  obtain⟨_,_,a,cap,_,(⟨_,h1⟩ | ⟨_,b',E,vs,off,_,h1,h3,_⟩)⟩:=ho
  ·rw[e]at h1;cases h1
  ·rw[e]at h1;cases h1;rw[hb]at h3;cases h3;cases hd
 |arr sz es =>
  obtain⟨_,_,_,(⟨_,_,h1⟩ | ⟨b',cap,E,vs,_,h1,_,h3,_⟩)⟩:=ho
  ·rw[e]at h1;cases h1
  ·rw[e]at h1;cases h1;rw[hb]at h3;cases h3;cases hd
 |map sh B4 =>
  obtain⟨_,b',es,ck,h1,_,h3,_⟩:=ho;rw[e]at h1;cases h1;rw[hb]at h3;cases h3;cases hd
 |mapU sh B4 =>
  obtain⟨_,b',es,ck,h1,_,h3,_⟩:=ho;rw[e]at h1;cases h1;rw[hb]at h3;cases h3;cases hd
 |iter all rem FC =>
  obtain⟨_,b',mb,JV,seen,st,es,ck,h1,_,h3,_⟩:=ho;rw[e]at h1;cases h1;rw[hb]at h3;cases h3;cases hd
theorem DM.dullS(hI:DM w g h h g w)(ho:w'.os=w.os∧w'.tape=w.tape∧w'.output=w.output)(EK:w.heap.size≤w'.heap.size)
  (hb:∀b,b<w.heap.size→w'.heap[b]?=w.heap[b]?∨∃o o',w.heap[b]?=some o∧w'.heap[b]?=some o'∧VV o=true∧VV o'=true)
  (hn:∀b,b<n0→b≠x→w'.heap[b]?=w.heap[b]?):DM w' g h h g w'∧aa n0 x w g h w' g h:=by
 have hk:E2 g w g w':=fun b o hs=>by
  refine⟨hs,?_⟩;rcases hb b (hI.slt b o hs)with e | ⟨ob,aS,e1,e2,d1,d2⟩
  ·exact⟨by simp only[World.cell?,e],fun es ck he=>e.trans he⟩
  ·refine⟨?_,fun es ck he=>?_⟩
   ·simp only[World.cell?,e1,e2];cases ob<;>cases aS<;>first | rfl | (cases d1;done) | (cases d2;done)
   ·rw[e1]at he;cases he;cases d1
 have Wf:∀r b,(h r).live→g.own r=some b→w'.heap[b]?=w.heap[b]?:=fun r b hl e=>by
  rcases hb b (hI.loc r b hl e).1 with e' | ⟨ob,aS,e1,_,d1,_⟩
  ·exact e'
  ·exact(OY (hI.objs r) hl e e1 d1).elim
 refine⟨⟨rfl,rfl,rfl,Ak _,fun _ _ _=>rfl,fun b o hs=>BK (hI.slt b o hs) EK,fun r=>?_,hI.inj,fun r b hl e=>⟨BK (hI.loc r b hl e).1 EK,.inr ⟨r,hl,e⟩⟩,fun _ _ hs=>.inl hs,hI.glob.keep hk⟩,⟨ho.1,ho.2.1,ho.2.2,EK,fun b nG hx _=>hn b nG hx,fun r b hl e=>.inr ⟨r,hl,e⟩,fun _ _ hs=>.inl hs,⟨.refl _ _,fun _ h=>h,hk⟩⟩⟩;exact(hI.objs r).same hk (fun _ h=>h) (.refl _ _) rfl rfl rfl rfl fun b hl e=>⟨Wf r b hl e,fun _ h=>h⟩
theorem DM.put(hI:DM w g h h g w){l:Nat}{o o' : Obj}(hl:w.heap[l]?=some o)(hd:VV o=true)(kr : VV o'=true)(hx:n0≤l∨l=x) :
  DM (w.putObj l o') g h h g (w.putObj l o')∧aa n0 x w g h (w.putObj l o') g h:=by
 have DL:l<w.heap.size:=(Bz.1 hl).1;refine hI.dullS ⟨rfl,rfl,rfl⟩ (by simp[World.putObj]) (fun b _=>?_) (fun b hb DE=>?_)
 ·by_cases e:b=l
  ·subst e;exact .inr ⟨o,o',hl,World.putObj_heap_same DL,hd,kr⟩
  ·exact .inl (World.putObj_heap_other e)
 ·refine World.putObj_heap_other fun e=>?_;rcases hx with h | h
  ·omega
  ·exact DE (e.trans h)
theorem DM.allocS(hI:DM w g h h g w)(o:Obj)(hn:n0≤w.heap.size):DM (w.alloc o) g h h g (w.alloc o)∧aa n0 x w g h (w.alloc o) g h:=by
 refine hI.dullS ⟨rfl,rfl,rfl⟩ (by rw[World.size_alloc];omega) (fun b hb=>.inl (heap_alloc_old _ _ hb)) (fun b hb _=>heap_alloc_old _ _ (by omega))
end
end Go.Eng
