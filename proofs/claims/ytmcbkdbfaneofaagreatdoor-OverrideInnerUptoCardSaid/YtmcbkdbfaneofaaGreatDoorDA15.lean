/- Lemmas for the claims of this seat, without a condition: part 15 (Tab, EngZG, EngZH, EngZI, EngZJ, EngZK, EngZM, EngZN, EngZO). -/
import Derived.Test.YtmcbkdbfaneofaaGreatDoorDA14
import Derived.Test.YtmcbkdbfaneofaaGreatDoorProg
import Derived.Sort.Grow
import Derived.Shelf.GgSortFunc.InsertionK
import Derived.Below
import Derived.RangeFuncLeaves
import Derived.RangeFuncNested
namespace Go.Eng
open Go.Proofs
abbrev wP:TI := iv
abbrev tF:TI := ⟨.func,1,8,.nilFunc,true⟩
abbrev tI:TI := ⟨.int .i64,1,8,.int .i64 0,true⟩
abbrev tP(n:Nat):TI := ⟨.ptr n,1,8,.pointer none,true⟩
abbrev tS(n:Nat):TI := ⟨.slice n,1,24,.slice none 0 0,true⟩
def gx{α:Type}(d:α):List α → Nat → α
 | [],_ => d
 |a::r,n => match n with |0 => a |n + 1 => gx d r n
def wd:List TI := [⟨.other,1,0,(.tuple #[]),true⟩,tF,tI,tI,⟨.bool,1,1,(.bool .false),true⟩,⟨.int .u8,1,1,(.int .u8 0),true⟩,⟨.int .u8,1,1,(.int .u8 0),true⟩,⟨.struct [(2,0),(3,1),(4,2),(6,3)],4,24,(.agg #[.int .i64 0,.int .i64 0,.bool .false,.int .u8 0]),true⟩,⟨.struct [(2,0),(3,1),(4,2),(6,3)],4,24,(.agg #[.int .i64 0,.int .i64 0,.bool .false,.int .u8 0]),true⟩,⟨.string,1,16,(.string ⟨#[]⟩),true⟩,⟨.string,1,16,(.string ⟨#[]⟩),true⟩,⟨.string,1,16,(.string ⟨#[]⟩),true⟩,⟨.int .u64,1,8,(.int .u64 0),true⟩,⟨.struct [(9,0),(12,1)],2,24,(.agg #[.string ⟨#[]⟩,.int .u64 0]),false⟩,⟨.struct [(9,0),(12,1)],2,24,(.agg #[.string ⟨#[]⟩,.int .u64 0]),false⟩,tP 314]
def we:List TI := [tP 317,tP 326,⟨.struct [(17,0)],1,8,(.agg #[.pointer none]),false⟩,⟨.struct [(17,0)],1,8,(.agg #[.pointer none]),false⟩,⟨.iface,1,16,.nilIface,true⟩,⟨.int .i32,1,4,(.int .i32 0),true⟩,tS 45,tS 86,⟨.struct [(22,0),(23,1)],2,48,(.agg #[.slice none 0 0,.slice none 0 0]),true⟩,⟨.struct [(22,0),(23,1)],2,48,(.agg #[.slice none 0 0,.slice none 0 0]),true⟩,tS 51,⟨.struct [(22,0),(26,1),(26,2)],3,72,(.agg #[.slice none 0 0,.slice none 0 0,.slice none 0 0]),true⟩,⟨.struct [(22,0),(26,1),(26,2)],3,72,(.agg #[.slice none 0 0,.slice none 0 0,.slice none 0 0]),true⟩,tF,tF,tI]
def wg:List TI := [⟨.other,1,0,(.tuple #[.agg #[.slice none 0 0,.slice none 0 0],.int .i64 0]),true⟩,tF,tF,tF,tF,⟨.other,1,0,(.tuple #[.agg #[.slice none 0 0,.slice none 0 0,.slice none 0 0],.int .i64 0]),true⟩,tF,tF,tF,⟨.struct [(3,0),(3,1),(3,2)],3,24,(.agg #[.int .i64 0,.int .i64 0,.int .i64 0]),true⟩,⟨.struct [(3,0),(3,1),(3,2)],3,24,(.agg #[.int .i64 0,.int .i64 0,.int .i64 0]),true⟩,tS 66,⟨.struct [(9,0),(42,1),(43,4),(9,5),(9,6),(9,7),(4,8)],9,120,(.agg #[.string ⟨#[]⟩,.int .i64 0,.int .i64 0,.int .i64 0,.slice none 0 0,.string ⟨#[]⟩,.string ⟨#[]⟩,.string ⟨#[]⟩,.bool .false]),true⟩,⟨.struct [(9,0),(42,1),(43,4),(9,5),(9,6),(9,7),(4,8)],9,120,(.agg #[.string ⟨#[]⟩,.int .i64 0,.int .i64 0,.int .i64 0,.slice none 0 0,.string ⟨#[]⟩,.string ⟨#[]⟩,.string ⟨#[]⟩,.bool .false]),true⟩,tF,tF]
def wh:List TI := [tF,tF,⟨.struct [(9,0),(42,1)],4,40,(.agg #[.string ⟨#[]⟩,.int .i64 0,.int .i64 0,.int .i64 0]),true⟩,⟨.struct [(9,0),(42,1)],4,40,(.agg #[.string ⟨#[]⟩,.int .i64 0,.int .i64 0,.int .i64 0]),true⟩,tF,tF,tF,⟨.other,1,0,(.tuple #[.slice none 0 0,.int .i64 0]),true⟩,tF,⟨.other,1,0,(.tuple #[.agg #[.string ⟨#[]⟩,.int .i64 0,.int .i64 0,.int .i64 0,.slice none 0 0,.string ⟨#[]⟩,.string ⟨#[]⟩,.string ⟨#[]⟩,.bool .false],.bool .false]),true⟩,tF,tF,tF,⟨.struct [(3,0),(3,1)],2,16,(.agg #[.int .i64 0,.int .i64 0]),true⟩,⟨.struct [(3,0),(3,1)],2,16,(.agg #[.int .i64 0,.int .i64 0]),true⟩,tS 62]
def wi:List TI := [tS 62,⟨.struct [(9,0),(64,1)],2,40,(.agg #[.string ⟨#[]⟩,.slice none 0 0]),true⟩,⟨.struct [(9,0),(64,1)],2,40,(.agg #[.string ⟨#[]⟩,.slice none 0 0]),true⟩,tS 72,⟨.other,1,0,(.tuple #[.slice none 0 0,.int .i64 0]),true⟩,tF,tF,⟨.struct [(9,0),(3,1),(3,2)],3,32,(.agg #[.string ⟨#[]⟩,.int .i64 0,.int .i64 0]),true⟩,⟨.struct [(9,0),(3,1),(3,2)],3,32,(.agg #[.string ⟨#[]⟩,.int .i64 0,.int .i64 0]),true⟩,tF,tF,tF,tF,tF,tF,tF]
def wj:List TI := [tF,tS 333,tS 335,tS 337,tS 339,⟨.struct [(9,0),(81,1),(82,2),(83,3),(84,4)],5,112,(.agg #[.string ⟨#[]⟩,.slice none 0 0,.slice none 0 0,.slice none 0 0,.slice none 0 0]),true⟩,⟨.struct [(9,0),(81,1),(82,2),(83,3),(84,4)],5,112,(.agg #[.string ⟨#[]⟩,.slice none 0 0,.slice none 0 0,.slice none 0 0,.slice none 0 0]),true⟩,tF,⟨.other,1,0,(.tuple #[.agg #[.string ⟨#[]⟩,.int .i64 0,.int .i64 0,.int .i64 0],.bool .false]),true⟩,tF,tF,tF,tF,tF,tF,tF]
def wk:List TI := [tS 28,tF,tF,tF,tF,tF,tF,tF,tF,tS 201,tS 181,⟨.struct [(4,0),(26,1),(105,2),(106,3)],4,80,(.agg #[.bool .false,.slice none 0 0,.slice none 0 0,.slice none 0 0]),true⟩,⟨.struct [(4,0),(26,1),(105,2),(106,3)],4,80,(.agg #[.bool .false,.slice none 0 0,.slice none 0 0,.slice none 0 0]),true⟩,⟨.other,1,0,(.tuple #[.agg #[.bool .false,.slice none 0 0,.slice none 0 0,.slice none 0 0],.int .i64 0]),true⟩,tF,⟨.map 51 45,1,8,(.map none),true⟩]
def wl:List TI := [⟨.map 9 22,1,8,(.map none),true⟩,⟨.struct [(111,0),(112,1)],2,16,(.agg #[.map none,.map none]),true⟩,⟨.struct [(111,0),(112,1)],2,16,(.agg #[.map none,.map none]),true⟩,⟨.other,1,0,(.tuple #[.agg #[.map none,.map none],.int .i64 0]),true⟩,tF,tF,tF,tF,tF,tF,tF,tF,⟨.other,1,0,(.tuple #[.string ⟨#[]⟩,.int .i64 0,.int .i64 0]),true⟩,tF,tF,tF]
def wm:List TI := [tF,tS 9,tF,tP 142,tF,⟨.other,1,0,(.tuple #[.int .i64 0,.bool .false]),true⟩,tF,⟨.map 9 139,1,8,(.map none),true⟩,⟨.map 9 64,1,8,(.map none),true⟩,tS 179,⟨.map 201 3,1,8,(.map none),true⟩,tS 162,tS 106,⟨.struct [(43,0),(135,1),(136,2),(105,3),(137,4),(138,5),(4,6),(139,7),(26,8),(140,9)],10,176,(.agg #[.slice none 0 0,.map none,.map none,.slice none 0 0,.slice none 0 0,.map none,.bool .false,.slice none 0 0,.slice none 0 0,.slice none 0 0]),true⟩,⟨.struct [(43,0),(135,1),(136,2),(105,3),(137,4),(138,5),(4,6),(139,7),(26,8),(140,9)],10,176,(.agg #[.slice none 0 0,.map none,.map none,.slice none 0 0,.slice none 0 0,.map none,.bool .false,.slice none 0 0,.slice none 0 0,.slice none 0 0]),true⟩,tF]
def wo:List TI := [⟨.map 9 3,1,8,(.map none),true⟩,⟨.other,1,0,(.tuple #[.map none,.bool .false]),true⟩,tF,tF,tF,tF,tF,tS 3,⟨.array 3 3,3,24,(.agg #[.int .i64 0,.int .i64 0,.int .i64 0]),true⟩,tF,tF,⟨.other,1,0,(.tuple #[.int .i64 0,.int .i64 0]),true⟩,tF,tF,tP 66,tF]
def rf:List TI := [tF,⟨.struct [(3,0),(45,1)],10,128,(.agg #[.int .i64 0,.string ⟨#[]⟩,.int .i64 0,.int .i64 0,.int .i64 0,.slice none 0 0,.string ⟨#[]⟩,.string ⟨#[]⟩,.string ⟨#[]⟩,.bool .false]),true⟩,⟨.struct [(3,0),(45,1)],10,128,(.agg #[.int .i64 0,.string ⟨#[]⟩,.int .i64 0,.int .i64 0,.int .i64 0,.slice none 0 0,.string ⟨#[]⟩,.string ⟨#[]⟩,.string ⟨#[]⟩,.bool .false]),true⟩,tF,tS 169,⟨.other,1,0,(.tuple #[.string ⟨#[]⟩,.slice none 0 0]),true⟩,tF,tF,⟨.struct [(66,0),(9,2),(3,3),(3,4)],5,72,(.agg #[.string ⟨#[]⟩,.slice none 0 0,.string ⟨#[]⟩,.int .i64 0,.int .i64 0]),true⟩,⟨.struct [(66,0),(9,2),(3,3),(3,4)],5,72,(.agg #[.string ⟨#[]⟩,.slice none 0 0,.string ⟨#[]⟩,.int .i64 0,.int .i64 0]),true⟩,tF,tF,tF,tF,⟨.other,1,0,(.tuple #[.agg #[.string ⟨#[]⟩,.slice none 0 0,.string ⟨#[]⟩,.int .i64 0,.int .i64 0],.bool .false]),true⟩,tF]
def rg:List TI := [tF,tF,tS 207,tS 207,⟨.struct [(9,0),(3,1),(3,2)],3,32,(.agg #[.string ⟨#[]⟩,.int .i64 0,.int .i64 0]),true⟩,⟨.struct [(9,0),(3,1),(3,2)],3,32,(.agg #[.string ⟨#[]⟩,.int .i64 0,.int .i64 0]),true⟩,tF,tF,tF,⟨.int .u64,1,8,(.int .u64 0),true⟩,tF,tF,tF,tF,tF,tF]
def rh:List TI := [tF,tF,tF,tF,tF,tF,tF,tF,⟨.struct [(3,0),(9,1),(3,2),(3,3),(3,4),(3,5)],6,56,(.agg #[.int .i64 0,.string ⟨#[]⟩,.int .i64 0,.int .i64 0,.int .i64 0,.int .i64 0]),true⟩,⟨.struct [(3,0),(9,1),(3,2),(3,3),(3,4),(3,5)],6,56,(.agg #[.int .i64 0,.string ⟨#[]⟩,.int .i64 0,.int .i64 0,.int .i64 0,.int .i64 0]),true⟩,tF,tF,tF,tF,⟨.struct [(9,0),(4,1),(64,2)],3,48,(.agg #[.string ⟨#[]⟩,.bool .false,.slice none 0 0]),true⟩,⟨.struct [(9,0),(4,1),(64,2)],3,48,(.agg #[.string ⟨#[]⟩,.bool .false,.slice none 0 0]),true⟩]
def ri:List TI := [tF,tF,⟨.other,1,0,(.tuple #[.slice none 0 0,.int .i64 0]),true⟩,tF,tF,tI,⟨.other,1,0,(.tuple #[.int .i64 0,.int .i64 0]),true⟩,tF,tF,tF,tF,tF,⟨.int .u32,1,4,(.int .u32 0),true⟩,tF,⟨.int .u64,1,8,(.int .u64 0),true⟩,tF]
def rj:List TI := [tF,tF,tF,tF,tF,tS 5,tF,⟨.other,1,0,(.tuple #[.string ⟨#[]⟩,.bool .false]),true⟩,tF,⟨.other,1,0,(.tuple #[.int .u32 0,.int .u32 0]),true⟩,tF,tF,tF,tF,tF,tF]
def rk:List TI := [tF,tF,tF,⟨.other,1,0,(.tuple #[.agg #[.string ⟨#[]⟩,.bool .false,.slice none 0 0],.slice none 0 0,.bool .false]),true⟩,tF,⟨.other,1,0,(.tuple #[.slice none 0 0,.bool .false]),true⟩,tF,tF,⟨.int .u64,1,8,(.int .u64 0),true⟩,tF,tF,tF,tP 3,tF,tF,tF]
def rm:List TI := [tF,tF,tF,tF,tF,tF,tF,tF,tF,⟨.map 9 207,1,8,(.map none),true⟩,tF,tF,tF,tF,tP 248,⟨.other,1,0,(.tuple #[.int .i64 0,.int .i64 0]),true⟩]
def rn:List TI := [tF,tF,⟨.other,1,0,(.tuple #[.int .i32 0,.int .i64 0]),true⟩,tF,tF,tF,tF,tF,tF,tS 64,⟨.map 3 3,1,8,(.map none),true⟩,tF,⟨.other,1,0,(.tuple #[.agg #[.string ⟨#[]⟩,.bool .false,.slice none 0 0],.bool .false]),true⟩,tF,tF,tF]
def rp:List TI := [tF,tF,tF,tF,tF,tF,tF,⟨.array 256 5,256,256,(.agg (([.int .u8 0,.int .u8 0,.int .u8 0,.int .u8 0,.int .u8 0,.int .u8 0,.int .u8 0,.int .u8 0,.int .u8 0,.int .u8 0,.int .u8 0,.int .u8 0,.int .u8 0,.int .u8 0,.int .u8 0,.int .u8 0,.int .u8 0,.int .u8 0,.int .u8 0,.int .u8 0,.int .u8 0,.int .u8 0,.int .u8 0,.int .u8 0,.int .u8 0,.int .u8 0,.int .u8 0,.int .u8 0,.int .u8 0,.int .u8 0,.int .u8 0,.int .u8 0,.int .u8 0,.int .u8 0,.int .u8 0,.int .u8 0,.int .u8 0,.int .u8 0,.int .u8 0,.int .u8 0,.int .u8 0,.int .u8 0,.int .u8 0,.int .u8 0,.int .u8 0,.int .u8 0,.int .u8 0,.int .u8 0,.int .u8 0,.int .u8 0,.int .u8 0,.int .u8 0,.int .u8 0,.int .u8 0,.int .u8 0,.int .u8 0,.int .u8 0,.int .u8 0,.int .u8 0,.int .u8 0,.int .u8 0,.int .u8 0,.int .u8 0,.int .u8 0].append [.int .u8 0,.int .u8 0,.int .u8 0,.int .u8 0,.int .u8 0,.int .u8 0,.int .u8 0,.int .u8 0,.int .u8 0,.int .u8 0,.int .u8 0,.int .u8 0,.int .u8 0,.int .u8 0,.int .u8 0,.int .u8 0,.int .u8 0,.int .u8 0,.int .u8 0,.int .u8 0,.int .u8 0,.int .u8 0,.int .u8 0,.int .u8 0,.int .u8 0,.int .u8 0,.int .u8 0,.int .u8 0,.int .u8 0,.int .u8 0,.int .u8 0,.int .u8 0,.int .u8 0,.int .u8 0,.int .u8 0,.int .u8 0,.int .u8 0,.int .u8 0,.int .u8 0,.int .u8 0,.int .u8 0,.int .u8 0,.int .u8 0,.int .u8 0,.int .u8 0,.int .u8 0,.int .u8 0,.int .u8 0,.int .u8 0,.int .u8 0,.int .u8 0,.int .u8 0,.int .u8 0,.int .u8 0,.int .u8 0,.int .u8 0,.int .u8 0,.int .u8 0,.int .u8 0,.int .u8 0,.int .u8 0,.int .u8 0,.int .u8 0,.int .u8 0]).append ([.int .u8 0,.int .u8 0,.int .u8 0,.int .u8 0,.int .u8 0,.int .u8 0,.int .u8 0,.int .u8 0,.int .u8 0,.int .u8 0,.int .u8 0,.int .u8 0,.int .u8 0,.int .u8 0,.int .u8 0,.int .u8 0,.int .u8 0,.int .u8 0,.int .u8 0,.int .u8 0,.int .u8 0,.int .u8 0,.int .u8 0,.int .u8 0,.int .u8 0,.int .u8 0,.int .u8 0,.int .u8 0,.int .u8 0,.int .u8 0,.int .u8 0,.int .u8 0,.int .u8 0,.int .u8 0,.int .u8 0,.int .u8 0,.int .u8 0,.int .u8 0,.int .u8 0,.int .u8 0,.int .u8 0,.int .u8 0,.int .u8 0,.int .u8 0,.int .u8 0,.int .u8 0,.int .u8 0,.int .u8 0,.int .u8 0,.int .u8 0,.int .u8 0,.int .u8 0,.int .u8 0,.int .u8 0,.int .u8 0,.int .u8 0,.int .u8 0,.int .u8 0,.int .u8 0,.int .u8 0,.int .u8 0,.int .u8 0,.int .u8 0,.int .u8 0].append [.int .u8 0,.int .u8 0,.int .u8 0,.int .u8 0,.int .u8 0,.int .u8 0,.int .u8 0,.int .u8 0,.int .u8 0,.int .u8 0,.int .u8 0,.int .u8 0,.int .u8 0,.int .u8 0,.int .u8 0,.int .u8 0,.int .u8 0,.int .u8 0,.int .u8 0,.int .u8 0,.int .u8 0,.int .u8 0,.int .u8 0,.int .u8 0,.int .u8 0,.int .u8 0,.int .u8 0,.int .u8 0,.int .u8 0,.int .u8 0,.int .u8 0,.int .u8 0,.int .u8 0,.int .u8 0,.int .u8 0,.int .u8 0,.int .u8 0,.int .u8 0,.int .u8 0,.int .u8 0,.int .u8 0,.int .u8 0,.int .u8 0,.int .u8 0,.int .u8 0,.int .u8 0,.int .u8 0,.int .u8 0,.int .u8 0,.int .u8 0,.int .u8 0,.int .u8 0,.int .u8 0,.int .u8 0,.int .u8 0,.int .u8 0,.int .u8 0,.int .u8 0,.int .u8 0,.int .u8 0,.int .u8 0,.int .u8 0,.int .u8 0,.int .u8 0])).toArray),true⟩,⟨.struct [(5,0),(5,1)],2,2,(.agg #[.int .u8 0,.int .u8 0]),true⟩,⟨.struct [(5,0),(5,1)],2,2,(.agg #[.int .u8 0,.int .u8 0]),true⟩,⟨.array 16 297,32,32,(.agg (Array.replicate 32 (.int .u8 0))),true⟩,tF,tF,tF,tF,tF]
def rr:List TI := [tF,tF,tF,tF,tF,tF,tF,tF,tF,⟨.struct [(17,0),(17,1),(17,2),(9,3)],4,40,(.agg #[.pointer none,.pointer none,.pointer none,.string ⟨#[]⟩]),false⟩,⟨.struct [(17,0),(17,1),(17,2),(9,3)],4,40,(.agg #[.pointer none,.pointer none,.pointer none,.string ⟨#[]⟩]),false⟩,⟨.array 0 16,0,0,(.agg #[]),true⟩,⟨.other,0,0,(.agg #[]),false⟩,⟨.other,0,0,(.agg #[]),false⟩,tF,⟨.int .u8,1,1,(.int .u8 0),true⟩]
def rt:List TI := [⟨.int .u8,1,1,(.int .u8 0),true⟩,tF,tP 5,⟨.int .i32,1,4,(.int .i32 0),true⟩,⟨.int .i32,1,4,(.int .i32 0),true⟩,⟨.struct [(12,0),(12,1),(220,2),(319,3),(5,4),(5,5),(320,6),(321,7),(322,8),(323,9),(324,10)],11,48,(.agg #[.int .u64 0,.int .u64 0,.int .u32 0,.int .u8 0,.int .u8 0,.int .u8 0,.int .u8 0,.nilFunc,.pointer none,.int .i32 0,.int .i32 0]),false⟩,⟨.struct [(12,0),(12,1),(220,2),(319,3),(5,4),(5,5),(320,6),(321,7),(322,8),(323,9),(324,10)],11,48,(.agg #[.int .u64 0,.int .u64 0,.int .u32 0,.int .u8 0,.int .u8 0,.int .u8 0,.int .u8 0,.nilFunc,.pointer none,.int .i32 0,.int .i32 0]),false⟩,tS 343,tS 331,tS 345,⟨.struct [(3,0),(9,1),(9,2),(328,3),(329,4)],5,88,(.agg #[.int .i64 0,.string ⟨#[]⟩,.string ⟨#[]⟩,.slice none 0 0,.slice none 0 0]),true⟩,⟨.struct [(3,0),(9,1),(9,2),(328,3),(329,4)],5,88,(.agg #[.int .i64 0,.string ⟨#[]⟩,.string ⟨#[]⟩,.slice none 0 0,.slice none 0 0]),true⟩,⟨.struct [(9,0),(327,1),(331,2),(331,7)],12,216,(.agg #[.string ⟨#[]⟩,.slice none 0 0,.int .i64 0,.string ⟨#[]⟩,.string ⟨#[]⟩,.slice none 0 0,.slice none 0 0,.int .i64 0,.string ⟨#[]⟩,.string ⟨#[]⟩,.slice none 0 0,.slice none 0 0]),true⟩,⟨.struct [(9,0),(327,1),(331,2),(331,7)],12,216,(.agg #[.string ⟨#[]⟩,.slice none 0 0,.int .i64 0,.string ⟨#[]⟩,.string ⟨#[]⟩,.slice none 0 0,.slice none 0 0,.int .i64 0,.string ⟨#[]⟩,.string ⟨#[]⟩,.slice none 0 0,.slice none 0 0]),true⟩,⟨.struct [(9,0),(327,1),(331,2)],7,128,(.agg #[.string ⟨#[]⟩,.slice none 0 0,.int .i64 0,.string ⟨#[]⟩,.string ⟨#[]⟩,.slice none 0 0,.slice none 0 0]),true⟩,⟨.struct [(9,0),(327,1),(331,2)],7,128,(.agg #[.string ⟨#[]⟩,.slice none 0 0,.int .i64 0,.string ⟨#[]⟩,.string ⟨#[]⟩,.slice none 0 0,.slice none 0 0]),true⟩]
def ru:List TI := [⟨.struct [(9,0),(9,1),(9,2)],3,48,(.agg #[.string ⟨#[]⟩,.string ⟨#[]⟩,.string ⟨#[]⟩]),true⟩,⟨.struct [(9,0),(9,1),(9,2)],3,48,(.agg #[.string ⟨#[]⟩,.string ⟨#[]⟩,.string ⟨#[]⟩]),true⟩,⟨.struct [(9,0),(9,1)],2,32,(.agg #[.string ⟨#[]⟩,.string ⟨#[]⟩]),true⟩,⟨.struct [(9,0),(9,1)],2,32,(.agg #[.string ⟨#[]⟩,.string ⟨#[]⟩]),true⟩,tF,⟨.other,1,8,(.pointer none),true⟩,⟨.struct [(9,0),(3,1),(331,2)],7,112,(.agg #[.string ⟨#[]⟩,.int .i64 0,.int .i64 0,.string ⟨#[]⟩,.string ⟨#[]⟩,.slice none 0 0,.slice none 0 0]),true⟩,⟨.struct [(9,0),(3,1),(331,2)],7,112,(.agg #[.string ⟨#[]⟩,.int .i64 0,.int .i64 0,.string ⟨#[]⟩,.string ⟨#[]⟩,.slice none 0 0,.slice none 0 0]),true⟩,⟨.struct [(9,0),(331,1),(4,6)],7,112,(.agg #[.string ⟨#[]⟩,.int .i64 0,.string ⟨#[]⟩,.string ⟨#[]⟩,.slice none 0 0,.slice none 0 0,.bool .false]),true⟩,⟨.struct [(9,0),(331,1),(4,6)],7,112,(.agg #[.string ⟨#[]⟩,.int .i64 0,.string ⟨#[]⟩,.string ⟨#[]⟩,.slice none 0 0,.slice none 0 0,.bool .false]),true⟩]
def yi:List (List TI) := [wd,we,wg,wh,wi,wj,wk,wl,wm,wo,rf,rg,rh,ri,rj,rk,rm,rn,rp,rr,rt,ru]
def lY:Gq := fun t => gx wP (gx [] yi (t / 16)) (t % 16)
theorem iu:(List.range 352).map lY = (List.range 352).map (dg Tryz.prog) := by kernel_rfl
theorem ar{α:Type}(d:α):∀(l:List α) (n:Nat),l.length ≤ n → gx d l n = d
 | [],_,_ => rfl
 |_::_,0,h => by simp at h
 |_::r,n + 1,h => ar d r n (by simpa using h)
theorem CL:Cy Tryz.prog lY := by
 intro t
 by_cases h:t<352
 ·have := Ac (fun l => l[t]?) iu
  rw[AG,AG,List.getElem?_range h,Fx,Fx]at this
  exact .inr (BM this)
 ·have h1:gx ([]:List TI) yi (t / 16) = [] := ar _ _ _ (by show 22 ≤ t / 16;omega)
  have h2:lY t = wP := by unfold lY;rw[h1];rfl
  exact .inl h2
end Go.Eng
namespace Go.Eng
section
variable {P:Program}
theorem bA {f : Nat} {fn : Func} {c : Code} (hf : P.funcs[f]? = some fn) (hn : (fn.name == "runtime.NumGoroutine") = false) (hb : fn.body = some c) : F1 P f := ⟨fn, hf, hn, by simp [hb]⟩
theorem K8{f:Nat}{args:List AV}{res:AV}(vals:List Value)(v:Value)(hE:F1 P f)(ha:args=vals.map .v)(np:∀g w,BI g w Fp res v)
  (h:∀w,(∃m,w.cell? ⟨gB,0,none⟩=some (.int .i64 m))→Calls P f vals.toArray w fun e w'=>e=.returned v∧w'=w):LD P f args res:=by
 refine⟨hE,fun g w us hs hv hI=>?_⟩;have hu:us=vals.toArray:=by
  subst ha;rw[Bb]at hs;refine Array.ext (by simpa using hs) fun i h1 h2=>?_
  have:=hv i (.v (vals[i]'(by simpa using h2))) us[i] (by rw[AG,Ay (by simpa using h2)];rfl) (by rw[BF h1])
  rw[this.v_eq];simp
 subst hu;refine(h w hI.glob.1.2).mono ?_
 rintro e w' ⟨rfl,rfl⟩
 exact⟨v,res,Ab,g,rfl,⟨rfl,rfl⟩,(np g _).up _,hI,.refl _ _ _⟩
theorem gV{g:Gh}{w:World}:∀(vs:List Value),BI g w Fp (.tup (vs.map .v)) (.tuple vs.toArray):=fun vs =>
 .tup _ _ _ (by simp) fun i av x h1 h2=>by
  rw[AG,AZ]at h1;obtain⟨a,e1,rfl⟩:=h1
  have:vs[i]?=some x:=by simpa using h2
  rw[e1]at this;cases this;exact .v _ _
theorem cN{f:Nat}{args:List AV}(vals:List Value)(es:List Value)(T:TypeId)(hE:F1 P f)(ha:args=vals.map .v)(h1:∀x∈es,x.oneCell'=true)
  (h:∀w,(∃m,w.cell? ⟨gB,0,none⟩=some (.int .i64 m))→Calls P f vals.toArray w fun e w'=>e=.returned (.slice (some ⟨w.heap.size,0,none⟩) es.length es.length)∧w'=w.alloc (.cells es.toArray T)) :
  LD P f args (.slice .none (es.map fun x=>[.v x])):=by
 refine⟨hE,fun g w us hs hv hI=>?_⟩;have hu:us=vals.toArray:=by
  subst ha;rw[Bb]at hs;refine Array.ext (by simpa using hs) fun i h1 h2=>?_
  have:=hv i (.v (vals[i]'(by simpa using h2))) us[i] (by rw[AG,Ay (by simpa using h2)];rfl) (by rw[BF h1])
  rw[this.v_eq];simp
 subst hu;refine(h w hI.glob.1.2).mono ?_
 rintro e w' ⟨rfl,rfl⟩
 have EO:(w.alloc (.cells es.toArray T)).heap[w.heap.size]?=some (.cells es.toArray T (0,0)):=Hx w _ rfl;have V2:∀b,b<w.heap.size→(w.alloc (.cells es.toArray T)).heap[b]?=w.heap[b]?:=fun b hb=>heap_alloc_old _ _ hb;have hK:EY g w ⟨g.ρ,g.ln,g.tk,g.own,g.more w.heap.size es.length⟩ (w.alloc (.cells es.toArray T)):=fun b o hb=>by
  have DI:=hI.slt b o hb;exact⟨.inl hb,by simp only[World.cell?,V2 b DI],fun es ck he=>(V2 b DI).trans he⟩
 refine⟨_,_,Ab,⟨g.ρ,g.ln,g.tk,g.own,g.more w.heap.size es.length⟩,rfl,⟨rfl,rfl⟩,?_,⟨rfl,rfl,rfl,?_,fun b hb _=>V2 b hb,fun b o hs=>?_,fun _=>trivial,fun _ _ _ h=>h.elim,fun _ _ h=>h.elim,fun b o hs=>?_,hI.glob.keep hK⟩,⟨.refl _ _,fun _ h=>h,hK⟩⟩
 ·have hr:CF ⟨g.ρ,g.ln,g.tk,g.own,g.more w.heap.size es.length⟩ (w.alloc (.cells es.toArray T)) Fp (es.map fun x=>[AV.v x]).flatten (es.toArray.toList.take ((es.map fun x=>[AV.v x]).length*1)):=by
   have hfl:∀l:List Value,(l.map fun x=>[AV.v x]).flatten=l.map .v:=fun l=>by
    induction l with
    |nil=>rfl
    |cons a l ih=>rw[AP,Bz,ih];rfl
   rw[hfl];simp only[Bb,Nat.mul_one,Dv];refine⟨by simp,fun x hx=>h1 x (by simpa using hx),fun i av x q1 q2=>?_⟩;rw[AG,AZ]at q1;obtain⟨a,e1,rfl⟩:=q1;rw[e1]at q2;cases q2;exact .v _ _
  have:=BI.slice_row (U:=AR Ab) (cap:=es.length) (sz:=1) (es:=es.map fun x=>[AV.v x]) EO (fun cs hcs=>by
   obtain⟨x,_,rfl⟩:=Am.1 hcs;rfl) (by simp) hr (fun o ho=>.inr ⟨rfl,by simpa using ho⟩)
  simpa using this
 ·rw[World.size_alloc];omega
 ·rw[World.size_alloc];rcases hs with hs | ⟨rfl,_⟩
  ·have:=hI.slt b o hs;omega
  ·omega
 ·rcases hs with hs | ⟨rfl,_⟩
  ·exact .inl hs
  ·exact .inr (.inl (Ak _))
end
end Go.Eng
namespace Go.Eng
open Go.Sort
section
variable {P:Program}
theorem M7(F c:Array Value)(h:F.size≤c.size):(putCells id 0 F c).toList.take F.size=F.toList∧(putCells id 0 F c).size=c.size:=by
 have hs:(putCells id 0 F c).size=c.size:=by simp[putCells]
 refine⟨?_,hs⟩;apply CC;intro i;rw[Js,A2,A2]
 by_cases hi:i<F.size
 ·rw[Az hi];have zw:i<c.size:=by omega
  simp only[putCells,Array.getElem?_mapIdx,BF zw,BF hi,Fx,AM,true_and,Bk,hi,QB,Nat.sub_zero,id_eq];rw[DC F i hi]
 ·rw[Al hi,TP (by omega)]
theorem Sz(r:Nat)(o o' : HO):AW (Aj [(r,o)] Ab) r o'=Aj [(r,o')] Ab:=by
 funext i
 by_cases e:i=r
 ·subst e;rw[Bd];simp[Aj]
 ·rw[B1 _ _ _ _ e];simp[Aj,CJ e]
theorem Pk{f:Nat}{es:List (List AV)}{sz:Nat}{rest:List Value}{Q:List (List AV)→Prop}(hE:F1 P f)
  (h0:es=[]→Q []∧∀w,Calls P f (#[.slice none 0 0]++rest.toArray) w fun e w'=>e=.returned (.tuple #[])∧w'=w)
  (h1:∀(g:Gh) (w:World) (b cap:Nat) (F:Array Value),CF g w Fp es.flatten F.toList→F.size=es.length*sz→Holds id w b 0 F→b<w.heap.size→Calls P f (#[.slice (some ⟨b,0,none⟩) es.length cap]++rest.toArray) w fun e w' =>
   e=.returned (.tuple #[])∧∃(F' : Array Value) (FA : List (List AV)) (n:Nat) (os:Array Obj),F'.size=F.size∧Q FA∧FA.length=es.length∧(∀cs∈FA,cs.length=sz) ∧
    (∀(g:Gh) (w:World),CF g w Fp es.flatten F.toList→CF g w Fp FA.flatten F'.toList)∧w'=grow (putRow id (Sort.ahead w n) b 0 F') os) :
  Be P f (.msl 1000 es.length::rest.map .v) (Aj [(1000,.arr sz es)] Ab) fun r h'=>r=.tup []∧∃FA,Q FA∧h'=Aj [(1000,.arr sz FA)] Ab:=by
 refine⟨hE,fun g w us hs hv hI=>?_⟩;have ho:=hI.objs 1000;have he:Aj [(1000,HO.arr sz es)] Ab 1000=.arr sz es:=rfl;rw[he]at ho;obtain⟨t1,l1,al,a2⟩:=ho;simp only[At,Bb]at hs
 -- the arguments
 have uR:0<us.size:=by omega
 have oG:=hv 0 (.msl 1000 es.length) us[0] rfl (BF uR);have JY:us[0]=g.ρ 1000:=by
  generalize us[0]=x at oG;cases oG with
  |msl _ r n a cap hu ht hn ha hx=>exact hx l1.symm
 have KZ:us=#[g.ρ 1000]++rest.toArray:=by
  refine Array.ext (by simp;omega) fun i h1 h2=>?_;cases i with
  |zero=>rw[JY];simp
  |succ i =>
   have hi:i<rest.length:=by omega
   have:=hv (i+1) (.v rest[i]) us[i+1] (by simp[List.getElem?_eq_getElem hi]) (BF h1)
   rw[this.v_eq];simp
 rw[KZ];rcases a2 with ⟨b1,b2,b3⟩ | ⟨b,cap,E,vs,b1,b2,b3,b4,b5,b6,b7⟩
 ·subst b1;obtain⟨q,h0⟩:=h0 rfl;rw[b2];refine(h0 w).mono ?_
  rintro e w' ⟨rfl,rfl⟩
  exact⟨_,.tup [],_,g,rfl,⟨rfl,[],q,rfl⟩,.tup _ _ _ rfl (fun i av x h=>by simp at h),hI,.refl _ _ _⟩
 ·have hl:(Aj [(1000,HO.arr sz es)] Ab 1000).live:=trivial;have DI:=(hI.loc 1000 b hl b2).1;have Hi:es.length*sz≤vs.size:=by rw[b5];exact Bj _ b3
  have hF:((vs.toList.take (es.length*sz)).toArray).size=es.length*sz:=by simp;omega
  have hH:Holds id w b 0 (vs.toList.take (es.length*sz)).toArray:=fun j hj=>by
   have hj:j<es.length*sz:=by rw[hF]at hj;exact hj
   refine⟨?_,?_⟩
   ·have qh:j<vs.size:=by omega
    simp only[World.cell?,b4,Bk,Option.isSome_none,Dk,Gg];rw[BF qh,DC _ j (by rw[hF];exact hj)];simp
   ·simp[World.frozen?,b4]
  rw[b1];refine(h1 g w b cap _ (by simpa using b6) hF hH DI).mono ?_
  rintro e w' ⟨rfl,F',FA,n,os,f1,f2,f3,f4,f5,rfl⟩
  have oq : F'.size=es.length*sz:=f1.trans hF;have qy:=M7 F' vs (by omega);have mU : (grow (putRow id (Sort.ahead w n) b 0 F') os).heap[b]?=some (.cells (putCells id 0 F' vs) E (0,0)):=by
   rw[heap_grow_old _ _ (by rw[size_putRow];exact DI)];show(w.heap.modify b (onCells (putCells id 0 F')))[b]?=_;rw[Array.getElem?_modify,Az rfl,b4];rfl
  have qr:∀k,k<w.heap.size→k≠b→(grow (putRow id (Sort.ahead w n) b 0 F') os).heap[k]?=w.heap[k]?:=fun k hk DD=>by
   rw[heap_grow_old _ _ (by rw[size_putRow];exact hk)];simp[putRow,mapBlock,Array.getElem?_modify,Ne.symm DD]
  have EH:w.heap.size≤(grow (putRow id (Sort.ahead w n) b 0 F') os).heap.size:=by rw[size_grow,size_putRow];show w.heap.size≤w.heap.size+_;omega
  obtain⟨k1,k2⟩:=hI.upd 1000 (.arr sz FA) (g.ρ 1000) (g.ln 1000) (g.tk 1000) (g.own 1000) g.S (grow (putRow id (Sort.ahead w n) b 0 F') os) (some b) ⟨rfl,rfl,rfl,EH⟩
   (fun k hk DD=>qr k hk (fun e=>DD (by rw[e]))) (fun b' e=>by cases e;exact⟨hl,b2⟩) (fun _ _ h=>h) (fun _ _ h=>.inl h) (fun b' o e hs=>by cases e;exact absurd hs (b7 o))
   (fun b' _ e=>by rw[b2]at e;cases e;exact⟨BJ DI EH,.inl ⟨hl,b2⟩⟩) (by simp) (fun _=>⟨rfl,Ak _,fun _=>rfl,fun _=>rfl⟩) (fun hg hk=>by
    refine⟨by simp[Gh.upd,t1],by simp[Gh.upd,l1,f3],f4,.inr ⟨b,cap,E,_,by simp[Gh.upd,b1,f3],by simp[Gh.upd,b2],by omega,mU,by rw[qy.2,b5],?_,b7⟩⟩
    have:=f5 g w (by simpa using b6)
    rw[f3,←oq,qy.1];exact this.mono hk (fun _ h=>h) (fun _ h=>h.elim))
  rw[Sz]at k1 k2;exact⟨_,.tup [],_,_,rfl,⟨rfl,FA,f2,rfl⟩,.tup _ _ _ rfl (fun i av x h=>by simp at h),k1,k2⟩
end
end Go.Eng
namespace Go.Eng
open Go.Sort Go.Proofs
theorem QN{g:Gh}{w:World}{U:Nat→Prop}{cs YI : List AV}{vs dy : List Value}(h:vs.length=cs.length):CF g w U (cs++YI) (vs++dy)↔CF g w U cs vs∧CF g w U YI dy:=by
 constructor
 ·intro⟨h1,h2,h3⟩;refine⟨⟨h,fun x hx=>h2 x (Bi _ hx),fun i av x q1 q2=>?_⟩,⟨by simp at h1;omega,fun x hx=>h2 x (Bl _ hx),fun i av x q1 q2=>?_⟩⟩
  ·have a1:=(As.1 q1).1;have a2:=(As.1 q2).1;exact h3 i av x (by rw[AY a1];exact q1) (by rw[AY a2];exact q2)
  ·exact h3 (cs.length+i) av x (by rw[A4 (by omega),GM];exact q1) (by rw[A4 (by omega),h,GM];exact q2)
 ·intro⟨⟨h1,h2,h3⟩,k1,k2,k3⟩;refine⟨by simp[h1,k1],fun x hx=>(A3.1 hx).elim (h2 x) (k2 x),fun i av x q1 q2=>?_⟩
  by_cases hi:i<cs.length
  ·rw[AY hi]at q1;rw[AY (by omega)]at q2;exact h3 i av x q1 q2
  ·rw[A4 (by omega)]at q1;rw[A4 (by omega)]at q2;rw[h]at q2;exact k3 _ av x q1 q2
theorem PR{α β:Type}{g:Gh}{w:World}{U:Nat→Prop}{IA:β→List AV}{enc:α→List Value}(hl:∀x y,(enc x).length=(IA y).length):∀ps:List (β×α),
  CF g w U (ps.map fun p=>IA p.1).flatten (ps.map fun p=>enc p.2).flatten↔∀p∈ps,CF g w U (IA p.1) (enc p.2)
 | []=>by simp[CF]
 |p::ps=>by
  simp only[AP,Bz];rw[QN (hl _ _),PR hl ps];simp
theorem L7{α β:Type}{f:α→β}:∀{m m' : List β},m.Perm m'→∀ps:List α,ps.map f=m→∃gR : List α,gR.Perm ps∧gR.map f=m':=by
 intro m m' h
 induction h with
 |nil=>intro ps e;exact⟨ps,.refl _,e⟩
 |cons x h ih =>
  intro ps e;cases ps with
  |nil=>cases e
  |cons p ps =>
   rw[AP]at e
   injection e with e1 e2
   obtain⟨gR,h1,h2⟩:=ih ps e2;exact⟨p::gR,h1.cons p,by rw[AP,e1,h2]⟩
 |swap x y l =>
  intro ps e
  match ps,e with
  |p::q::ps,e =>
   simp only[AP,Fs]at e;exact⟨q::p::ps,List.Perm.swap _ _ _,by simp[e.1,e.2.1,e.2.2]⟩
 |trans h1 h2 ih1 ih2 =>
  intro ps e;obtain⟨ps1,p1,p2⟩:=ih1 ps e;obtain⟨ps2,q1,q2⟩:=ih2 ps1 p2;exact⟨ps2,q1.trans p1,q2⟩
theorem Sj{α:Type}[Inhabited α]{enc:α→List Value}{k:Nat}(hk:∀x,(enc x).length=k)(d:Array α):(flatK enc k d).toList=(d.toList.map enc).flatten:=by
 have hl:∀cs∈d.toList.map enc,cs.length=k:=fun cs hcs=>by
  obtain⟨x,_,rfl⟩:=Am.1 hcs;exact hk x
 have CB:(d.toList.map enc).flatten.length=d.size*k:=by
  have:∀l:List α,(l.map enc).flatten.length=l.length*k:=fun l=>by
   induction l with
   |nil=>simp
   |cons a l ih=>simp[hk,Nat.succ_mul,ih];omega
  rw[this];simp
 apply CC;intro t
 by_cases ht:t<d.size*k
 ·have k0:0<k:=Nat.pos_of_ne_zero fun h=>by subst h;simp at ht
  have h1:t / k<d.size:=by rw[Lg k0];exact ht
  have h2:t % k<k:=Nat.mod_lt _ k0;have e:t=t / k*k+t % k:=by rw[Nat.mul_comm];exact(Ui t k).symm
  rw[A2,BF (by simpa using ht),←DC _ t (by simpa using ht),get_flatK _ _ _ _ ht];have hg:(d.toList.map enc)[t / k]?=some (enc d[t / k]!):=by
   rw[AG,A2,BF h1,DC d _ h1];rfl
  have:=E9 hl hg h2
  rw[e,this,←e];rw[Ay (by rw[hk];exact h2),DC _ _ (by rw[hk];exact h2)]
 ·rw[A6 (by simp;omega),A6 (by omega)]
theorem aU{α β:Type}:∀{l:List α} {m:List β},l.length=m.length→(l.zip m).map (·.1)=l∧(l.zip m).map (·.2)=m
 | [],[],_=>⟨rfl,rfl⟩
 |a::l,b::m,h=>by
  have:=aU (l:=l) (m:=m) (by simpa using h)
  simp[this.1,this.2]
section
variable {P:Program}
theorem I6{α β:Type}[Inhabited α]{f k:Nat}{rest:List Value}(hE:F1 P f)(IA:β→List AV)(enc:α→List Value)(hB:∀x,(IA x).length=k)(hk:∀x,(enc x).length=k)(lt:α→α→Bool)(R:β→α→Prop)(l:List β)(hl:l.length<4611686018427387904)
  (hR:∀x∈l,∀(g:Gh) (w:World) (vs:List Value),CF g w Fp (IA x) vs→∃a,enc a=vs∧R x a)
  (Dg:∀(w:World) (b cap:Nat) (d:Array α),HoldsK enc k w b 0 d→b<w.heap.size→d.size<4611686018427387904→d.size=l.length→Calls P f (#[.slice (some ⟨b,0,none⟩) d.size cap]++rest.toArray) w fun e w' =>
   e=.returned (.tuple #[])∧∃d' n os,PermIn 0 d.size d d'∧SortedIn lt 0 d.size d'∧w'=sortWorldK enc k w b 0 n d' os)
  (qq:l=[]→∀w:World,Calls P f (#[.slice none 0 0]++rest.toArray) w fun e w'=>e=.returned (.tuple #[])∧w'=w) :
  Be P f (.msl 1000 l.length::rest.map .v) (Aj [(1000,.arr k (l.map IA))] Ab) fun r h' =>
   r=.tup []∧∃l' : List β,l'.Perm l∧(∃al:List α,al.length=l'.length∧(∀(i:Nat) (x:β) (a:α),l'[i]?=some x→al[i]?=some a→R x a)∧al.Pairwise (fun x y=>lt y x=false))∧h'=Aj [(1000,.arr k (l'.map IA))] Ab:=by
 have G9:=Pk (P:=P) (f:=f) (es:=l.map IA) (sz:=k) (rest:=rest)
  (Q:=fun FA=>∃l' : List β,l'.Perm l∧(∃al:List α,al.length=l'.length∧(∀(i:Nat) (x:β) (a:α),l'[i]?=some x→al[i]?=some a→R x a)∧al.Pairwise (fun x y=>lt y x=false))∧FA=l'.map IA) hE ?_ ?_
 ·rw[Bb]at G9;refine⟨hE,fun g w vals q1 q2 q3=>(G9.2 g w vals q1 q2 q3).mono fun _ _ ⟨v,r,h',g',e1,⟨e2,FA,⟨l',p1,p2,p3⟩,p4⟩,rest⟩=>⟨v,r,h',g',e1,⟨e2,l',p1,p2,by rw[p4,p3]⟩,rest⟩⟩
 ·intro e
  have:l=[]:=by simpa using e
  subst this;exact⟨⟨[],.refl _,⟨[],rfl,fun i x a h=>by simp at h,.nil⟩,rfl⟩,qq rfl⟩
 ·intro g w b cap F hr hF hH hb
  -- the elements in memory
  have ns:∀(m:List β) (vs:List Value),(∀x∈m,x∈l)→CF g w Fp (m.map IA).flatten vs→∃al:List α,al.length=m.length∧vs=(al.map enc).flatten∧∀(i:Nat) (x:β) (a:α),m[i]?=some x→al[i]?=some a→R x a:=by
   intro m
   induction m with
   |nil =>
    intro vs _ h
    have:vs=[]:=AB (by simpa using h.1)
    subst this;exact⟨[],rfl,rfl,fun i x a h=>by simp at h⟩
   |cons x m ih =>
    intro vs hm h;rw[AP,Bz]at h;have CB:=h.1;rw[Ad,hB]at CB;have e:vs=vs.take k++vs.drop k:=(Ld k vs).symm;rw[e]at h;rw[QN (by rw[AJ,hB];omega)]at h;obtain⟨a,a1,a2⟩:=hR x (hm x (Aa ..)) g w _ h.1;obtain⟨al,b1,b2,b3⟩:=ih _ (fun y hy=>hm y (Af _ hy)) h.2;refine⟨a::al,by simp[b1],by rw[AP,Bz,a1,←b2,←e],fun i y c q1 q2=>?_⟩;cases i with
    |zero=>simp only[A8,Bo]at q1 q2;subst q1;subst q2;exact a2
    |succ i=>exact b3 i y c (by simpa using q1) (by simpa using q2)
  obtain⟨al,s1,s2,s3⟩:=ns l F.toList (fun _ h=>h) hr;have yT:F=flatK enc k al.toArray:=Iw.1 (by rw[Sj hk,s2]);have hd:HoldsK enc k w b 0 al.toArray:=by unfold HoldsK;rw[←yT];exact hH
  have hc:=Dg w b cap al.toArray hd hb (by simpa[s1]using hl) (by simp[s1]);have EH:al.toArray.size=(l.map IA).length:=by simp[s1]
  rw[EH]at hc;refine hc.mono ?_
  rintro e w' ⟨rfl,d',n,os,p1,p2,rfl⟩
  obtain⟨z1,z2⟩:=aU s1.symm;obtain⟨fG,_,IL⟩:=p1;have fG : d'.size=al.length:=by rw[fG];simp
  have e1:d'.extract 0 (l.map IA).length=d':=by rw[show(l.map IA).length=d'.size by rw[fG];simp[s1]];exact Array.extract_size
  have e2:al.toArray.extract 0 (l.map IA).length=al.toArray:=by rw[←EH];exact Array.extract_size
  rw[e1,e2]at IL;have IL:al.Perm d'.toList:=by
   first
   |exact IL.symm
   |exact IL
   |(have:=IL.symm;simpa using this)
  obtain⟨gR,r1,r2⟩:=L7 IL (l.zip al) z2;have rel:∀p∈l.zip al,R p.1 p.2:=fun p hp=>by
   obtain⟨i,hi⟩:=B9.1 hp;rw[List.getElem?_zip_eq_some]at hi;exact s3 i _ _ hi.1 hi.2
  refine⟨rfl,flatK enc k d',(gR.map (·.1)).map IA,n,os,by rw[size_flatK,fG,hF];simp[s1],⟨gR.map (·.1),?_,⟨d'.toList,by rw[←r2];simp,fun i x a q1 q2=>?_,?_⟩,rfl⟩,by have:=r1.length_eq;simp[this,s1],fun cs hcs=>?_,fun g w hr=>?_,?_⟩
  ·have:=r1.map (·.1);rw[z1]at this;exact this
  ·rw[←r2]at q2;rw[AG,AZ]at q1 q2;obtain⟨p,q1,rfl⟩:=q1;obtain⟨p',q2,rfl⟩:=q2;rw[q1]at q2;cases q2;exact rel p (r1.mem_iff.1 (Av q1))
  ·rw[Bc];intro i j hi hj UN;have LB : i<d'.size:=by simpa using hi
   have m8 : j<d'.size:=by simpa using hj
   have:=p2 i j (AM _) UN (by rw[fG]at m8;simp[s1]at m8⊢;omega)
   rw[DC d' j m8,DC d' i LB]at this;simpa using this
  ·obtain⟨x,_,rfl⟩:=Am.1 hcs;exact hB x
  ·have h1:CF g w Fp ((l.zip al).map fun p=>IA p.1).flatten ((l.zip al).map fun p=>enc p.2).flatten:=by
    have a1:(l.zip al).map (fun p=>IA p.1)=l.map IA:=by
     have:(l.zip al).map (fun p=>IA p.1)=((l.zip al).map (·.1)).map IA:=by rw[BP];rfl
     rw[this,z1]
    have a2:(l.zip al).map (fun p=>enc p.2)=al.map enc:=by
     have:(l.zip al).map (fun p=>enc p.2)=((l.zip al).map (·.2)).map enc:=by rw[BP];rfl
     rw[this,z2]
    rw[a1,a2,←s2];exact hr
   have CB:∀(x:α) (y:β),(enc x).length=(IA y).length:=fun x y=>by rw[hk,hB]
   rw[PR CB]at h1;have h2:=(PR (g:=g) (w:=w) (U:=Fp) CB gR).2 fun p hp=>h1 p (r1.mem_iff.1 hp);have b1:(gR.map (·.1)).map IA=gR.map fun p=>IA p.1:=by rw[BP];rfl
   have b2:(flatK enc k d').toList=(gR.map fun p=>enc p.2).flatten:=by
    rw[Sj hk,←r2,BP];rfl
   rw[b1,b2];exact h2
  ·rfl
end
end Go.Eng
namespace Go.Eng
section
variable {P:Program}
theorem Cm{f:Nat}{fn:Func}{c:Code}{args:List AV}{H0:List (Nat×HO)}{Q:AV→(Nat→HO)→Prop}(cx:Cx)(σ:IQ)(hP:cx.P=P)(hT:Cy P cx.T)(hm:P.follows .mixedOrders=true)(hx:cx.ext=true)(hf:P.funcs[f]?=some fn)
  (hn : (fn.name == "runtime.NumGoroutine") = false) (hb : fn.body = some c) (hN : args.length ≤ fn.ntmps) (hc : Et fn.ntmps c = true) (hσ : (GG σ && In σ H0) = true)
  (hk:QT cx c (W5 cx fn.results.toList σ fun r h'=>∃r',Hm r r'∧Q r' h') ⟨Od args,Aj H0 Ab⟩) (hY:∀l σ g w,cx.yp l σ g w:=by exact fun _ _ _ _=>trivial):Be P f args (Aj H0 Ab) Q :=
 (eK cx σ hP hT hm hx hf hn hb hN hc hσ hk hY).mono fun _ _ ⟨r',s,q⟩=>⟨r',s,q⟩
end
end Go.Eng
namespace Go.Eng
open Go.Sort
theorem CF.append{g:Gh}{w:World}{U:Nat→Prop}{TX bs:List AV}{xs ys:List Value}(h:CF g w U TX xs)(k:CF g w U bs ys):CF g w U (TX++bs) (xs++ys):=by
 refine⟨by rw[Ad,Ad,h.1,k.1],fun x hx=>?_,fun i av x q1 q2=>?_⟩
 ·rcases A3.1 hx with hx | hx
  ·exact h.2.1 x hx
  ·exact k.2.1 x hx
 ·have hl:=h.1
  by_cases hi:i<TX.length
  ·rw[AY hi]at q1;rw[AY (by omega)]at q2;exact h.2.2 i av x q1 q2
  ·rw[A4 (by omega)]at q1;rw[A4 (by omega),hl]at q2;exact k.2.2 _ av x q1 q2
theorem CF.take{g:Gh}{w:World}{U:Nat→Prop}{TX:List AV}{xs:List Value}(h:CF g w U TX xs)(k:Nat):CF g w U (TX.take k) (xs.take k):=by
 refine⟨by rw[AJ,AJ,h.1],fun x hx=>h.2.1 x (Er hx),fun i av x q1 q2=>?_⟩;rw[Js]at q1 q2;split at q1
 ·rename_i hi;rw[Az hi]at q2;exact h.2.2 i av x q1 q2
 ·cases q1
theorem CF.drop{g:Gh}{w:World}{U:Nat→Prop}{TX:List AV}{xs:List Value}(h:CF g w U TX xs)(k:Nat):CF g w U (TX.drop k) (xs.drop k):=by
 refine⟨by rw[Ar,Ar,h.1],fun x hx=>h.2.1 x (Ik hx),fun i av x q1 q2=>?_⟩;rw[BR]at q1 q2;exact h.2.2 _ av x q1 q2
theorem KW{α:Type}{k:Nat}:∀(es:List (List α)) (i:Nat),(∀e∈es,e.length=k)→es.flatten.take (i*k)=(es.take i).flatten
 | [],i,_=>by simp
 |e::es,0,_=>by simp
 |e::es,i+1,h=>by
  have he:=h e (Aa ..);rw[Bz,IP,Bz,List.take_append,←KW es i fun x hx=>h x (Af _ hx),AT (by rw[he,DV];omega),he,show(i+1)*k-k=i*k by rw[DV];omega]
theorem Om{α:Type}{k:Nat}:∀(es:List (List α)) (i:Nat),(∀e∈es,e.length=k)→es.flatten.drop (i*k)=(es.drop i).flatten
 | [],i,_=>by simp
 |e::es,0,_=>by simp
 |e::es,i+1,h=>by
  have he:=h e (Aa ..);rw[Bz,List.drop_succ_cons,List.drop_append,←Om es i fun x hx=>h x (Af _ hx),Hf (by rw[he,DV];omega),he,show(i+1)*k-k=i*k by rw[DV];omega,D8]
section
variable {P:Program}
theorem Uk{f:Nat}{es:List (List AV)}{sz:Nat}{rest:List Value}{n' : Nat}{Q:List (List AV)→Prop}(hE:F1 P f)(DD:es≠[])(Xt : n'≤es.length)
  (h1:∀(g:Gh) (w:World) (b cap:Nat) (F:Array Value),CF g w Fp es.flatten F.toList→F.size=es.length*sz→Holds id w b 0 F→b<w.heap.size→es.length≤cap→Calls P f (#[.slice (some ⟨b,0,none⟩) es.length cap]++rest.toArray) w fun e w' =>
   e=.returned (.slice (some ⟨b,0,none⟩) n' cap)∧∃(F' : Array Value) (FA : List (List AV)) (n:Nat) (os:Array Obj),F'.size=F.size∧Q FA∧FA.length=es.length∧(∀cs∈FA,cs.length=sz) ∧
    (∀(g:Gh) (w:World),CF g w Fp es.flatten F.toList→CF g w Fp FA.flatten F'.toList)∧w'=grow (putRow id (Sort.ahead w n) b 0 F') os) :
  Be P f (.msl 1000 es.length::rest.map .v) (Aj [(1000,.arr sz es)] Ab) fun r h'=>r=.msl 2000 n'∧∃FA,Q FA∧h'=Aj [(1000,.dead),(2000,.arr sz (FA.take n'))] Ab:=by
 refine⟨hE,fun g w us hs hv hI=>?_⟩;have ho:=hI.objs 1000;have he:Aj [(1000,HO.arr sz es)] Ab 1000=.arr sz es:=rfl;rw[he]at ho;obtain⟨t1,l1,al,a2⟩:=ho;simp only[At,Bb]at hs;have uR:0<us.size:=by omega
 have oG:=hv 0 (.msl 1000 es.length) us[0] rfl (BF uR);have JY:us[0]=g.ρ 1000:=by
  generalize us[0]=x at oG;cases oG with
  |msl _ r n a cap hu ht hn ha hx=>exact hx l1.symm
 have KZ:us=#[g.ρ 1000]++rest.toArray:=by
  refine Array.ext (by simp;omega) fun i h1 h2=>?_;cases i with
  |zero=>rw[JY];simp
  |succ i =>
   have hi:i<rest.length:=by omega
   have:=hv (i+1) (.v rest[i]) us[i+1] (by simp[List.getElem?_eq_getElem hi]) (BF h1)
   rw[this.v_eq];simp
 rw[KZ];rcases a2 with ⟨b1,b2,b3⟩ | ⟨b,cap,E,vs,b1,b2,b3,b4,b5,b6,b7⟩
 ·exact absurd b1 DD
 ·have hl:(Aj [(1000,HO.arr sz es)] Ab 1000).live:=trivial;have DI:=(hI.loc 1000 b hl b2).1;have Hi:es.length*sz≤vs.size:=by rw[b5];exact Bj _ b3
  have hF:((vs.toList.take (es.length*sz)).toArray).size=es.length*sz:=by simp;omega
  have hH:Holds id w b 0 (vs.toList.take (es.length*sz)).toArray:=fun j hj=>by
   have hj:j<es.length*sz:=by rw[hF]at hj;exact hj
   refine⟨?_,?_⟩
   ·have qh:j<vs.size:=by omega
    simp only[World.cell?,b4,Bk,Option.isSome_none,Dk,Gg];rw[BF qh,DC _ j (by rw[hF];exact hj)];simp
   ·simp[World.frozen?,b4]
  rw[b1];refine(h1 g w b cap _ (by simpa using b6) hF hH DI b3).mono ?_
  rintro e w' ⟨rfl,F',FA,n,os,f1,f2,f3,f4,f5,rfl⟩
  have oq : F'.size=es.length*sz:=f1.trans hF;have qy:=M7 F' vs (by omega);have mU : (grow (putRow id (Sort.ahead w n) b 0 F') os).heap[b]?=some (.cells (putCells id 0 F' vs) E (0,0)):=by
   rw[heap_grow_old _ _ (by rw[size_putRow];exact DI)];show(w.heap.modify b (onCells (putCells id 0 F')))[b]?=_;rw[Array.getElem?_modify,Az rfl,b4];rfl
  have qr:∀k,k<w.heap.size→k≠b→(grow (putRow id (Sort.ahead w n) b 0 F') os).heap[k]?=w.heap[k]?:=fun k hk DD=>by
   rw[heap_grow_old _ _ (by rw[size_putRow];exact hk)];simp[putRow,mapBlock,Array.getElem?_modify,Ne.symm DD]
  have EH:w.heap.size≤(grow (putRow id (Sort.ahead w n) b 0 F') os).heap.size:=by rw[size_grow,size_putRow];show w.heap.size≤w.heap.size+_;omega
  obtain⟨k1,k2⟩:=hI.upd 1000 (.arr sz FA) (g.ρ 1000) (g.ln 1000) (g.tk 1000) (g.own 1000) g.S (grow (putRow id (Sort.ahead w n) b 0 F') os) (some b) ⟨rfl,rfl,rfl,EH⟩
   (fun k hk DD=>qr k hk (fun e=>DD (by rw[e]))) (fun b' e=>by cases e;exact⟨hl,b2⟩) (fun _ _ h=>h) (fun _ _ h=>.inl h) (fun b' o e hs=>by cases e;exact absurd hs (b7 o))
   (fun b' _ e=>by rw[b2]at e;cases e;exact⟨BJ DI EH,.inl ⟨hl,b2⟩⟩) (by simp) (fun _=>⟨rfl,Ak _,fun _=>rfl,fun _=>rfl⟩) (fun hg hk=>by
    refine⟨by simp[Gh.upd,t1],by simp[Gh.upd,l1,f3],f4,.inr ⟨b,cap,E,_,by simp[Gh.upd,b1,f3],by simp[Gh.upd,b2],by omega,mU,by rw[qy.2,b5],?_,b7⟩⟩
    have:=f5 g w (by simpa using b6)
    rw[f3,←oq,qy.1];exact this.mono hk (fun _ h=>h) (fun _ h=>h.elim))
  rw[Sz]at k1 k2;generalize ly : g.upd 1000 (g.ρ 1000) (g.ln 1000) (g.tk 1000) (g.own 1000) g.S=g' at k1 k2;have lC : g'.own 1000=some b:=by rw[←ly];simp[Gh.upd,b2]
  have qt:=k1.objs 1000;have iJ:Aj [(1000,HO.arr sz FA)] Ab 1000=.arr sz FA:=rfl;rw[iJ]at qt;obtain⟨m1,m2,m3,m4⟩:=qt;have hρ:g'.ρ 1000=.slice (some ⟨b,0,none⟩) es.length cap:=by rw[←ly];simp[Gh.upd,b1]
  have ur : FA≠[]:=fun e=>DD (AB (by rw[←f3,e];rfl));rcases m4 with ⟨m4,_⟩ | ⟨b',Lu,E',dy,c1,c2,c3,c4,c5,c6,c7⟩
  ·exact absurd m4 ur
  ·rw[hρ]at c1;simp only[Value.slice.injEq,Bo,Addr.mk.injEq,and_true]at c1;obtain⟨yw,c1b,yx⟩:=c1;subst yw;subst yx;have ft : (FA.take n').length=n':=by rw[AJ];omega
   obtain⟨k3,k4⟩:=k1.move 1000 2000 (by decide) rfl trivial lC (.arr sz (FA.take n')) (.slice (some ⟨b,0,none⟩) n' cap) n' true (by simp) (fun hk=>by
    refine⟨by simp[Gh.upd],by simp[Gh.upd,ft],fun cs hcs=>m3 cs (Er hcs),.inr ⟨b,cap,E',dy,by simp[Gh.upd,ft],by simp[Gh.upd],by omega,c4,c5,?_,c7⟩⟩
    have:=(c6.mono hk (fun _ h=>h) (fun _ h=>h.elim)).take (n'*sz)
    rw[KW FA n' m3,Kf,Nat.min_eq_left (Bj _ (by omega))]at this;rw[ft];exact this)
   have qd:AW (AW (Aj [(1000,HO.arr sz FA)] Ab) 1000 .dead) 2000 (.arr sz (FA.take n'))=Aj [(1000,.dead),(2000,.arr sz (FA.take n'))] Ab:=by
    funext i
    by_cases e1:i=2000
    ·subst e1;rw[Bd];rfl
    ·rw[B1 _ _ _ _ e1]
     by_cases e2:i=1000
     ·subst e2;rw[Bd];rfl
     ·rw[B1 _ _ _ _ e2];simp[Aj,CJ e1,CJ e2]
   rw[qd]at k3 k4;exact⟨_,.msl 2000 n',_,_,rfl,⟨rfl,FA,f2,rfl⟩,.msl _ 2000 n' (some ⟨b,0,none⟩) cap (by intro c;cases c) (by simp[Gh.upd]) (by simp[Gh.upd]) (.inr ⟨b,rfl⟩) (fun _=>by simp[Gh.upd]),k3,k2.trans k4⟩
end
end Go.Eng
namespace Go.Eng
def d8(a b:Fr):Bool :=
 (match a.2 with | some r=>!IC b.1 r | none=>true)&&(match b.2 with | some r=>!IC a.1 r | none=>true)
def Pl(ops:Array Oper)(oi:Oper)(fi:Fr)(D:List Nat)(k:Nat):List Oper→List Fr→Bool
 |o::r,f::fs=>(IC D k||(oi.apart ops o&&d8 fi f))&&Pl ops oi fi D (k+1) r fs
 | [],[]=>true
 |_,_=>false
def UE(ops:Array Oper)(all:List Oper)(k:Nat):List Oper→List Fr→Bool
 |o::r,f::fs =>
  let D:=Pr k [] 0 all
  (o.after.toList.all fun e=>!Region.binds .any e||Nat.blt e.on k)&&TC k D 0 all&&(D.all fun j=>Nat.blt k j&&Nat.blt j all.length)&&Pl ops o f D (k+1) r fs&&UE ops all (k+1) r fs
 | [],[]=>true
 |_,_=>false
def ZO(ops:Array Oper)(fs:List Fr):Bool:=Region.noSelect ops&&UE ops ops.toList 0 ops.toList fs
def PU(f:Fr):Prop:=∀r,f.2=some r→r<10000000
def Rv:List Fr→Prop
 | []=>True
 |f::r=>PU f∧Rv r
theorem A1(l:List Nat):PU (l,none):=fun _ h=>by cases h
theorem D2{l:List Nat}{r:Nat}(h:r<10000000):PU (l,some r):=fun _ e=>by cases e;exact h
theorem d9{a b:Fr}(ha:PU a)(hb:PU b)(h:d8 a b=true):RY a b=true:=by
 obtain⟨a1,a2⟩:=a;obtain⟨b1,b2⟩:=b;unfold d8 at h;unfold RY;rw[Ag]at h⊢;refine⟨?_,?_⟩
 ·cases a2 with
  |none=>rfl
  |some r =>
   have h1:(!IC b1 r)=true:=h.1;show XY b1 r=true;unfold XY;rw[CJ (show r≠VA by have:=ha r rfl;unfold VA;omega),El,h1,show Nat.blt r 10000000=true by rw[Cj];exact ha r rfl];rfl
 ·cases b2 with
  |none=>rfl
  |some r =>
   have h1:(!IC a1 r)=true:=h.2;show XY a1 r=true;unfold XY;rw[CJ (show r≠VA by have:=hb r rfl;unfold VA;omega),El,h1,show Nat.blt r 10000000=true by rw[Cj];exact hb r rfl];rfl
theorem Un{ops:Array Oper}{oi:Oper}{fi:Fr}{D:List Nat}(hi:PU fi):∀{l:List Oper} {fs:List Fr} {k:Nat},Rv fs→Pl ops oi fi D k l fs=true→Il ops oi fi D k l fs=true
 | [],[],_,_,h=>h
 |o::r,f::fs,k,hs,h=>by
  unfold Pl at h;unfold Il;rw[Ag,CE,Ag]at h⊢;exact⟨h.1.imp id (fun q=>⟨q.1,d9 hi hs.1 q.2⟩),Un hi hs.2 h.2⟩
 | [],_::_,_,_,h=>by simp[Pl]at h
 |_::_,[],_,_,h=>by simp[Pl]at h
theorem W2{ops:Array Oper}{all:List Oper}:∀{l:List Oper} {fs:List Fr} {k:Nat},Rv fs→UE ops all k l fs=true→LK ops all k l fs=true
 | [],[],_,_,h=>h
 |o::r,f::fs,k,hs,h=>by
  unfold UE at h;unfold LK;simp only[Ag]at h⊢;exact⟨⟨h.1.1,Un hs.1 hs.2 h.1.2⟩,W2 hs.2 h.2⟩
 | [],_::_,_,_,h=>by simp[UE]at h
 |_::_,[],_,_,h=>by simp[UE]at h
theorem IT{ops:Array Oper}{fs:List Fr}(hs:Rv fs)(h:ZO ops fs=true):RZ ops fs=true:=by
 unfold ZO at h;unfold RZ;rw[Ag]at h⊢;exact⟨h.1,W2 hs h.2⟩
theorem Qp{cx:Cx}{d:Option Nat}{h:Nat→HO}{ty e m:Nat}{r:Nat}{es es2:List (List AV)}{x:AV}{K:HK}(uQ:(cx.T ty).d=.slice e)(hz:Nat.beq (cx.T e).zc.length (cx.T e).size=true)(EH:(cx.T e).size=m+1)
  (hx:∀K' : List (List AV)→Prop,K' es2→KV h x K') (hr:h r=.tok (m+1) es.length) (hl:Dp (m+1) es2) (hb:(es.length+es2.length)*(cx.T e).bytes≤140737488355328) (hc:es.length+es2.length≤9223372036854775807)
  (hk:K (.slice (.id r (m+1)) (es++es2)) (AW h r (.tok (m+1) (es.length+es2.length)))):H9 cx d h ty (.slice (.id r (m+1)) es) x K:=by
 have hq:Nat.beq (m+1) (m+1)=true:=CV _;unfold H9;rw[uQ];rw[EH]at hz;simp only[EH,hz];refine hx _ ?_;simp only[hr,hq];exact⟨⟨hl,trivial,hb,hc⟩,hk⟩
theorem Qo{cx:Cx}{d:Nat}{h:Nat→HO}{ty e m:Nat}{es2:List (List AV)}{x:AV}{K:HK}(uQ:(cx.T ty).d=.slice e)(hz:Nat.beq (cx.T e).zc.length (cx.T e).size=true)(EH:(cx.T e).size=m+1)
  (hx:∀K' : List (List AV)→Prop,K' es2→KV h x K') (hr:h (Kq cx d)=.free) (ha:GA cx.pl.arr d=none) (hl:Dp (m+1) es2) (hb:es2.length*(cx.T e).bytes≤140737488355328) (hc:es2.length≤9223372036854775807)
  (hk:K (.slice (.id (Kq cx d) (m+1)) es2) (AW h (Kq cx d) (.tok (m+1) es2.length))):H9 cx (some d) h ty (.v (.slice none 0 0)) x K:=by
 unfold H9;rw[uQ];rw[EH]at hz;simp only[EH,hz];refine hx _ ?_;refine⟨⟨EH▸hl,hb,hc⟩,?_⟩;unfold Ew;simp only[hr,ha];exact hk
end Go.Eng
namespace Go.Eng
open Go.RowKit
section
variable {P:Program}
end
end Go.Eng
namespace Go.Eng
def VL:Obj→Bool
 |.cells ..=>false
 |.map ..=>false
 |.mapIter ..=>false
 |.loop r=>!N4 [] r.body
 |_=>true
structure ZG(n0 x:Nat)(w:World)(g:Gh)(h:Nat→HO)(w' : World)(g' : Gh)(h' : Nat→HO):Prop where
 os:w'.os=w.os
 tape:w'.tape=w.tape
 output:w'.output=w.output
 size:w.heap.size≤w'.heap.size
 frame:∀b,b<n0→b≠x→(∀r,(h r).live→g.own r≠some b)→w'.heap[b]?=w.heap[b]?
 loc:∀r b,(h' r).live→g'.own r=some b→n0≤b∨∃r',(h r').live∧g.own r'=some b
 sg:∀b o,g'.S b o→g.S b o∨n0≤b∨∃r',(h r').live∧g.own r'=some b
 le:Le h g w h' g' w'
section
variable {P:Program}{N:Nat}{ds:List Deferred}{n0 x:Nat}{w w' w1 w2:World}{g g' g1 g2:Gh}{h h' h1 h2:Nat→HO}
theorem ZG.trans(a:ZG n0 x w g h w1 g1 h1)(b:ZG n0 x w1 g1 h1 w2 g2 h2):ZG n0 x w g h w2 g2 h2 where
 os:=b.os.trans a.os
 tape:=b.tape.trans a.tape
 output:=b.output.trans a.output
 size:=A5 a.size b.size
 frame c hc hx hn:=(b.frame c hc hx fun r hl e=>by
  rcases a.loc r c hl e with h | ⟨r',h1,h2⟩
  ·omega
  ·exact hn r' h1 h2).trans (a.frame c hc hx hn)
 loc r c hl e:=by
  rcases b.loc r c hl e with h | ⟨r',h1,h2⟩
  ·exact .inl h
  ·exact a.loc r' c h1 h2
 sg c o hs:=by
  rcases b.sg c o hs with h | h | ⟨r',h1,h2⟩
  ·exact a.sg c o h
  ·exact .inr (.inl h)
  ·rcases a.loc r' c h1 h2 with h | h
   ·exact .inr (.inl h)
   ·exact .inr (.inr h)
 le:=a.le.trans b.le
theorem ZG.of_inv(hI:DJ w g h h' g' w')(hL:Le h g w h' g' w')(hn:n0≤w.heap.size):ZG n0 x w g h w' g' h' where
 os:=hI.os
 tape:=hI.tape
 output:=hI.output
 size:=hI.size
 frame c hc _ Xt:=hI.frame c (by omega) Xt
 loc r c hl e:=by
  rcases(hI.loc r c hl e).2 with h | h
  ·exact .inl (by omega)
  ·exact .inr h
 sg c o hs:=by
  rcases hI.sg c o hs with h | h | h
  ·exact .inl h
  ·exact .inr (.inl (by omega))
  ·exact .inr (.inr h)
 le:=hL
theorem DJ.base(hI:DJ w g h h' g' w'):DJ w' g' h' h' g' w' where
 os:=rfl
 tape:=rfl
 output:=rfl
 size:=Ak _
 frame _ _ _:=rfl
 slt:=hI.slt
 objs:=hI.objs
 inj:=hI.inj
 loc r b hl e:=⟨(hI.loc r b hl e).1,.inr ⟨r,hl,e⟩⟩
 sg _ _ hs:=.inl hs
 glob:=hI.glob
theorem DJ.of_seg(hI:DJ w' g' h' h' g' w')(s:ZG w.heap.size x w g h w' g' h')(hx:x<w.heap.size→w'.heap[x]?=w.heap[x]?):DJ w g h h' g' w' where
 os:=s.os
 tape:=s.tape
 output:=s.output
 size:=s.size
 frame b hb hn:=by
  by_cases e:b=x
  ·subst e;exact hx hb
  ·exact s.frame b hb e hn
 slt:=hI.slt
 objs:=hI.objs
 inj:=hI.inj
 loc r b hl e:=⟨(hI.loc r b hl e).1,s.loc r b hl e⟩
 sg:=s.sg
 glob:=hI.glob
theorem ON{U:Nat→Prop}{r b:Nat}{o:HO}{ob:Obj}(ho:Ea g w U r o)(hl:o.live)(e:g.own r=some b)(hb:w.heap[b]?=some ob)(hd:VL ob=true):False:=by
 cases o with
 |free=>exact hl
 |dead=>exact hl
 |ro cs=>exact hl
 |rom sh B4=>exact hl
 |cells cs =>
  obtain⟨_,b',E,vs,h1,_,h3,_⟩:=ho;rw[e]at h1;cases h1;rw[hb]at h3;cases h3;cases hd
 |tok sz n =>
  obtain⟨_,_,a,cap,_,(⟨_,h1⟩ | ⟨_,b',E,vs,off,_,h1,h3,_⟩)⟩:=ho
  ·rw[e]at h1;cases h1
  ·rw[e]at h1;cases h1;rw[hb]at h3;cases h3;cases hd
 |vox v=>exact hl
 |hol sz es i c av =>
  obtain⟨_,_,_,b',cap,E,vs,_,h1,_,h3,_⟩:=ho;rw[e]at h1;cases h1;rw[hb]at h3;cases h3;cases hd
 |raw b' aw =>
  obtain⟨_,h1,h2,h3,_⟩:=ho;rw[e]at h1;cases h1;rw[hb]at h2;cases h2;cases ob<;>simp[VL,pc]at hd h3
  rw[hd]at h3;cases h3
 |var sz v n =>
  obtain⟨_,_,a,cap,_,(⟨_,h1⟩ | ⟨_,b',E,vs,off,_,h1,h3,_⟩)⟩:=ho
  ·rw[e]at h1;cases h1
  ·rw[e]at h1;cases h1;rw[hb]at h3;cases h3;cases hd
 |arr sz es =>
  obtain⟨_,_,_,(⟨_,_,h1⟩ | ⟨b',cap,E,vs,_,h1,_,h3,_⟩)⟩:=ho
  ·rw[e]at h1;cases h1
  ·rw[e]at h1;cases h1;rw[hb]at h3;cases h3;cases hd
 |map sh B4 =>
  obtain⟨_,b',es,ck,h1,_,h3,_⟩:=ho;rw[e]at h1;cases h1;rw[hb]at h3;cases h3;cases hd
 |mapU sh B4 =>
  obtain⟨_,b',es,ck,h1,_,h3,_⟩:=ho;rw[e]at h1;cases h1;rw[hb]at h3;cases h3;cases hd
 |iter all rem Fz =>
  obtain⟨_,b',mb,JP,seen,st,es,ck,h1,_,h3,_⟩:=ho;rw[e]at h1;cases h1;rw[hb]at h3;cases h3;cases hd
theorem DJ.dullS(hI:DJ w g h h g w)(ho:w'.os=w.os∧w'.tape=w.tape∧w'.output=w.output)(EH:w.heap.size≤w'.heap.size)
  (hb:∀b,b<w.heap.size→w'.heap[b]?=w.heap[b]?∨∃o o',w.heap[b]?=some o∧w'.heap[b]?=some o'∧VL o=true∧VL o'=true)
  (hn:∀b,b<n0→b≠x→w'.heap[b]?=w.heap[b]?):DJ w' g h h g w'∧ZG n0 x w g h w' g h:=by
 have hk:EY g w g w':=fun b o hs=>by
  refine⟨hs,?_⟩;rcases hb b (hI.slt b o hs)with e | ⟨ob,aw,e1,e2,d1,d2⟩
  ·exact⟨by simp only[World.cell?,e],fun es ck he=>e.trans he⟩
  ·refine⟨?_,fun es ck he=>?_⟩
   ·simp only[World.cell?,e1,e2];cases ob<;>cases aw<;>first | rfl | (cases d1;done) | (cases d2;done)
   ·rw[e1]at he;cases he;cases d1
 have V3:∀r b,(h r).live→g.own r=some b→w'.heap[b]?=w.heap[b]?:=fun r b hl e=>by
  rcases hb b (hI.loc r b hl e).1 with e' | ⟨ob,aw,e1,_,d1,_⟩
  ·exact e'
  ·exact(ON (hI.objs r) hl e e1 d1).elim
 refine⟨⟨rfl,rfl,rfl,Ak _,fun _ _ _=>rfl,fun b o hs=>BJ (hI.slt b o hs) EH,fun r=>?_,hI.inj,fun r b hl e=>⟨BJ (hI.loc r b hl e).1 EH,.inr ⟨r,hl,e⟩⟩,fun _ _ hs=>.inl hs,hI.glob.keep hk⟩,⟨ho.1,ho.2.1,ho.2.2,EH,fun b mU hx _=>hn b mU hx,fun r b hl e=>.inr ⟨r,hl,e⟩,fun _ _ hs=>.inl hs,⟨.refl _ _,fun _ h=>h,hk⟩⟩⟩;exact(hI.objs r).same hk (fun _ h=>h) (.refl _ _) rfl rfl rfl rfl fun b hl e=>⟨V3 r b hl e,fun _ h=>h⟩
theorem DJ.put(hI:DJ w g h h g w){l:Nat}{o o' : Obj}(hl:w.heap[l]?=some o)(hd:VL o=true)(jL : VL o'=true)(hx:n0≤l∨l=x) :
  DJ (w.putObj l o') g h h g (w.putObj l o')∧ZG n0 x w g h (w.putObj l o') g h:=by
 have DI:l<w.heap.size:=(By.1 hl).1;refine hI.dullS ⟨rfl,rfl,rfl⟩ (by simp[World.putObj]) (fun b _=>?_) (fun b hb DD=>?_)
 ·by_cases e:b=l
  ·subst e;exact .inr ⟨o,o',hl,World.putObj_heap_same DI,hd,jL⟩
  ·exact .inl (World.putObj_heap_other e)
 ·refine World.putObj_heap_other fun e=>?_;rcases hx with h | h
  ·omega
  ·exact DD (e.trans h)
theorem DJ.allocS(hI:DJ w g h h g w)(o:Obj)(hn:n0≤w.heap.size):DJ (w.alloc o) g h h g (w.alloc o)∧ZG n0 x w g h (w.alloc o) g h:=by
 refine hI.dullS ⟨rfl,rfl,rfl⟩ (by rw[World.size_alloc];omega) (fun b hb=>.inl (heap_alloc_old _ _ hb)) (fun b hb _=>heap_alloc_old _ _ (by omega))
end
end Go.Eng
