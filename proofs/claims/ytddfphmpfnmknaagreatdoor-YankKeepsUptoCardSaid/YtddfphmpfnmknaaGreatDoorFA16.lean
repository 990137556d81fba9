/- Lemmas for the claims of this seat, without a condition: part 16 (Tab, EngZG, EngZH, EngZI, EngZJ, EngZK, EngZM, EngZN, EngZO). -/
import Derived.Test.YtddfphmpfnmknaaGreatDoorFA15
import Derived.Test.YtddfphmpfnmknaaGreatDoorProg
import Derived.Sort.Grow
import Derived.Shelf.GgSortFunc.InsertionK
import Derived.Below
import Derived.RangeFuncLeaves
import Derived.RangeFuncNested
namespace Go.Eng
open Go.Proofs
abbrev xA:TI := iI
abbrev tF:TI := ⟨.func,1,8,.nilFunc,true⟩
abbrev tI:TI := ⟨.int .i64,1,8,.int .i64 0,true⟩
abbrev tP(n:Nat):TI := ⟨.ptr n,1,8,.pointer none,true⟩
abbrev tS(n:Nat):TI := ⟨.slice n,1,24,.slice none 0 0,true⟩
def gQ{α:Type}(d:α):List α → Nat → α
 | [],_ => d
 |a::r,n => match n with |0 => a |n + 1 => gQ d r n
def wN:List TI := [⟨.other,1,0,(.tuple #[]),true⟩,tF,tI,tI,⟨.bool,1,1,(.bool .false),true⟩,⟨.int .u8,1,1,(.int .u8 0),true⟩,⟨.int .u8,1,1,(.int .u8 0),true⟩,⟨.struct [(2,0),(3,1),(4,2),(6,3)],4,24,(.agg #[.int .i64 0,.int .i64 0,.bool .false,.int .u8 0]),true⟩,⟨.struct [(2,0),(3,1),(4,2),(6,3)],4,24,(.agg #[.int .i64 0,.int .i64 0,.bool .false,.int .u8 0]),true⟩,⟨.string,1,16,(.string ⟨#[]⟩),true⟩,⟨.string,1,16,(.string ⟨#[]⟩),true⟩,⟨.string,1,16,(.string ⟨#[]⟩),true⟩,⟨.int .u64,1,8,(.int .u64 0),true⟩,⟨.struct [(9,0),(12,1)],2,24,(.agg #[.string ⟨#[]⟩,.int .u64 0]),false⟩,⟨.struct [(9,0),(12,1)],2,24,(.agg #[.string ⟨#[]⟩,.int .u64 0]),false⟩,tP 323]
def wO:List TI := [tP 326,tP 335,⟨.struct [(17,0)],1,8,(.agg #[.pointer none]),false⟩,⟨.struct [(17,0)],1,8,(.agg #[.pointer none]),false⟩,⟨.iface,1,16,.nilIface,true⟩,⟨.int .i32,1,4,(.int .i32 0),true⟩,tS 41,tS 132,⟨.struct [(22,0),(23,1)],2,48,(.agg #[.slice none 0 0,.slice none 0 0]),true⟩,⟨.struct [(22,0),(23,1)],2,48,(.agg #[.slice none 0 0,.slice none 0 0]),true⟩,⟨.struct [(3,0),(3,1),(3,2)],3,24,(.agg #[.int .i64 0,.int .i64 0,.int .i64 0]),true⟩,⟨.struct [(3,0),(3,1),(3,2)],3,24,(.agg #[.int .i64 0,.int .i64 0,.int .i64 0]),true⟩,⟨.struct [(9,0),(27,1)],4,40,(.agg #[.string ⟨#[]⟩,.int .i64 0,.int .i64 0,.int .i64 0]),true⟩,⟨.struct [(9,0),(27,1)],4,40,(.agg #[.string ⟨#[]⟩,.int .i64 0,.int .i64 0,.int .i64 0]),true⟩,tF,tF]
def wP:List TI := [tI,⟨.other,1,0,(.tuple #[.agg #[.slice none 0 0,.slice none 0 0],.int .i64 0]),true⟩,tF,tF,tF,⟨.other,1,0,(.tuple #[.agg #[.string ⟨#[]⟩,.int .i64 0,.int .i64 0,.int .i64 0],.int .i64 0]),true⟩,tF,tS 71,⟨.struct [(9,0),(27,1),(39,4),(9,5),(9,6),(9,7),(4,8)],9,120,(.agg #[.string ⟨#[]⟩,.int .i64 0,.int .i64 0,.int .i64 0,.slice none 0 0,.string ⟨#[]⟩,.string ⟨#[]⟩,.string ⟨#[]⟩,.bool .false]),true⟩,⟨.struct [(9,0),(27,1),(39,4),(9,5),(9,6),(9,7),(4,8)],9,120,(.agg #[.string ⟨#[]⟩,.int .i64 0,.int .i64 0,.int .i64 0,.slice none 0 0,.string ⟨#[]⟩,.string ⟨#[]⟩,.string ⟨#[]⟩,.bool .false]),true⟩,⟨.other,1,0,(.tuple #[.agg #[.string ⟨#[]⟩,.int .i64 0,.int .i64 0,.int .i64 0,.slice none 0 0,.string ⟨#[]⟩,.string ⟨#[]⟩,.string ⟨#[]⟩,.bool .false],.bool .false]),true⟩,tF,tF,tS 29,⟨.other,1,0,(.tuple #[.slice none 0 0,.int .i64 0]),true⟩,tF]
def wQ:List TI := [tF,tF,tF,tF,tF,tF,tF,tS 60,⟨.other,1,0,(.tuple #[.slice none 0 0,.int .i64 0]),true⟩,tF,tF,⟨.struct [(9,0),(3,1),(3,2)],3,32,(.agg #[.string ⟨#[]⟩,.int .i64 0,.int .i64 0]),true⟩,⟨.struct [(9,0),(3,1),(3,2)],3,32,(.agg #[.string ⟨#[]⟩,.int .i64 0,.int .i64 0]),true⟩,tF,⟨.int .u16,1,2,(.int .u16 0),true⟩,tF]
def wR:List TI := [tF,tF,⟨.struct [(3,0),(3,1)],2,16,(.agg #[.int .i64 0,.int .i64 0]),true⟩,⟨.struct [(3,0),(3,1)],2,16,(.agg #[.int .i64 0,.int .i64 0]),true⟩,tS 67,tS 67,⟨.struct [(9,0),(69,1)],2,40,(.agg #[.string ⟨#[]⟩,.slice none 0 0]),true⟩,⟨.struct [(9,0),(69,1)],2,40,(.agg #[.string ⟨#[]⟩,.slice none 0 0]),true⟩,tF,tF,tF,tF,tF,tF,⟨.other,1,0,(.tuple #[.int .i64 0,.int .i64 0]),true⟩,tF]
def wS:List TI := [tF,⟨.map 29 41,1,8,(.map none),true⟩,⟨.map 9 22,1,8,(.map none),true⟩,⟨.struct [(81,0),(82,1)],2,16,(.agg #[.map none,.map none]),true⟩,⟨.struct [(81,0),(82,1)],2,16,(.agg #[.map none,.map none]),true⟩,⟨.other,1,0,(.tuple #[.agg #[.map none,.map none],.int .i64 0]),true⟩,tF,tF,tS 192,tS 170,⟨.struct [(4,0),(45,1),(88,2),(89,3)],4,80,(.agg #[.bool .false,.slice none 0 0,.slice none 0 0,.slice none 0 0]),true⟩,⟨.struct [(4,0),(45,1),(88,2),(89,3)],4,80,(.agg #[.bool .false,.slice none 0 0,.slice none 0 0,.slice none 0 0]),true⟩,⟨.other,1,0,(.tuple #[.agg #[.bool .false,.slice none 0 0,.slice none 0 0,.slice none 0 0],.int .i64 0]),true⟩,tF,tF,tF]
def wT:List TI := [tF,tF,tP 41,tF,tF,tF,tF,tF,tF,⟨.array 3 3,3,24,(.agg #[.int .i64 0,.int .i64 0,.int .i64 0]),true⟩,tF,tF,tP 119,tF,⟨.other,1,0,(.tuple #[.int .i64 0,.bool .false]),true⟩,tF]
def wU:List TI := [⟨.map 9 116,1,8,(.map none),true⟩,⟨.map 9 69,1,8,(.map none),true⟩,tS 168,⟨.map 192 3,1,8,(.map none),true⟩,tS 150,tS 89,⟨.struct [(39,0),(112,1),(113,2),(88,3),(114,4),(115,5),(4,6),(116,7),(45,8),(117,9)],10,176,(.agg #[.slice none 0 0,.map none,.map none,.slice none 0 0,.slice none 0 0,.map none,.bool .false,.slice none 0 0,.slice none 0 0,.slice none 0 0]),true⟩,⟨.struct [(39,0),(112,1),(113,2),(88,3),(114,4),(115,5),(4,6),(116,7),(45,8),(117,9)],10,176,(.agg #[.slice none 0 0,.map none,.map none,.slice none 0 0,.slice none 0 0,.map none,.bool .false,.slice none 0 0,.slice none 0 0,.slice none 0 0]),true⟩,tF,tF,tF,tF,⟨.other,1,0,(.tuple #[.slice none 0 0,.int .i64 0]),true⟩,tF,tF,tS 343]
def wV:List TI := [tS 345,tS 347,tS 349,⟨.struct [(9,0),(127,1),(128,2),(129,3),(130,4)],5,112,(.agg #[.string ⟨#[]⟩,.slice none 0 0,.slice none 0 0,.slice none 0 0,.slice none 0 0]),true⟩,⟨.struct [(9,0),(127,1),(128,2),(129,3),(130,4)],5,112,(.agg #[.string ⟨#[]⟩,.slice none 0 0,.slice none 0 0,.slice none 0 0,.slice none 0 0]),true⟩,tS 45,⟨.other,1,0,(.tuple #[.slice none 0 0,.int .i64 0]),true⟩,tF,⟨.map 9 3,1,8,(.map none),true⟩,⟨.other,1,0,(.tuple #[.map none,.bool .false]),true⟩,tF,tS 9,tF,tF,tF,tF]
def wW:List TI := [⟨.other,1,0,(.tuple #[.string ⟨#[]⟩,.int .i64 0,.int .i64 0]),true⟩,tF,tF,tF,tF,⟨.struct [(3,0),(41,1)],10,128,(.agg #[.int .i64 0,.string ⟨#[]⟩,.int .i64 0,.int .i64 0,.int .i64 0,.slice none 0 0,.string ⟨#[]⟩,.string ⟨#[]⟩,.string ⟨#[]⟩,.bool .false]),true⟩,⟨.struct [(3,0),(41,1)],10,128,(.agg #[.int .i64 0,.string ⟨#[]⟩,.int .i64 0,.int .i64 0,.int .i64 0,.slice none 0 0,.string ⟨#[]⟩,.string ⟨#[]⟩,.string ⟨#[]⟩,.bool .false]),true⟩,tF,tS 158,⟨.other,1,0,(.tuple #[.string ⟨#[]⟩,.slice none 0 0]),true⟩,tF,tS 3,tF,⟨.struct [(71,0),(9,2),(3,3),(3,4)],5,72,(.agg #[.string ⟨#[]⟩,.slice none 0 0,.string ⟨#[]⟩,.int .i64 0,.int .i64 0]),true⟩,⟨.struct [(71,0),(9,2),(3,3),(3,4)],5,72,(.agg #[.string ⟨#[]⟩,.slice none 0 0,.string ⟨#[]⟩,.int .i64 0,.int .i64 0]),true⟩,tF]
def rD:List TI := [tF,tF,tF,⟨.other,1,0,(.tuple #[.agg #[.string ⟨#[]⟩,.slice none 0 0,.string ⟨#[]⟩,.int .i64 0,.int .i64 0],.bool .false]),true⟩,tF,tF,tF,tS 198,tS 198,⟨.struct [(9,0),(3,1),(3,2)],3,32,(.agg #[.string ⟨#[]⟩,.int .i64 0,.int .i64 0]),true⟩,⟨.struct [(9,0),(3,1),(3,2)],3,32,(.agg #[.string ⟨#[]⟩,.int .i64 0,.int .i64 0]),true⟩,tF,tF,tF,⟨.int .u64,1,8,(.int .u64 0),true⟩,tF]
def rE:List TI := [tF,tF,tF,tF,tF,tP 71,tF,tF,tF,tF,tF,tF,tF,tF,tF,⟨.struct [(3,0),(9,1),(3,2),(3,3),(3,4),(3,5)],6,56,(.agg #[.int .i64 0,.string ⟨#[]⟩,.int .i64 0,.int .i64 0,.int .i64 0,.int .i64 0]),true⟩]
def rF:List TI := [⟨.struct [(3,0),(9,1),(3,2),(3,3),(3,4),(3,5)],6,56,(.agg #[.int .i64 0,.string ⟨#[]⟩,.int .i64 0,.int .i64 0,.int .i64 0,.int .i64 0]),true⟩,tF,tF,tF,tF,⟨.struct [(9,0),(4,1),(69,2)],3,48,(.agg #[.string ⟨#[]⟩,.bool .false,.slice none 0 0]),true⟩,⟨.struct [(9,0),(4,1),(69,2)],3,48,(.agg #[.string ⟨#[]⟩,.bool .false,.slice none 0 0]),true⟩,tF,tF,⟨.other,1,0,(.tuple #[.slice none 0 0,.int .i64 0]),true⟩,tF,tF,tI,⟨.other,1,0,(.tuple #[.int .i64 0,.int .i64 0]),true⟩,tF,tF]
def rG:List TI := [tF,tF,tF,⟨.int .u32,1,4,(.int .u32 0),true⟩,tF,⟨.int .u64,1,8,(.int .u64 0),true⟩,tF,tF,⟨.other,1,0,(.tuple #[.string ⟨#[]⟩,.bool .false]),true⟩,tF,tF,tF,tF,tF,tF,tF]
def rH:List TI := [tF,tF,tF,tF,tF,tF,tF,tF,tF,tF,tF,tF,tF,tF,tF,tF]
def rI:List TI := [⟨.other,1,0,(.tuple #[.agg #[.string ⟨#[]⟩,.bool .false,.slice none 0 0],.slice none 0 0,.bool .false]),true⟩,tF,⟨.other,1,0,(.tuple #[.slice none 0 0,.bool .false]),true⟩,tF,tF,⟨.int .u64,1,8,(.int .u64 0),true⟩,tF,tF,tF,tP 3,tF,tF,tF,tF,⟨.other,1,0,(.tuple #[.agg #[.string ⟨#[]⟩,.int .i64 0,.int .i64 0,.int .i64 0],.bool .false]),true⟩,tF]
def rJ:List TI := [tF,tF,tF,tF,⟨.other,1,0,(.tuple #[.int .u32 0,.int .u32 0]),true⟩,tF,tF,tF,tF,tF,tF,tF,tF,⟨.map 9 198,1,8,(.map none),true⟩,tF,tF]
def rK:List TI := [tF,tF,tP 245,⟨.other,1,0,(.tuple #[.int .i64 0,.int .i64 0]),true⟩,tF,tF,tF,tF,tF,tF,tF,tF,tF,tS 69,⟨.map 3 3,1,8,(.map none),true⟩,tF]
def rL:List TI := [⟨.other,1,0,(.tuple #[.agg #[.string ⟨#[]⟩,.bool .false,.slice none 0 0],.bool .false]),true⟩,tF,tS 5,⟨.other,1,0,(.tuple #[.int .i32 0,.int .i64 0]),true⟩,tF,tF,tF,tF,tF,tF,tF,tF,tF,tF,tF,tF]
def rM:List TI := [tF,tF,tF,tF,tF,tF,tF,tF,tF,⟨.array 256 5,256,256,(.agg (([.int .u8 0,.int .u8 0,.int .u8 0,.int .u8 0,.int .u8 0,.int .u8 0,.int .u8 0,.int .u8 0,.int .u8 0,.int .u8 0,.int .u8 0,.int .u8 0,.int .u8 0,.int .u8 0,.int .u8 0,.int .u8 0,.int .u8 0,.int .u8 0,.int .u8 0,.int .u8 0,.int .u8 0,.int .u8 0,.int .u8 0,.int .u8 0,.int .u8 0,.int .u8 0,.int .u8 0,.int .u8 0,.int .u8 0,.int .u8 0,.int .u8 0,.int .u8 0,.int .u8 0,.int .u8 0,.int .u8 0,.int .u8 0,.int .u8 0,.int .u8 0,.int .u8 0,.int .u8 0,.int .u8 0,.int .u8 0,.int .u8 0,.int .u8 0,.int .u8 0,.int .u8 0,.int .u8 0,.int .u8 0,.int .u8 0,.int .u8 0,.int .u8 0,.int .u8 0,.int .u8 0,.int .u8 0,.int .u8 0,.int .u8 0,.int .u8 0,.int .u8 0,.int .u8 0,.int .u8 0,.int .u8 0,.int .u8 0,.int .u8 0,.int .u8 0].append [.int .u8 0,.int .u8 0,.int .u8 0,.int .u8 0,.int .u8 0,.int .u8 0,.int .u8 0,.int .u8 0,.int .u8 0,.int .u8 0,.int .u8 0,.int .u8 0,.int .u8 0,.int .u8 0,.int .u8 0,.int .u8 0,.int .u8 0,.int .u8 0,.int .u8 0,.int .u8 0,.int .u8 0,.int .u8 0,.int .u8 0,.int .u8 0,.int .u8 0,.int .u8 0,.int .u8 0,.int .u8 0,.int .u8 0,.int .u8 0,.int .u8 0,.int .u8 0,.int .u8 0,.int .u8 0,.int .u8 0,.int .u8 0,.int .u8 0,.int .u8 0,.int .u8 0,.int .u8 0,.int .u8 0,.int .u8 0,.int .u8 0,.int .u8 0,.int .u8 0,.int .u8 0,.int .u8 0,.int .u8 0,.int .u8 0,.int .u8 0,.int .u8 0,.int .u8 0,.int .u8 0,.int .u8 0,.int .u8 0,.int .u8 0,.int .u8 0,.int .u8 0,.int .u8 0,.int .u8 0,.int .u8 0,.int .u8 0,.int .u8 0,.int .u8 0]).append ([.int .u8 0,.int .u8 0,.int .u8 0,.int .u8 0,.int .u8 0,.int .u8 0,.int .u8 0,.int .u8 0,.int .u8 0,.int .u8 0,.int .u8 0,.int .u8 0,.int .u8 0,.int .u8 0,.int .u8 0,.int .u8 0,.int .u8 0,.int .u8 0,.int .u8 0,.int .u8 0,.int .u8 0,.int .u8 0,.int .u8 0,.int .u8 0,.int .u8 0,.int .u8 0,.int .u8 0,.int .u8 0,.int .u8 0,.int .u8 0,.int .u8 0,.int .u8 0,.int .u8 0,.int .u8 0,.int .u8 0,.int .u8 0,.int .u8 0,.int .u8 0,.int .u8 0,.int .u8 0,.int .u8 0,.int .u8 0,.int .u8 0,.int .u8 0,.int .u8 0,.int .u8 0,.int .u8 0,.int .u8 0,.int .u8 0,.int .u8 0,.int .u8 0,.int .u8 0,.int .u8 0,.int .u8 0,.int .u8 0,.int .u8 0,.int .u8 0,.int .u8 0,.int .u8 0,.int .u8 0,.int .u8 0,.int .u8 0,.int .u8 0,.int .u8 0].append [.int .u8 0,.int .u8 0,.int .u8 0,.int .u8 0,.int .u8 0,.int .u8 0,.int .u8 0,.int .u8 0,.int .u8 0,.int .u8 0,.int .u8 0,.int .u8 0,.int .u8 0,.int .u8 0,.int .u8 0,.int .u8 0,.int .u8 0,.int .u8 0,.int .u8 0,.int .u8 0,.int .u8 0,.int .u8 0,.int .u8 0,.int .u8 0,.int .u8 0,.int .u8 0,.int .u8 0,.int .u8 0,.int .u8 0,.int .u8 0,.int .u8 0,.int .u8 0,.int .u8 0,.int .u8 0,.int .u8 0,.int .u8 0,.int .u8 0,.int .u8 0,.int .u8 0,.int .u8 0,.int .u8 0,.int .u8 0,.int .u8 0,.int .u8 0,.int .u8 0,.int .u8 0,.int .u8 0,.int .u8 0,.int .u8 0,.int .u8 0,.int .u8 0,.int .u8 0,.int .u8 0,.int .u8 0,.int .u8 0,.int .u8 0,.int .u8 0,.int .u8 0,.int .u8 0,.int .u8 0,.int .u8 0,.int .u8 0,.int .u8 0,.int .u8 0])).toArray),true⟩,⟨.struct [(5,0),(5,1)],2,2,(.agg #[.int .u8 0,.int .u8 0]),true⟩,⟨.struct [(5,0),(5,1)],2,2,(.agg #[.int .u8 0,.int .u8 0]),true⟩,⟨.array 16 315,32,32,(.agg (Array.replicate 32 (.int .u8 0))),true⟩,tF,tF,tF]
def rN:List TI := [tF,tF,⟨.struct [(17,0),(17,1),(17,2),(9,3)],4,40,(.agg #[.pointer none,.pointer none,.pointer none,.string ⟨#[]⟩]),false⟩,⟨.struct [(17,0),(17,1),(17,2),(9,3)],4,40,(.agg #[.pointer none,.pointer none,.pointer none,.string ⟨#[]⟩]),false⟩,⟨.array 0 16,0,0,(.agg #[]),true⟩,⟨.other,0,0,(.agg #[]),false⟩,⟨.other,0,0,(.agg #[]),false⟩,tF,⟨.int .u8,1,1,(.int .u8 0),true⟩,⟨.int .u8,1,1,(.int .u8 0),true⟩,tF,tP 5,⟨.int .i32,1,4,(.int .i32 0),true⟩,⟨.int .i32,1,4,(.int .i32 0),true⟩,⟨.struct [(12,0),(12,1),(211,2),(328,3),(5,4),(5,5),(329,6),(330,7),(331,8),(332,9),(333,10)],11,48,(.agg #[.int .u64 0,.int .u64 0,.int .u32 0,.int .u8 0,.int .u8 0,.int .u8 0,.int .u8 0,.nilFunc,.pointer none,.int .i32 0,.int .i32 0]),false⟩,⟨.struct [(12,0),(12,1),(211,2),(328,3),(5,4),(5,5),(329,6),(330,7),(331,8),(332,9),(333,10)],11,48,(.agg #[.int .u64 0,.int .u64 0,.int .u32 0,.int .u8 0,.int .u8 0,.int .u8 0,.int .u8 0,.nilFunc,.pointer none,.int .i32 0,.int .i32 0]),false⟩]
def rO:List TI := [tF,tS 352,tS 341,tS 354,⟨.struct [(3,0),(9,1),(9,2),(338,3),(339,4)],5,88,(.agg #[.int .i64 0,.string ⟨#[]⟩,.string ⟨#[]⟩,.slice none 0 0,.slice none 0 0]),true⟩,⟨.struct [(3,0),(9,1),(9,2),(338,3),(339,4)],5,88,(.agg #[.int .i64 0,.string ⟨#[]⟩,.string ⟨#[]⟩,.slice none 0 0,.slice none 0 0]),true⟩,⟨.struct [(9,0),(337,1),(341,2),(341,7)],12,216,(.agg #[.string ⟨#[]⟩,.slice none 0 0,.int .i64 0,.string ⟨#[]⟩,.string ⟨#[]⟩,.slice none 0 0,.slice none 0 0,.int .i64 0,.string ⟨#[]⟩,.string ⟨#[]⟩,.slice none 0 0,.slice none 0 0]),true⟩,⟨.struct [(9,0),(337,1),(341,2),(341,7)],12,216,(.agg #[.string ⟨#[]⟩,.slice none 0 0,.int .i64 0,.string ⟨#[]⟩,.string ⟨#[]⟩,.slice none 0 0,.slice none 0 0,.int .i64 0,.string ⟨#[]⟩,.string ⟨#[]⟩,.slice none 0 0,.slice none 0 0]),true⟩,⟨.struct [(9,0),(337,1),(341,2)],7,128,(.agg #[.string ⟨#[]⟩,.slice none 0 0,.int .i64 0,.string ⟨#[]⟩,.string ⟨#[]⟩,.slice none 0 0,.slice none 0 0]),true⟩,⟨.struct [(9,0),(337,1),(341,2)],7,128,(.agg #[.string ⟨#[]⟩,.slice none 0 0,.int .i64 0,.string ⟨#[]⟩,.string ⟨#[]⟩,.slice none 0 0,.slice none 0 0]),true⟩,⟨.struct [(9,0),(9,1),(9,2)],3,48,(.agg #[.string ⟨#[]⟩,.string ⟨#[]⟩,.string ⟨#[]⟩]),true⟩,⟨.struct [(9,0),(9,1),(9,2)],3,48,(.agg #[.string ⟨#[]⟩,.string ⟨#[]⟩,.string ⟨#[]⟩]),true⟩,⟨.struct [(9,0),(9,1)],2,32,(.agg #[.string ⟨#[]⟩,.string ⟨#[]⟩]),true⟩,⟨.struct [(9,0),(9,1)],2,32,(.agg #[.string ⟨#[]⟩,.string ⟨#[]⟩]),true⟩,⟨.other,1,8,(.pointer none),true⟩,⟨.struct [(9,0),(3,1),(341,2)],7,112,(.agg #[.string ⟨#[]⟩,.int .i64 0,.int .i64 0,.string ⟨#[]⟩,.string ⟨#[]⟩,.slice none 0 0,.slice none 0 0]),true⟩]
def rP:List TI := [⟨.struct [(9,0),(3,1),(341,2)],7,112,(.agg #[.string ⟨#[]⟩,.int .i64 0,.int .i64 0,.string ⟨#[]⟩,.string ⟨#[]⟩,.slice none 0 0,.slice none 0 0]),true⟩,⟨.struct [(9,0),(341,1),(4,6)],7,112,(.agg #[.string ⟨#[]⟩,.int .i64 0,.string ⟨#[]⟩,.string ⟨#[]⟩,.slice none 0 0,.slice none 0 0,.bool .false]),true⟩,⟨.struct [(9,0),(341,1),(4,6)],7,112,(.agg #[.string ⟨#[]⟩,.int .i64 0,.string ⟨#[]⟩,.string ⟨#[]⟩,.slice none 0 0,.slice none 0 0,.bool .false]),true⟩]
def yU:List (List TI) := [wN,wO,wP,wQ,wR,wS,wT,wU,wV,wW,rD,rE,rF,rG,rH,rI,rJ,rK,rL,rM,rN,rO,rP]
def ml:Gs := fun t => gQ xA (gQ [] yU (t / 16)) (t % 16)
theorem iH:(List.range 368).map ml = (List.range 368).map (dC Tryz.prog) := by kernel_rfl
theorem aK{α:Type}(d:α):∀(l:List α) (n:Nat),l.length ≤ n → gQ d l n = d
 | [],_,_ => rfl
 |_::_,0,h => by simp at h
 |_::r,n + 1,h => aK d r n (by simpa using h)
theorem Ck:Cn Tryz.prog ml := by
 intro t
 by_cases h:t<368
 ·have := Ac (fun l => l[t]?) iH
  rw[AG,AG,List.getElem?_range h,Fy,Fy]at this
  exact .inr (Ct this)
 ·have h1:gQ ([]:List TI) yU (t / 16) = [] := aK _ _ _ (by show 23 ≤ t / 16;omega)
  have h2:ml t = xA := by unfold ml;rw[h1];rfl
  exact .inl h2
end Go.Eng
namespace Go.Eng
section
variable {P:Program}
theorem bT {f : Nat} {fn : Func} {c : Code} (hf : P.funcs[f]? = some fn) (hn : (fn.name == "runtime.NumGoroutine") = false) (hb : fn.body = some c) : F1 P f := ⟨fn, hf, hn, by simp [hb]⟩
theorem K8{f:Nat}{args:List AV}{res:AV}(vals:List Value)(v:Value)(hE:F1 P f)(ha:args=vals.map .v)(nQ:∀g w,BD g w Fi res v)
  (h:∀w,(∃m,w.cell? ⟨gB,0,none⟩=some (.int .i64 m))→Calls P f vals.toArray w fun e w'=>e=.returned v∧w'=w):Jc P f args res:=by
 refine⟨hE,fun g w us hs hv hI=>?_⟩;have hu:us=vals.toArray:=by
  subst ha;rw[A6]at hs;refine Array.ext (by simpa using hs) fun i h1 h2=>?_
  have:=hv i (.v (vals[i]'(by simpa using h2))) us[i] (by rw[AG,At (by simpa using h2)];rfl) (by rw[Bj h1])
  rw[this.v_eq];simp
 subst hu;refine(h w hI.glob.1.2).mono ?_
 rintro e w' ⟨rfl,rfl⟩
 exact⟨v,res,Ab,g,rfl,⟨rfl,rfl⟩,(nQ g _).up _,hI,.refl _ _ _⟩
theorem io{g:Gh}{w:World}:∀(vs:List Value),BD g w Fi (.tup (vs.map .v)) (.tuple vs.toArray):=fun vs =>
 .tup _ _ _ (by simp) fun i av x h1 h2=>by
  rw[AG,AW]at h1;obtain⟨a,e1,rfl⟩:=h1
  have:vs[i]?=some x:=by simpa using h2
  rw[e1]at this;cases this;exact .v _ _
theorem db{f:Nat}{args:List AV}(vals:List Value)(es:List Value)(T:TypeId)(hE:F1 P f)(ha:args=vals.map .v)(h1:∀x∈es,x.oneCell'=true)
  (h:∀w,(∃m,w.cell? ⟨gB,0,none⟩=some (.int .i64 m))→Calls P f vals.toArray w fun e w'=>e=.returned (.slice (some ⟨w.heap.size,0,none⟩) es.length es.length)∧w'=w.alloc (.cells es.toArray T)) :
  Jc P f args (.slice .none (es.map fun x=>[.v x])):=by
 refine⟨hE,fun g w us hs hv hI=>?_⟩;have hu:us=vals.toArray:=by
  subst ha;rw[A6]at hs;refine Array.ext (by simpa using hs) fun i h1 h2=>?_
  have:=hv i (.v (vals[i]'(by simpa using h2))) us[i] (by rw[AG,At (by simpa using h2)];rfl) (by rw[Bj h1])
  rw[this.v_eq];simp
 subst hu;refine(h w hI.glob.1.2).mono ?_
 rintro e w' ⟨rfl,rfl⟩
 have EQ:(w.alloc (.cells es.toArray T)).heap[w.heap.size]?=some (.cells es.toArray T (0,0)):=HB w _ rfl;have Wj:∀b,b<w.heap.size→(w.alloc (.cells es.toArray T)).heap[b]?=w.heap[b]?:=fun b hb=>heap_alloc_old _ _ hb;have hK:EA g w ⟨g.ρ,g.ln,g.tk,g.own,g.more w.heap.size es.length⟩ (w.alloc (.cells es.toArray T)):=fun b o hb=>by
  have DA:=hI.slt b o hb;exact⟨.inl hb,by simp only[World.cell?,Wj b DA],fun es ck he=>(Wj b DA).trans he⟩
 refine⟨_,_,Ab,⟨g.ρ,g.ln,g.tk,g.own,g.more w.heap.size es.length⟩,rfl,⟨rfl,rfl⟩,?_,⟨rfl,rfl,rfl,?_,fun b hb _=>Wj b hb,fun b o hs=>?_,fun _=>trivial,fun _ _ _ h=>h.elim,fun _ _ h=>h.elim,fun b o hs=>?_,hI.glob.keep hK⟩,⟨.refl _ _,fun _ h=>h,hK⟩⟩
 ·have hr:Cu ⟨g.ρ,g.ln,g.tk,g.own,g.more w.heap.size es.length⟩ (w.alloc (.cells es.toArray T)) Fi (es.map fun x=>[AV.v x]).flatten (es.toArray.toList.take ((es.map fun x=>[AV.v x]).length*1)):=by
   have hfl:∀l:List Value,(l.map fun x=>[AV.v x]).flatten=l.map .v:=fun l=>by
    induction l with
    |nil=>rfl
    |cons a l ih=>rw[AL,Bv,ih];rfl
   rw[hfl];simp only[A6,Nat.mul_one,DX];refine⟨by simp,fun x hx=>h1 x (by simpa using hx),fun i av x q1 q2=>?_⟩;rw[AG,AW]at q1;obtain⟨a,e1,rfl⟩:=q1;rw[e1]at q2;cases q2;exact .v _ _
  have:=BD.slice_row (U:=AP Ab) (cap:=es.length) (sz:=1) (es:=es.map fun x=>[AV.v x]) EQ (fun cs hcs=>by
   obtain⟨x,_,rfl⟩:=Ak.1 hcs;rfl) (by simp) hr (fun o ho=>.inr ⟨rfl,by simpa using ho⟩)
  simpa using this
 ·rw[World.size_alloc];omega
 ·rw[World.size_alloc];rcases hs with hs | ⟨rfl,_⟩
  ·have:=hI.slt b o hs;omega
  ·omega
 ·rcases hs with hs | ⟨rfl,_⟩
  ·exact .inl hs
  ·exact .inr (.inl (Al _))
end
end Go.Eng
namespace Go.Eng
open Go.Sort
section
variable {P:Program}
theorem Nc(F c:Array Value)(h:F.size≤c.size):(putCells id 0 F c).toList.take F.size=F.toList∧(putCells id 0 F c).size=c.size:=by
 have hs:(putCells id 0 F c).size=c.size:=by simp[putCells]
 refine⟨?_,hs⟩;apply CX;intro i;rw[JB,A0,A0]
 by_cases hi:i<F.size
 ·rw[Ao hi];have z8:i<c.size:=by omega
  simp only[putCells,Array.getElem?_mapIdx,Bj z8,Bj hi,Fy,AJ,true_and,Bg,hi,QK,Nat.sub_zero,id_eq];rw[Ds F i hi]
 ·rw[Ah hi,T2 (by omega)]
theorem SL(r:Nat)(o o' : HO):AT (Ai [(r,o)] Ab) r o'=Ai [(r,o')] Ab:=by
 funext i
 by_cases e:i=r
 ·subst e;rw[Ba];simp[Ai]
 ·rw[BV _ _ _ _ e];simp[Ai,Cz e]
theorem Pt{f:Nat}{es:List (List AV)}{sz:Nat}{rest:List Value}{Q:List (List AV)→Prop}(hE:F1 P f)
  (h0:es=[]→Q []∧∀w,Calls P f (#[.slice none 0 0]++rest.toArray) w fun e w'=>e=.returned (.tuple #[])∧w'=w)
  (h1:∀(g:Gh) (w:World) (b cap:Nat) (F:Array Value),Cu g w Fi es.flatten F.toList→F.size=es.length*sz→Holds id w b 0 F→b<w.heap.size→Calls P f (#[.slice (some ⟨b,0,none⟩) es.length cap]++rest.toArray) w fun e w' =>
   e=.returned (.tuple #[])∧∃(F' : Array Value) (FB : List (List AV)) (n:Nat) (os:Array Obj),F'.size=F.size∧Q FB∧FB.length=es.length∧(∀cs∈FB,cs.length=sz) ∧
    (∀(g:Gh) (w:World),Cu g w Fi es.flatten F.toList→Cu g w Fi FB.flatten F'.toList)∧w'=grow (putRow id (Sort.ahead w n) b 0 F') os) :
  A3 P f (.msl 1000 es.length::rest.map .v) (Ai [(1000,.arr sz es)] Ab) fun r h'=>r=.tup []∧∃FB,Q FB∧h'=Ai [(1000,.arr sz FB)] Ab:=by
 refine⟨hE,fun g w us hs hv hI=>?_⟩;have ho:=hI.objs 1000;have he:Ai [(1000,HO.arr sz es)] Ab 1000=.arr sz es:=rfl;rw[he]at ho;obtain⟨t1,l1,al,a2⟩:=ho;simp only[Av,A6]at hs
 -- the arguments
 have vP:0<us.size:=by omega
 have ph:=hv 0 (.msl 1000 es.length) us[0] rfl (Bj vP);have hval:us[0]=g.ρ 1000:=by
  generalize us[0]=x at ph;cases ph with
  |msl _ r n a cap hu ht hn ha hx=>exact hx l1.symm
 have Kd:us=#[g.ρ 1000]++rest.toArray:=by
  refine Array.ext (by simp;omega) fun i h1 h2=>?_;cases i with
  |zero=>rw[hval];simp
  |succ i =>
   have hi:i<rest.length:=by omega
   have:=hv (i+1) (.v rest[i]) us[i+1] (by simp[List.getElem?_eq_getElem hi]) (Bj h1)
   rw[this.v_eq];simp
 rw[Kd];rcases a2 with ⟨b1,b2,b3⟩ | ⟨b,cap,E,vs,b1,b2,b3,b4,b5,b6,b7⟩
 ·subst b1;obtain⟨q,h0⟩:=h0 rfl;rw[b2];refine(h0 w).mono ?_
  rintro e w' ⟨rfl,rfl⟩
  exact⟨_,.tup [],_,g,rfl,⟨rfl,[],q,rfl⟩,.tup _ _ _ rfl (fun i av x h=>by simp at h),hI,.refl _ _ _⟩
 ·have hl:(Ai [(1000,HO.arr sz es)] Ab 1000).live:=trivial;have DA:=(hI.loc 1000 b hl b2).1;have Ho:es.length*sz≤vs.size:=by rw[b5];exact Be _ b3
  have hF:((vs.toList.take (es.length*sz)).toArray).size=es.length*sz:=by simp;omega
  have hH:Holds id w b 0 (vs.toList.take (es.length*sz)).toArray:=fun j hj=>by
   have hj:j<es.length*sz:=by rw[hF]at hj;exact hj
   refine⟨?_,?_⟩
   ·have qI:j<vs.size:=by omega
    simp only[World.cell?,b4,Bg,Option.isSome_none,Dd,Gk];rw[Bj qI,Ds _ j (by rw[hF];exact hj)];simp
   ·simp[World.frozen?,b4]
  rw[b1];refine(h1 g w b cap _ (by simpa using b6) hF hH DA).mono ?_
  rintro e w' ⟨rfl,F',FB,n,os,f1,f2,f3,f4,f5,rfl⟩
  have o0 : F'.size=es.length*sz:=f1.trans hF;have qY:=Nc F' vs (by omega);have nw : (grow (putRow id (Sort.ahead w n) b 0 F') os).heap[b]?=some (.cells (putCells id 0 F' vs) E (0,0)):=by
   rw[heap_grow_old _ _ (by rw[size_putRow];exact DA)];show(w.heap.modify b (onCells (putCells id 0 F')))[b]?=_;rw[Array.getElem?_modify,Ao rfl,b4];rfl
  have qR:∀k,k<w.heap.size→k≠b→(grow (putRow id (Sort.ahead w n) b 0 F') os).heap[k]?=w.heap[k]?:=fun k hk Dt=>by
   rw[heap_grow_old _ _ (by rw[size_putRow];exact hk)];simp[putRow,mapBlock,Array.getElem?_modify,Ne.symm Dt]
  have Ew:w.heap.size≤(grow (putRow id (Sort.ahead w n) b 0 F') os).heap.size:=by rw[size_grow,size_putRow];show w.heap.size≤w.heap.size+_;omega
  obtain⟨k1,k2⟩:=hI.upd 1000 (.arr sz FB) (g.ρ 1000) (g.ln 1000) (g.tk 1000) (g.own 1000) g.S (grow (putRow id (Sort.ahead w n) b 0 F') os) (some b) ⟨rfl,rfl,rfl,Ew⟩
   (fun k hk Dt=>qR k hk (fun e=>Dt (by rw[e]))) (fun b' e=>by cases e;exact⟨hl,b2⟩) (fun _ _ h=>h) (fun _ _ h=>.inl h) (fun b' o e hs=>by cases e;exact absurd hs (b7 o))
   (fun b' _ e=>by rw[b2]at e;cases e;exact⟨Bu DA Ew,.inl ⟨hl,b2⟩⟩) (by simp) (fun _=>⟨rfl,Al _,fun _=>rfl,fun _=>rfl⟩) (fun hg hk=>by
    refine⟨by simp[Gh.upd,t1],by simp[Gh.upd,l1,f3],f4,.inr ⟨b,cap,E,_,by simp[Gh.upd,b1,f3],by simp[Gh.upd,b2],by omega,nw,by rw[qY.2,b5],?_,b7⟩⟩
    have:=f5 g w (by simpa using b6)
    rw[f3,←o0,qY.1];exact this.mono hk (fun _ h=>h) (fun _ h=>h.elim))
  rw[SL]at k1 k2;exact⟨_,.tup [],_,_,rfl,⟨rfl,FB,f2,rfl⟩,.tup _ _ _ rfl (fun i av x h=>by simp at h),k1,k2⟩
end
end Go.Eng
namespace Go.Eng
open Go.Sort Go.Proofs
theorem QW{g:Gh}{w:World}{U:Nat→Prop}{cs Y0 : List AV}{vs dR : List Value}(h:vs.length=cs.length):Cu g w U (cs++Y0) (vs++dR)↔Cu g w U cs vs∧Cu g w U Y0 dR:=by
 constructor
 ·intro⟨h1,h2,h3⟩;refine⟨⟨h,fun x hx=>h2 x (Bm _ hx),fun i av x q1 q2=>?_⟩,⟨by simp at h1;omega,fun x hx=>h2 x (Bd _ hx),fun i av x q1 q2=>?_⟩⟩
  ·have a1:=(Ap.1 q1).1;have a2:=(Ap.1 q2).1;exact h3 i av x (by rw[AX a1];exact q1) (by rw[AX a2];exact q2)
  ·exact h3 (cs.length+i) av x (by rw[AY (by omega),GM];exact q1) (by rw[AY (by omega),h,GM];exact q2)
 ·intro⟨⟨h1,h2,h3⟩,k1,k2,k3⟩;refine⟨by simp[h1,k1],fun x hx=>(AU.1 hx).elim (h2 x) (k2 x),fun i av x q1 q2=>?_⟩
  by_cases hi:i<cs.length
  ·rw[AX hi]at q1;rw[AX (by omega)]at q2;exact h3 i av x q1 q2
  ·rw[AY (by omega)]at q1;rw[AY (by omega)]at q2;rw[h]at q2;exact k3 _ av x q1 q2
theorem PX{α β:Type}{g:Gh}{w:World}{U:Nat→Prop}{IG:β→List AV}{enc:α→List Value}(hl:∀x y,(enc x).length=(IG y).length):∀ps:List (β×α),
  Cu g w U (ps.map fun p=>IG p.1).flatten (ps.map fun p=>enc p.2).flatten↔∀p∈ps,Cu g w U (IG p.1) (enc p.2)
 | []=>by simp[Cu]
 |p::ps=>by
  simp only[AL,Bv];rw[QW (hl _ _),PX hl ps];simp
theorem Mb{α β:Type}{f:α→β}:∀{m m' : List β},m.Perm m'→∀ps:List α,ps.map f=m→∃ii : List α,ii.Perm ps∧ii.map f=m':=by
 intro m m' h
 induction h with
 |nil=>intro ps e;exact⟨ps,.refl _,e⟩
 |cons x h ih =>
  intro ps e;cases ps with
  |nil=>cases e
  |cons p ps =>
   rw[AL]at e
   injection e with e1 e2
   obtain⟨ii,h1,h2⟩:=ih ps e2;exact⟨p::ii,h1.cons p,by rw[AL,e1,h2]⟩
 |swap x y l =>
  intro ps e
  match ps,e with
  |p::q::ps,e =>
   simp only[AL,Fv]at e;exact⟨q::p::ps,List.Perm.swap _ _ _,by simp[e.1,e.2.1,e.2.2]⟩
 |trans h1 h2 ih1 ih2 =>
  intro ps e;obtain⟨ps1,p1,p2⟩:=ih1 ps e;obtain⟨ps2,q1,q2⟩:=ih2 ps1 p2;exact⟨ps2,q1.trans p1,q2⟩
theorem Sx{α:Type}[Inhabited α]{enc:α→List Value}{k:Nat}(hk:∀x,(enc x).length=k)(d:Array α):(flatK enc k d).toList=(d.toList.map enc).flatten:=by
 have hl:∀cs∈d.toList.map enc,cs.length=k:=fun cs hcs=>by
  obtain⟨x,_,rfl⟩:=Ak.1 hcs;exact hk x
 have Cq:(d.toList.map enc).flatten.length=d.size*k:=by
  have:∀l:List α,(l.map enc).flatten.length=l.length*k:=fun l=>by
   induction l with
   |nil=>simp
   |cons a l ih=>simp[hk,Nat.succ_mul,ih];omega
  rw[this];simp
 apply CX;intro t
 by_cases ht:t<d.size*k
 ·have k0:0<k:=Nat.pos_of_ne_zero fun h=>by subst h;simp at ht
  have h1:t / k<d.size:=by rw[Lj k0];exact ht
  have h2:t % k<k:=Nat.mod_lt _ k0;have e:t=t / k*k+t % k:=by rw[Nat.mul_comm];exact(Uv t k).symm
  rw[A0,Bj (by simpa using ht),←Ds _ t (by simpa using ht),get_flatK _ _ _ _ ht];have hg:(d.toList.map enc)[t / k]?=some (enc d[t / k]!):=by
   rw[AG,A0,Bj h1,Ds d _ h1];rfl
  have:=Fa hl hg h2
  rw[e,this,←e];rw[At (by rw[hk];exact h2),Ds _ _ (by rw[hk];exact h2)]
 ·rw[A1 (by simp;omega),A1 (by omega)]
theorem bt{α β:Type}:∀{l:List α} {m:List β},l.length=m.length→(l.zip m).map (·.1)=l∧(l.zip m).map (·.2)=m
 | [],[],_=>⟨rfl,rfl⟩
 |a::l,b::m,h=>by
  have:=bt (l:=l) (m:=m) (by simpa using h)
  simp[this.1,this.2]
section
variable {P:Program}
theorem Jd{α β:Type}[Inhabited α]{f k:Nat}{rest:List Value}(hE:F1 P f)(IG:β→List AV)(enc:α→List Value)(hB:∀x,(IG x).length=k)(hk:∀x,(enc x).length=k)(lt:α→α→Bool)(R:β→α→Prop)(l:List β)(hl:l.length<4611686018427387904)
  (hR:∀x∈l,∀(g:Gh) (w:World) (vs:List Value),Cu g w Fi (IG x) vs→∃a,enc a=vs∧R x a)
  (D1:∀(w:World) (b cap:Nat) (d:Array α),HoldsK enc k w b 0 d→b<w.heap.size→d.size<4611686018427387904→d.size=l.length→Calls P f (#[.slice (some ⟨b,0,none⟩) d.size cap]++rest.toArray) w fun e w' =>
   e=.returned (.tuple #[])∧∃d' n os,PermIn 0 d.size d d'∧SortedIn lt 0 d.size d'∧w'=sortWorldK enc k w b 0 n d' os)
  (qQ:l=[]→∀w:World,Calls P f (#[.slice none 0 0]++rest.toArray) w fun e w'=>e=.returned (.tuple #[])∧w'=w) :
  A3 P f (.msl 1000 l.length::rest.map .v) (Ai [(1000,.arr k (l.map IG))] Ab) fun r h' =>
   r=.tup []∧∃l' : List β,l'.Perm l∧(∃al:List α,al.length=l'.length∧(∀(i:Nat) (x:β) (a:α),l'[i]?=some x→al[i]?=some a→R x a)∧al.Pairwise (fun x y=>lt y x=false))∧h'=Ai [(1000,.arr k (l'.map IG))] Ab:=by
 have Hd:=Pt (P:=P) (f:=f) (es:=l.map IG) (sz:=k) (rest:=rest)
  (Q:=fun FB=>∃l' : List β,l'.Perm l∧(∃al:List α,al.length=l'.length∧(∀(i:Nat) (x:β) (a:α),l'[i]?=some x→al[i]?=some a→R x a)∧al.Pairwise (fun x y=>lt y x=false))∧FB=l'.map IG) hE ?_ ?_
 ·rw[A6]at Hd;refine⟨hE,fun g w vals q1 q2 q3=>(Hd.2 g w vals q1 q2 q3).mono fun _ _ ⟨v,r,h',g',e1,⟨e2,FB,⟨l',p1,p2,p3⟩,p4⟩,rest⟩=>⟨v,r,h',g',e1,⟨e2,l',p1,p2,by rw[p4,p3]⟩,rest⟩⟩
 ·intro e
  have:l=[]:=by simpa using e
  subst this;exact⟨⟨[],.refl _,⟨[],rfl,fun i x a h=>by simp at h,.nil⟩,rfl⟩,qQ rfl⟩
 ·intro g w b cap F hr hF hH hb
  -- the elements in memory
  have nT:∀(m:List β) (vs:List Value),(∀x∈m,x∈l)→Cu g w Fi (m.map IG).flatten vs→∃al:List α,al.length=m.length∧vs=(al.map enc).flatten∧∀(i:Nat) (x:β) (a:α),m[i]?=some x→al[i]?=some a→R x a:=by
   intro m
   induction m with
   |nil =>
    intro vs _ h
    have:vs=[]:=AN (by simpa using h.1)
    subst this;exact⟨[],rfl,rfl,fun i x a h=>by simp at h⟩
   |cons x m ih =>
    intro vs hm h;rw[AL,Bv]at h;have Cq:=h.1;rw[Ad,hB]at Cq;have e:vs=vs.take k++vs.drop k:=(Li k vs).symm;rw[e]at h;rw[QW (by rw[AB,hB];omega)]at h;obtain⟨a,a1,a2⟩:=hR x (hm x (Aa ..)) g w _ h.1;obtain⟨al,b1,b2,b3⟩:=ih _ (fun y hy=>hm y (Ag _ hy)) h.2;refine⟨a::al,by simp[b1],by rw[AL,Bv,a1,←b2,←e],fun i y c q1 q2=>?_⟩;cases i with
    |zero=>simp only[A7,Bi]at q1 q2;subst q1;subst q2;exact a2
    |succ i=>exact b3 i y c (by simpa using q1) (by simpa using q2)
  obtain⟨al,s1,s2,s3⟩:=nT l F.toList (fun _ h=>h) hr;have zz:F=flatK enc k al.toArray:=IA.1 (by rw[Sx hk,s2]);have hd:HoldsK enc k w b 0 al.toArray:=by unfold HoldsK;rw[←zz];exact hH
  have hc:=D1 w b cap al.toArray hd hb (by simpa[s1]using hl) (by simp[s1]);have Ew:al.toArray.size=(l.map IG).length:=by simp[s1]
  rw[Ew]at hc;refine hc.mono ?_
  rintro e w' ⟨rfl,d',n,os,p1,p2,rfl⟩
  obtain⟨z1,z2⟩:=bt s1.symm;obtain⟨fY,_,IR⟩:=p1;have fY : d'.size=al.length:=by rw[fY];simp
  have e1:d'.extract 0 (l.map IG).length=d':=by rw[show(l.map IG).length=d'.size by rw[fY];simp[s1]];exact Array.extract_size
  have e2:al.toArray.extract 0 (l.map IG).length=al.toArray:=by rw[←Ew];exact Array.extract_size
  rw[e1,e2]at IR;have IR:al.Perm d'.toList:=by
   first
   |exact IR.symm
   |exact IR
   |(have:=IR.symm;simpa using this)
  obtain⟨ii,r1,r2⟩:=Mb IR (l.zip al) z2;have rel:∀p∈l.zip al,R p.1 p.2:=fun p hp=>by
   obtain⟨i,hi⟩:=B4.1 hp;rw[List.getElem?_zip_eq_some]at hi;exact s3 i _ _ hi.1 hi.2
  refine⟨rfl,flatK enc k d',(ii.map (·.1)).map IG,n,os,by rw[size_flatK,fY,hF];simp[s1],⟨ii.map (·.1),?_,⟨d'.toList,by rw[←r2];simp,fun i x a q1 q2=>?_,?_⟩,rfl⟩,by have:=r1.length_eq;simp[this,s1],fun cs hcs=>?_,fun g w hr=>?_,?_⟩
  ·have:=r1.map (·.1);rw[z1]at this;exact this
  ·rw[←r2]at q2;rw[AG,AW]at q1 q2;obtain⟨p,q1,rfl⟩:=q1;obtain⟨p',q2,rfl⟩:=q2;rw[q1]at q2;cases q2;exact rel p (r1.mem_iff.1 (Ar q1))
  ·rw[AS];intro i j hi hj Pn;have LH : i<d'.size:=by simpa using hi
   have nG : j<d'.size:=by simpa using hj
   have:=p2 i j (AJ _) Pn (by rw[fY]at nG;simp[s1]at nG⊢;omega)
   rw[Ds d' j nG,Ds d' i LH]at this;simpa using this
  ·obtain⟨x,_,rfl⟩:=Ak.1 hcs;exact hB x
  ·have h1:Cu g w Fi ((l.zip al).map fun p=>IG p.1).flatten ((l.zip al).map fun p=>enc p.2).flatten:=by
    have a1:(l.zip al).map (fun p=>IG p.1)=l.map IG:=by
     have:(l.zip al).map (fun p=>IG p.1)=((l.zip al).map (·.1)).map IG:=by rw[BB];rfl
     rw[this,z1]
    have a2:(l.zip al).map (fun p=>enc p.2)=al.map enc:=by
     have:(l.zip al).map (fun p=>enc p.2)=((l.zip al).map (·.2)).map enc:=by rw[BB];rfl
     rw[this,z2]
    rw[a1,a2,←s2];exact hr
   have Cq:∀(x:α) (y:β),(enc x).length=(IG y).length:=fun x y=>by rw[hk,hB]
   rw[PX Cq]at h1;have h2:=(PX (g:=g) (w:=w) (U:=Fi) Cq ii).2 fun p hp=>h1 p (r1.mem_iff.1 hp);have b1:(ii.map (·.1)).map IG=ii.map fun p=>IG p.1:=by rw[BB];rfl
   have b2:(flatK enc k d').toList=(ii.map fun p=>enc p.2).flatten:=by
    rw[Sx hk,←r2,BB];rfl
   rw[b1,b2];exact h2
  ·rfl
end
end Go.Eng
namespace Go.Eng
section
variable {P:Program}
theorem BS{f:Nat}{fn:Func}{c:Code}{args:List AV}{H0:List (Nat×HO)}{Q:AV→(Nat→HO)→Prop}(cx:Cx)(σ:IV)(hP:cx.P=P)(hT:Cn P cx.T)(hm:P.follows .mixedOrders=true)(hx:cx.ext=true)(hf:P.funcs[f]?=some fn)
  (hn : (fn.name == "runtime.NumGoroutine") = false) (hb : fn.body = some c) (hN : args.length ≤ fn.ntmps) (hc : En fn.ntmps c = true) (hσ : (GH σ && Iq σ H0) = true)
  (hk:Rc cx c (Xl cx fn.results.toList σ fun r h'=>∃r',Hk r r'∧Q r' h') ⟨On args,Ai H0 Ab⟩) (hY:∀l σ g w,cx.yp l σ g w:=by exact fun _ _ _ _=>trivial):A3 P f args (Ai H0 Ab) Q :=
 (fu cx σ hP hT hm hx hf hn hb hN hc hσ hk hY).mono fun _ _ ⟨r',s,q⟩=>⟨r',s,q⟩
end
end Go.Eng
namespace Go.Eng
open Go.Sort
theorem Cu.append{g:Gh}{w:World}{U:Nat→Prop}{T9 bs:List AV}{xs ys:List Value}(h:Cu g w U T9 xs)(k:Cu g w U bs ys):Cu g w U (T9++bs) (xs++ys):=by
 refine⟨by rw[Ad,Ad,h.1,k.1],fun x hx=>?_,fun i av x q1 q2=>?_⟩
 ·rcases AU.1 hx with hx | hx
  ·exact h.2.1 x hx
  ·exact k.2.1 x hx
 ·have hl:=h.1
  by_cases hi:i<T9.length
  ·rw[AX hi]at q1;rw[AX (by omega)]at q2;exact h.2.2 i av x q1 q2
  ·rw[AY (by omega)]at q1;rw[AY (by omega),hl]at q2;exact k.2.2 _ av x q1 q2
theorem Cu.take{g:Gh}{w:World}{U:Nat→Prop}{T9:List AV}{xs:List Value}(h:Cu g w U T9 xs)(k:Nat):Cu g w U (T9.take k) (xs.take k):=by
 refine⟨by rw[AB,AB,h.1],fun x hx=>h.2.1 x (DQ hx),fun i av x q1 q2=>?_⟩;rw[JB]at q1 q2;split at q1
 ·rename_i hi;rw[Ao hi]at q2;exact h.2.2 i av x q1 q2
 ·cases q1
theorem Cu.drop{g:Gh}{w:World}{U:Nat→Prop}{T9:List AV}{xs:List Value}(h:Cu g w U T9 xs)(k:Nat):Cu g w U (T9.drop k) (xs.drop k):=by
 refine⟨by rw[Do,Do,h.1],fun x hx=>h.2.1 x (Im hx),fun i av x q1 q2=>?_⟩;rw[Dr]at q1 q2;exact h.2.2 _ av x q1 q2
theorem KY{α:Type}{k:Nat}:∀(es:List (List α)) (i:Nat),(∀e∈es,e.length=k)→es.flatten.take (i*k)=(es.take i).flatten
 | [],i,_=>by simp
 |e::es,0,_=>by simp
 |e::es,i+1,h=>by
  have he:=h e (Aa ..);rw[Bv,IU,Bv,List.take_append,←KY es i fun x hx=>h x (Ag _ hx),AE (by rw[he,DY];omega),he,show(i+1)*k-k=i*k by rw[DY];omega]
theorem Oy{α:Type}{k:Nat}:∀(es:List (List α)) (i:Nat),(∀e∈es,e.length=k)→es.flatten.drop (i*k)=(es.drop i).flatten
 | [],i,_=>by simp
 |e::es,0,_=>by simp
 |e::es,i+1,h=>by
  have he:=h e (Aa ..);rw[Bv,List.drop_succ_cons,List.drop_append,←Oy es i fun x hx=>h x (Ag _ hx),EB (by rw[he,DY];omega),he,show(i+1)*k-k=i*k by rw[DY];omega,Fx]
section
variable {P:Program}
theorem Ux{f:Nat}{es:List (List AV)}{sz:Nat}{rest:List Value}{n' : Nat}{Q:List (List AV)→Prop}(hE:F1 P f)(Dt:es≠[])(XM : n'≤es.length)
  (h1:∀(g:Gh) (w:World) (b cap:Nat) (F:Array Value),Cu g w Fi es.flatten F.toList→F.size=es.length*sz→Holds id w b 0 F→b<w.heap.size→es.length≤cap→Calls P f (#[.slice (some ⟨b,0,none⟩) es.length cap]++rest.toArray) w fun e w' =>
   e=.returned (.slice (some ⟨b,0,none⟩) n' cap)∧∃(F' : Array Value) (FB : List (List AV)) (n:Nat) (os:Array Obj),F'.size=F.size∧Q FB∧FB.length=es.length∧(∀cs∈FB,cs.length=sz) ∧
    (∀(g:Gh) (w:World),Cu g w Fi es.flatten F.toList→Cu g w Fi FB.flatten F'.toList)∧w'=grow (putRow id (Sort.ahead w n) b 0 F') os) :
  A3 P f (.msl 1000 es.length::rest.map .v) (Ai [(1000,.arr sz es)] Ab) fun r h'=>r=.msl 2000 n'∧∃FB,Q FB∧h'=Ai [(1000,.dead),(2000,.arr sz (FB.take n'))] Ab:=by
 refine⟨hE,fun g w us hs hv hI=>?_⟩;have ho:=hI.objs 1000;have he:Ai [(1000,HO.arr sz es)] Ab 1000=.arr sz es:=rfl;rw[he]at ho;obtain⟨t1,l1,al,a2⟩:=ho;simp only[Av,A6]at hs;have vP:0<us.size:=by omega
 have ph:=hv 0 (.msl 1000 es.length) us[0] rfl (Bj vP);have hval:us[0]=g.ρ 1000:=by
  generalize us[0]=x at ph;cases ph with
  |msl _ r n a cap hu ht hn ha hx=>exact hx l1.symm
 have Kd:us=#[g.ρ 1000]++rest.toArray:=by
  refine Array.ext (by simp;omega) fun i h1 h2=>?_;cases i with
  |zero=>rw[hval];simp
  |succ i =>
   have hi:i<rest.length:=by omega
   have:=hv (i+1) (.v rest[i]) us[i+1] (by simp[List.getElem?_eq_getElem hi]) (Bj h1)
   rw[this.v_eq];simp
 rw[Kd];rcases a2 with ⟨b1,b2,b3⟩ | ⟨b,cap,E,vs,b1,b2,b3,b4,b5,b6,b7⟩
 ·exact absurd b1 Dt
 ·have hl:(Ai [(1000,HO.arr sz es)] Ab 1000).live:=trivial;have DA:=(hI.loc 1000 b hl b2).1;have Ho:es.length*sz≤vs.size:=by rw[b5];exact Be _ b3
  have hF:((vs.toList.take (es.length*sz)).toArray).size=es.length*sz:=by simp;omega
  have hH:Holds id w b 0 (vs.toList.take (es.length*sz)).toArray:=fun j hj=>by
   have hj:j<es.length*sz:=by rw[hF]at hj;exact hj
   refine⟨?_,?_⟩
   ·have qI:j<vs.size:=by omega
    simp only[World.cell?,b4,Bg,Option.isSome_none,Dd,Gk];rw[Bj qI,Ds _ j (by rw[hF];exact hj)];simp
   ·simp[World.frozen?,b4]
  rw[b1];refine(h1 g w b cap _ (by simpa using b6) hF hH DA b3).mono ?_
  rintro e w' ⟨rfl,F',FB,n,os,f1,f2,f3,f4,f5,rfl⟩
  have o0 : F'.size=es.length*sz:=f1.trans hF;have qY:=Nc F' vs (by omega);have nw : (grow (putRow id (Sort.ahead w n) b 0 F') os).heap[b]?=some (.cells (putCells id 0 F' vs) E (0,0)):=by
   rw[heap_grow_old _ _ (by rw[size_putRow];exact DA)];show(w.heap.modify b (onCells (putCells id 0 F')))[b]?=_;rw[Array.getElem?_modify,Ao rfl,b4];rfl
  have qR:∀k,k<w.heap.size→k≠b→(grow (putRow id (Sort.ahead w n) b 0 F') os).heap[k]?=w.heap[k]?:=fun k hk Dt=>by
   rw[heap_grow_old _ _ (by rw[size_putRow];exact hk)];simp[putRow,mapBlock,Array.getElem?_modify,Ne.symm Dt]
  have Ew:w.heap.size≤(grow (putRow id (Sort.ahead w n) b 0 F') os).heap.size:=by rw[size_grow,size_putRow];show w.heap.size≤w.heap.size+_;omega
  obtain⟨k1,k2⟩:=hI.upd 1000 (.arr sz FB) (g.ρ 1000) (g.ln 1000) (g.tk 1000) (g.own 1000) g.S (grow (putRow id (Sort.ahead w n) b 0 F') os) (some b) ⟨rfl,rfl,rfl,Ew⟩
   (fun k hk Dt=>qR k hk (fun e=>Dt (by rw[e]))) (fun b' e=>by cases e;exact⟨hl,b2⟩) (fun _ _ h=>h) (fun _ _ h=>.inl h) (fun b' o e hs=>by cases e;exact absurd hs (b7 o))
   (fun b' _ e=>by rw[b2]at e;cases e;exact⟨Bu DA Ew,.inl ⟨hl,b2⟩⟩) (by simp) (fun _=>⟨rfl,Al _,fun _=>rfl,fun _=>rfl⟩) (fun hg hk=>by
    refine⟨by simp[Gh.upd,t1],by simp[Gh.upd,l1,f3],f4,.inr ⟨b,cap,E,_,by simp[Gh.upd,b1,f3],by simp[Gh.upd,b2],by omega,nw,by rw[qY.2,b5],?_,b7⟩⟩
    have:=f5 g w (by simpa using b6)
    rw[f3,←o0,qY.1];exact this.mono hk (fun _ h=>h) (fun _ h=>h.elim))
  rw[SL]at k1 k2;generalize kc : g.upd 1000 (g.ρ 1000) (g.ln 1000) (g.tk 1000) (g.own 1000) g.S=g' at k1 k2;have lV : g'.own 1000=some b:=by rw[←kc];simp[Gh.upd,b2]
  have qS:=k1.objs 1000;have dM:Ai [(1000,HO.arr sz FB)] Ab 1000=.arr sz FB:=rfl;rw[dM]at qS;obtain⟨m1,m2,m3,m4⟩:=qS;have hρ:g'.ρ 1000=.slice (some ⟨b,0,none⟩) es.length cap:=by rw[←kc];simp[Gh.upd,b1]
  have vo : FB≠[]:=fun e=>Dt (AN (by rw[←f3,e];rfl));rcases m4 with ⟨m4,_⟩ | ⟨b',KO,E',dR,c1,c2,c3,c4,c5,c6,c7⟩
  ·exact absurd m4 vo
  ·rw[hρ]at c1;simp only[Value.slice.injEq,Bi,Addr.mk.injEq,and_true]at c1;obtain⟨za,c1b,zb⟩:=c1;subst za;subst zb;have fQ : (FB.take n').length=n':=by rw[AB];omega
   obtain⟨k3,k4⟩:=k1.move 1000 2000 (by decide) rfl trivial lV (.arr sz (FB.take n')) (.slice (some ⟨b,0,none⟩) n' cap) n' true (by simp) (fun hk=>by
    refine⟨by simp[Gh.upd],by simp[Gh.upd,fQ],fun cs hcs=>m3 cs (DQ hcs),.inr ⟨b,cap,E',dR,by simp[Gh.upd,fQ],by simp[Gh.upd],by omega,c4,c5,?_,c7⟩⟩
    have:=(c6.mono hk (fun _ h=>h) (fun _ h=>h.elim)).take (n'*sz)
    rw[KY FB n' m3,List.take_take,Nat.min_eq_left (Be _ (by omega))]at this;rw[fQ];exact this)
   have qE:AT (AT (Ai [(1000,HO.arr sz FB)] Ab) 1000 .dead) 2000 (.arr sz (FB.take n'))=Ai [(1000,.dead),(2000,.arr sz (FB.take n'))] Ab:=by
    funext i
    by_cases e1:i=2000
    ·subst e1;rw[Ba];rfl
    ·rw[BV _ _ _ _ e1]
     by_cases e2:i=1000
     ·subst e2;rw[Ba];rfl
     ·rw[BV _ _ _ _ e2];simp[Ai,Cz e1,Cz e2]
   rw[qE]at k3 k4;exact⟨_,.msl 2000 n',_,_,rfl,⟨rfl,FB,f2,rfl⟩,.msl _ 2000 n' (some ⟨b,0,none⟩) cap (by intro c;cases c) (by simp[Gh.upd]) (by simp[Gh.upd]) (.inr ⟨b,rfl⟩) (fun _=>by simp[Gh.upd]),k3,k2.trans k4⟩
end
end Go.Eng
namespace Go.Eng
def eX(a b:Fu):Bool :=
 (match a.2 with | some r=>!IH b.1 r | none=>true)&&(match b.2 with | some r=>!IH a.1 r | none=>true)
def Pu(ops:Array Oper)(oi:Oper)(fi:Fu)(D:List Nat)(k:Nat):List Oper→List Fu→Bool
 |o::r,f::fs=>(IH D k||(oi.apart ops o&&eX fi f))&&Pu ops oi fi D (k+1) r fs
 | [],[]=>true
 |_,_=>false
def UQ(ops:Array Oper)(all:List Oper)(k:Nat):List Oper→List Fu→Bool
 |o::r,f::fs =>
  let D:=Py k [] 0 all
  (o.after.toList.all fun e=>!Region.binds .any e||Nat.blt e.on k)&&TQ k D 0 all&&(D.all fun j=>Nat.blt k j&&Nat.blt j all.length)&&Pu ops o f D (k+1) r fs&&UQ ops all (k+1) r fs
 | [],[]=>true
 |_,_=>false
def ab(ops:Array Oper)(fs:List Fu):Bool:=Region.noSelect ops&&UQ ops ops.toList 0 ops.toList fs
def Qb(f:Fu):Prop:=∀r,f.2=some r→r<10000000
def RF:List Fu→Prop
 | []=>True
 |f::r=>Qb f∧RF r
theorem AZ(l:List Nat):Qb (l,none):=fun _ h=>by cases h
theorem D5{l:List Nat}{r:Nat}(h:r<10000000):Qb (l,some r):=fun _ e=>by cases e;exact h
theorem eY{a b:Fu}(ha:Qb a)(hb:Qb b)(h:eX a b=true):Sj a b=true:=by
 obtain⟨a1,a2⟩:=a;obtain⟨b1,b2⟩:=b;unfold eX at h;unfold Sj;rw[Af]at h⊢;refine⟨?_,?_⟩
 ·cases a2 with
  |none=>rfl
  |some r =>
   have h1:(!IH b1 r)=true:=h.1;show Yd b1 r=true;unfold Yd;rw[Cz (show r≠VJ by have:=ha r rfl;unfold VJ;omega),Ej,h1,show Nat.blt r 10000000=true by rw[B9];exact ha r rfl];rfl
 ·cases b2 with
  |none=>rfl
  |some r =>
   have h1:(!IH a1 r)=true:=h.2;show Yd a1 r=true;unfold Yd;rw[Cz (show r≠VJ by have:=hb r rfl;unfold VJ;omega),Ej,h1,show Nat.blt r 10000000=true by rw[B9];exact hb r rfl];rfl
theorem UA{ops:Array Oper}{oi:Oper}{fi:Fu}{D:List Nat}(hi:Qb fi):∀{l:List Oper} {fs:List Fu} {k:Nat},RF fs→Pu ops oi fi D k l fs=true→Io ops oi fi D k l fs=true
 | [],[],_,_,h=>h
 |o::r,f::fs,k,hs,h=>by
  unfold Pu at h;unfold Io;rw[Af,Cm,Af]at h⊢;exact⟨h.1.imp id (fun q=>⟨q.1,eY hi hs.1 q.2⟩),UA hi hs.2 h.2⟩
 | [],_::_,_,_,h=>by simp[Pu]at h
 |_::_,[],_,_,h=>by simp[Pu]at h
theorem Xh{ops:Array Oper}{all:List Oper}:∀{l:List Oper} {fs:List Fu} {k:Nat},RF fs→UQ ops all k l fs=true→LN ops all k l fs=true
 | [],[],_,_,h=>h
 |o::r,f::fs,k,hs,h=>by
  unfold UQ at h;unfold LN;simp only[Af]at h⊢;exact⟨⟨h.1.1,UA hs.1 hs.2 h.1.2⟩,Xh hs.2 h.2⟩
 | [],_::_,_,_,h=>by simp[UQ]at h
 |_::_,[],_,_,h=>by simp[UQ]at h
theorem IZ{ops:Array Oper}{fs:List Fu}(hs:RF fs)(h:ab ops fs=true):Sm ops fs=true:=by
 unfold ab at h;unfold Sm;rw[Af]at h⊢;exact⟨h.1,Xh hs h.2⟩
theorem Qy{cx:Cx}{d:Option Nat}{h:Nat→HO}{ty e m:Nat}{r:Nat}{es es2:List (List AV)}{x:AV}{K:HK}(vO:(cx.T ty).d=.slice e)(hz:Nat.beq (cx.T e).zc.length (cx.T e).size=true)(Ew:(cx.T e).size=m+1)
  (hx:∀K' : List (List AV)→Prop,K' es2→KW h x K') (hr:h r=.tok (m+1) es.length) (hl:Df (m+1) es2) (hb:(es.length+es2.length)*(cx.T e).bytes≤140737488355328) (hc:es.length+es2.length≤9223372036854775807)
  (hk:K (.slice (.id r (m+1)) (es++es2)) (AT h r (.tok (m+1) (es.length+es2.length)))):Ie cx d h ty (.slice (.id r (m+1)) es) x K:=by
 have hq:Nat.beq (m+1) (m+1)=true:=CN _;unfold Ie;rw[vO];rw[Ew]at hz;simp only[Ew,hz];refine hx _ ?_;simp only[hr,hq];exact⟨⟨hl,trivial,hb,hc⟩,hk⟩
theorem Qx{cx:Cx}{d:Nat}{h:Nat→HO}{ty e m:Nat}{es2:List (List AV)}{x:AV}{K:HK}(vO:(cx.T ty).d=.slice e)(hz:Nat.beq (cx.T e).zc.length (cx.T e).size=true)(Ew:(cx.T e).size=m+1)
  (hx:∀K' : List (List AV)→Prop,K' es2→KW h x K') (hr:h (Kp cx d)=.free) (ha:GB cx.pl.arr d=none) (hl:Df (m+1) es2) (hb:es2.length*(cx.T e).bytes≤140737488355328) (hc:es2.length≤9223372036854775807)
  (hk:K (.slice (.id (Kp cx d) (m+1)) es2) (AT h (Kp cx d) (.tok (m+1) es2.length))):Ie cx (some d) h ty (.v (.slice none 0 0)) x K:=by
 unfold Ie;rw[vO];rw[Ew]at hz;simp only[Ew,hz];refine hx _ ?_;refine⟨⟨Ew▸hl,hb,hc⟩,?_⟩;unfold Eu;simp only[hr,ha];exact hk
end Go.Eng
namespace Go.Eng
open Go.RowKit
end Go.Eng
namespace Go.Eng
def VU:Obj→Bool
 |.cells ..=>false
 |.map ..=>false
 |.mapIter ..=>false
 |.loop r=>!Oc [] r.body
 |_=>true
structure ZU(n0 x:Nat)(w:World)(g:Gh)(h:Nat→HO)(w' : World)(g' : Gh)(h' : Nat→HO):Prop where
 os:w'.os=w.os
 tape:w'.tape=w.tape
 output:w'.output=w.output
 size:w.heap.size≤w'.heap.size
 frame:∀b,b<n0→b≠x→(∀r,(h r).live→g.own r≠some b)→w'.heap[b]?=w.heap[b]?
 loc:∀r b,(h' r).live→g'.own r=some b→n0≤b∨∃r',(h r').live∧g.own r'=some b
 sg:∀b o,g'.S b o→g.S b o∨n0≤b∨∃r',(h r').live∧g.own r'=some b
 le:Le h g w h' g' w'
section
variable {P:Program}{N:Nat}{ds:List Deferred}{n0 x:Nat}{w w' w1 w2:World}{g g' g1 g2:Gh}{h h' h1 h2:Nat→HO}
theorem ZU.trans(a:ZU n0 x w g h w1 g1 h1)(b:ZU n0 x w1 g1 h1 w2 g2 h2):ZU n0 x w g h w2 g2 h2 where
 os:=b.os.trans a.os
 tape:=b.tape.trans a.tape
 output:=b.output.trans a.output
 size:=Br a.size b.size
 frame c hc hx hn:=(b.frame c hc hx fun r hl e=>by
  rcases a.loc r c hl e with h | ⟨r',h1,h2⟩
  ·omega
  ·exact hn r' h1 h2).trans (a.frame c hc hx hn)
 loc r c hl e:=by
  rcases b.loc r c hl e with h | ⟨r',h1,h2⟩
  ·exact .inl h
  ·exact a.loc r' c h1 h2
 sg c o hs:=by
  rcases b.sg c o hs with h | h | ⟨r',h1,h2⟩
  ·exact a.sg c o h
  ·exact .inr (.inl h)
  ·rcases a.loc r' c h1 h2 with h | h
   ·exact .inr (.inl h)
   ·exact .inr (.inr h)
 le:=a.le.trans b.le
theorem ZU.of_inv(hI:DB w g h h' g' w')(hL:Le h g w h' g' w')(hn:n0≤w.heap.size):ZU n0 x w g h w' g' h' where
 os:=hI.os
 tape:=hI.tape
 output:=hI.output
 size:=hI.size
 frame c hc _ XM:=hI.frame c (by omega) XM
 loc r c hl e:=by
  rcases(hI.loc r c hl e).2 with h | h
  ·exact .inl (by omega)
  ·exact .inr h
 sg c o hs:=by
  rcases hI.sg c o hs with h | h | h
  ·exact .inl h
  ·exact .inr (.inl (by omega))
  ·exact .inr (.inr h)
 le:=hL
theorem DB.base(hI:DB w g h h' g' w'):DB w' g' h' h' g' w' where
 os:=rfl
 tape:=rfl
 output:=rfl
 size:=Al _
 frame _ _ _:=rfl
 slt:=hI.slt
 objs:=hI.objs
 inj:=hI.inj
 loc r b hl e:=⟨(hI.loc r b hl e).1,.inr ⟨r,hl,e⟩⟩
 sg _ _ hs:=.inl hs
 glob:=hI.glob
theorem DB.of_seg(hI:DB w' g' h' h' g' w')(s:ZU w.heap.size x w g h w' g' h')(hx:x<w.heap.size→w'.heap[x]?=w.heap[x]?):DB w g h h' g' w' where
 os:=s.os
 tape:=s.tape
 output:=s.output
 size:=s.size
 frame b hb hn:=by
  by_cases e:b=x
  ·subst e;exact hx hb
  ·exact s.frame b hb e hn
 slt:=hI.slt
 objs:=hI.objs
 inj:=hI.inj
 loc r b hl e:=⟨(hI.loc r b hl e).1,s.loc r b hl e⟩
 sg:=s.sg
 glob:=hI.glob
theorem OU{U:Nat→Prop}{r b:Nat}{o:HO}{ob:Obj}(ho:D6 g w U r o)(hl:o.live)(e:g.own r=some b)(hb:w.heap[b]?=some ob)(hd:VU ob=true):False:=by
 cases o with
 |free=>exact hl
 |dead=>exact hl
 |ro cs=>exact hl
 |rom sh BX=>exact hl
 |cells cs =>
  obtain⟨_,b',E,vs,h1,_,h3,_⟩:=ho;rw[e]at h1;cases h1;rw[hb]at h3;cases h3;cases hd
 |tok sz n =>
  obtain⟨_,_,a,cap,_,(⟨_,h1⟩ | ⟨_,b',E,vs,off,_,h1,h3,_⟩)⟩:=ho
  ·rw[e]at h1;cases h1
  ·rw[e]at h1;cases h1;rw[hb]at h3;cases h3;cases hd
 |vox v=>exact hl
 |hol sz es i c av =>
  obtain⟨_,_,_,b',cap,E,vs,_,h1,_,h3,_⟩:=ho;rw[e]at h1;cases h1;rw[hb]at h3;cases h3;cases hd
 |raw b' aM =>
  obtain⟨_,h1,h2,h3,_⟩:=ho;rw[e]at h1;cases h1;rw[hb]at h2;cases h2;cases ob<;>simp[VU,pE]at hd h3
  rw[hd]at h3;cases h3
 |var sz v n =>
  obtain⟨_,_,a,cap,_,(⟨_,h1⟩ | ⟨_,b',E,vs,off,_,h1,h3,_⟩)⟩:=ho
  ·rw[e]at h1;cases h1
  ·rw[e]at h1;cases h1;rw[hb]at h3;cases h3;cases hd
 |arr sz es =>
  obtain⟨_,_,_,(⟨_,_,h1⟩ | ⟨b',cap,E,vs,_,h1,_,h3,_⟩)⟩:=ho
  ·rw[e]at h1;cases h1
  ·rw[e]at h1;cases h1;rw[hb]at h3;cases h3;cases hd
 |map sh BX =>
  obtain⟨_,b',es,ck,h1,_,h3,_⟩:=ho;rw[e]at h1;cases h1;rw[hb]at h3;cases h3;cases hd
 |mapU sh BX =>
  obtain⟨_,b',es,ck,h1,_,h3,_⟩:=ho;rw[e]at h1;cases h1;rw[hb]at h3;cases h3;cases hd
 |iter all rem FA =>
  obtain⟨_,b',mb,JT,seen,st,es,ck,h1,_,h3,_⟩:=ho;rw[e]at h1;cases h1;rw[hb]at h3;cases h3;cases hd
theorem DB.dullS(hI:DB w g h h g w)(ho:w'.os=w.os∧w'.tape=w.tape∧w'.output=w.output)(Ew:w.heap.size≤w'.heap.size)
  (hb:∀b,b<w.heap.size→w'.heap[b]?=w.heap[b]?∨∃o o',w.heap[b]?=some o∧w'.heap[b]?=some o'∧VU o=true∧VU o'=true)
  (hn:∀b,b<n0→b≠x→w'.heap[b]?=w.heap[b]?):DB w' g h h g w'∧ZU n0 x w g h w' g h:=by
 have hk:EA g w g w':=fun b o hs=>by
  refine⟨hs,?_⟩;rcases hb b (hI.slt b o hs)with e | ⟨ob,aM,e1,e2,d1,d2⟩
  ·exact⟨by simp only[World.cell?,e],fun es ck he=>e.trans he⟩
  ·refine⟨?_,fun es ck he=>?_⟩
   ·simp only[World.cell?,e1,e2];cases ob<;>cases aM<;>first | rfl | (cases d1;done) | (cases d2;done)
   ·rw[e1]at he;cases he;cases d1
 have Wl:∀r b,(h r).live→g.own r=some b→w'.heap[b]?=w.heap[b]?:=fun r b hl e=>by
  rcases hb b (hI.loc r b hl e).1 with e' | ⟨ob,aM,e1,_,d1,_⟩
  ·exact e'
  ·exact(OU (hI.objs r) hl e e1 d1).elim
 refine⟨⟨rfl,rfl,rfl,Al _,fun _ _ _=>rfl,fun b o hs=>Bu (hI.slt b o hs) Ew,fun r=>?_,hI.inj,fun r b hl e=>⟨Bu (hI.loc r b hl e).1 Ew,.inr ⟨r,hl,e⟩⟩,fun _ _ hs=>.inl hs,hI.glob.keep hk⟩,⟨ho.1,ho.2.1,ho.2.2,Ew,fun b nw hx _=>hn b nw hx,fun r b hl e=>.inr ⟨r,hl,e⟩,fun _ _ hs=>.inl hs,⟨.refl _ _,fun _ h=>h,hk⟩⟩⟩;exact(hI.objs r).same hk (fun _ h=>h) (.refl _ _) rfl rfl rfl rfl fun b hl e=>⟨Wl r b hl e,fun _ h=>h⟩
theorem DB.put(hI:DB w g h h g w){l:Nat}{o o' : Obj}(hl:w.heap[l]?=some o)(hd:VU o=true)(kb : VU o'=true)(hx:n0≤l∨l=x) :
  DB (w.putObj l o') g h h g (w.putObj l o')∧ZU n0 x w g h (w.putObj l o') g h:=by
 have DA:l<w.heap.size:=(Bl.1 hl).1;refine hI.dullS ⟨rfl,rfl,rfl⟩ (by simp[World.putObj]) (fun b _=>?_) (fun b hb Dt=>?_)
 ·by_cases e:b=l
  ·subst e;exact .inr ⟨o,o',hl,World.putObj_heap_same DA,hd,kb⟩
  ·exact .inl (World.putObj_heap_other e)
 ·refine World.putObj_heap_other fun e=>?_;rcases hx with h | h
  ·omega
  ·exact Dt (e.trans h)
theorem DB.allocS(hI:DB w g h h g w)(o:Obj)(hn:n0≤w.heap.size):DB (w.alloc o) g h h g (w.alloc o)∧ZU n0 x w g h (w.alloc o) g h:=by
 refine hI.dullS ⟨rfl,rfl,rfl⟩ (by rw[World.size_alloc];omega) (fun b hb=>.inl (heap_alloc_old _ _ hb)) (fun b hb _=>heap_alloc_old _ _ (by omega))
end
end Go.Eng
