/- Lemmas for the claims of this seat, without a condition: part 16 (Tab, EngZG, EngZH, EngZI, EngZJ, EngZK, EngZM, EngZN, EngZO, EngZP). -/
import Derived.Test.YtddfphmpfnmknaaGreatDoorGA15
import Derived.Test.YtddfphmpfnmknaaGreatDoorProg
import Derived.Sort.Grow
import Derived.Shelf.GgSortFunc.InsertionK
import Derived.Below
import Derived.RangeFuncLeaves
import Derived.RangeFuncNested
namespace Go.Eng
open Go.Proofs
abbrev zV:TI := dn
abbrev tF:TI := ⟨.func,1,8,.nilFunc,true⟩
abbrev tI:TI := ⟨.int .i64,1,8,.int .i64 0,true⟩
abbrev tP(n:Nat):TI := ⟨.ptr n,1,8,.pointer none,true⟩
abbrev tS(n:Nat):TI := ⟨.slice n,1,24,.slice none 0 0,true⟩
def lM{α:Type}(d:α):List α → Nat → α
 | [],_ => d
 |a::r,n => match n with |0 => a |n + 1 => lM d r n
abbrev tiN:TI := dn
def AbO:List TI := [⟨.other,1,0,(.tuple #[]),true⟩,tF,tI,tI,⟨.bool,1,1,(.bool .false),true⟩,⟨.int .u8,1,1,(.int .u8 0),true⟩,⟨.int .u8,1,1,(.int .u8 0),true⟩,⟨.struct [(2,0),(3,1),(4,2),(6,3)],4,24,(.agg #[.int .i64 0,.int .i64 0,.bool .false,.int .u8 0]),true⟩,⟨.struct [(2,0),(3,1),(4,2),(6,3)],4,24,(.agg #[.int .i64 0,.int .i64 0,.bool .false,.int .u8 0]),true⟩,⟨.string,1,16,(.string ⟨#[]⟩),true⟩,⟨.string,1,16,(.string ⟨#[]⟩),true⟩,⟨.string,1,16,(.string ⟨#[]⟩),true⟩,⟨.int .u64,1,8,(.int .u64 0),true⟩,⟨.struct [(9,0),(12,1)],2,24,(.agg #[.string ⟨#[]⟩,.int .u64 0]),false⟩,⟨.struct [(9,0),(12,1)],2,24,(.agg #[.string ⟨#[]⟩,.int .u64 0]),false⟩,⟨.ptr 323,1,8,(.pointer .none),true⟩]
def AbP:List TI := [⟨.ptr 326,1,8,(.pointer .none),true⟩,⟨.ptr 335,1,8,(.pointer .none),true⟩,⟨.struct [(17,0)],1,8,(.agg #[.pointer .none]),false⟩,⟨.struct [(17,0)],1,8,(.agg #[.pointer .none]),false⟩,⟨.iface,1,16,.nilIface,true⟩,⟨.int .i32,1,4,(.int .i32 0),true⟩,⟨.slice 41,1,24,(.slice .none 0 0),true⟩,⟨.slice 132,1,24,(.slice .none 0 0),true⟩,⟨.struct [(22,0),(23,1)],2,48,(.agg #[.slice .none 0 0,.slice .none 0 0]),true⟩,⟨.struct [(22,0),(23,1)],2,48,(.agg #[.slice .none 0 0,.slice .none 0 0]),true⟩,⟨.struct [(3,0),(3,1),(3,2)],3,24,(.agg #[.int .i64 0,.int .i64 0,.int .i64 0]),true⟩,⟨.struct [(3,0),(3,1),(3,2)],3,24,(.agg #[.int .i64 0,.int .i64 0,.int .i64 0]),true⟩,⟨.struct [(9,0),(27,1)],4,40,(.agg #[.string ⟨#[]⟩,.int .i64 0,.int .i64 0,.int .i64 0]),true⟩,⟨.struct [(9,0),(27,1)],4,40,(.agg #[.string ⟨#[]⟩,.int .i64 0,.int .i64 0,.int .i64 0]),true⟩,tF,tF]
def AbQ:List TI := [tI,⟨.other,1,0,(.tuple #[.agg #[.slice .none 0 0,.slice .none 0 0],.int .i64 0]),true⟩,tF,tF,tF,⟨.other,1,0,(.tuple #[.agg #[.string ⟨#[]⟩,.int .i64 0,.int .i64 0,.int .i64 0],.int .i64 0]),true⟩,tF,⟨.slice 71,1,24,(.slice .none 0 0),true⟩,⟨.struct [(9,0),(27,1),(39,4),(9,5),(9,6),(9,7),(4,8)],9,120,(.agg #[.string ⟨#[]⟩,.int .i64 0,.int .i64 0,.int .i64 0,.slice .none 0 0,.string ⟨#[]⟩,.string ⟨#[]⟩,.string ⟨#[]⟩,.bool .false]),true⟩,⟨.struct [(9,0),(27,1),(39,4),(9,5),(9,6),(9,7),(4,8)],9,120,(.agg #[.string ⟨#[]⟩,.int .i64 0,.int .i64 0,.int .i64 0,.slice .none 0 0,.string ⟨#[]⟩,.string ⟨#[]⟩,.string ⟨#[]⟩,.bool .false]),true⟩,⟨.other,1,0,(.tuple #[.agg #[.string ⟨#[]⟩,.int .i64 0,.int .i64 0,.int .i64 0,.slice .none 0 0,.string ⟨#[]⟩,.string ⟨#[]⟩,.string ⟨#[]⟩,.bool .false],.bool .false]),true⟩,tF,tiN,⟨.slice 29,1,24,(.slice .none 0 0),true⟩,tiN,tiN]
def AbR:List TI := [tiN,tiN,tiN,tiN,tiN,tiN,tiN,⟨.slice 60,1,24,(.slice .none 0 0),true⟩,tiN,tiN,tiN,tiN,⟨.struct [(9,0),(3,1),(3,2)],3,32,(.agg #[.string ⟨#[]⟩,.int .i64 0,.int .i64 0]),true⟩,tiN,tiN,tiN]
def AbS:List TI := [tiN,tiN,tiN,⟨.struct [(3,0),(3,1)],2,16,(.agg #[.int .i64 0,.int .i64 0]),true⟩,⟨.slice 67,1,24,(.slice .none 0 0),true⟩,⟨.slice 67,1,24,(.slice .none 0 0),true⟩,tiN,⟨.struct [(9,0),(69,1)],2,40,(.agg #[.string ⟨#[]⟩,.slice .none 0 0]),true⟩,tiN,tiN,tiN,tiN,tiN,tiN,tiN,tiN]
def AbT:List TI := [tiN,⟨.map 29 41,1,8,(.map .none),true⟩,⟨.map 9 22,1,8,(.map .none),true⟩,tiN,⟨.struct [(81,0),(82,1)],2,16,(.agg #[.map .none,.map .none]),true⟩,tiN,tiN,tiN,⟨.slice 192,1,24,(.slice .none 0 0),true⟩,⟨.slice 170,1,24,(.slice .none 0 0),true⟩,tiN,⟨.struct [(4,0),(45,1),(88,2),(89,3)],4,80,(.agg #[.bool .false,.slice .none 0 0,.slice .none 0 0,.slice .none 0 0]),true⟩,tiN,tiN,tiN,tiN]
def AbU:List TI := [tiN,tiN,⟨.ptr 41,1,8,(.pointer .none),true⟩,tF,tiN,tiN,tiN,tiN,tF,⟨.array 3 3,3,24,(.agg #[.int .i64 0,.int .i64 0,.int .i64 0]),true⟩,tiN,tiN,⟨.ptr 119,1,8,(.pointer .none),true⟩,tiN,⟨.other,1,0,(.tuple #[.int .i64 0,.bool .false]),true⟩,tiN]
def AbV:List TI := [⟨.map 9 116,1,8,(.map .none),true⟩,⟨.map 9 69,1,8,(.map .none),true⟩,⟨.slice 168,1,24,(.slice .none 0 0),true⟩,⟨.map 192 3,1,8,(.map .none),true⟩,⟨.slice 150,1,24,(.slice .none 0 0),true⟩,⟨.slice 89,1,24,(.slice .none 0 0),true⟩,tiN,⟨.struct [(39,0),(112,1),(113,2),(88,3),(114,4),(115,5),(4,6),(116,7),(45,8),(117,9)],10,176,(.agg #[.slice .none 0 0,.map .none,.map .none,.slice .none 0 0,.slice .none 0 0,.map .none,.bool .false,.slice .none 0 0,.slice .none 0 0,.slice .none 0 0]),true⟩,tiN,tiN,tiN,tF,tiN,tiN,tiN,⟨.slice 343,1,24,(.slice .none 0 0),true⟩]
def AbW:List TI := [⟨.slice 345,1,24,(.slice .none 0 0),true⟩,⟨.slice 347,1,24,(.slice .none 0 0),true⟩,⟨.slice 349,1,24,(.slice .none 0 0),true⟩,tiN,⟨.struct [(9,0),(127,1),(128,2),(129,3),(130,4)],5,112,(.agg #[.string ⟨#[]⟩,.slice .none 0 0,.slice .none 0 0,.slice .none 0 0,.slice .none 0 0]),true⟩,⟨.slice 45,1,24,(.slice .none 0 0),true⟩,tiN,tiN,⟨.map 9 3,1,8,(.map .none),true⟩,tiN,tiN,⟨.slice 9,1,24,(.slice .none 0 0),true⟩,tiN,tiN,tiN,tiN]
def AbX:List TI := [tiN,tiN,tiN,tiN,tiN,tiN,⟨.struct [(3,0),(41,1)],10,128,(.agg #[.int .i64 0,.string ⟨#[]⟩,.int .i64 0,.int .i64 0,.int .i64 0,.slice .none 0 0,.string ⟨#[]⟩,.string ⟨#[]⟩,.string ⟨#[]⟩,.bool .false]),true⟩,tiN,⟨.slice 158,1,24,(.slice .none 0 0),true⟩,tiN,tiN,⟨.slice 3,1,24,(.slice .none 0 0),true⟩,tiN,tiN,⟨.struct [(71,0),(9,2),(3,3),(3,4)],5,72,(.agg #[.string ⟨#[]⟩,.slice .none 0 0,.string ⟨#[]⟩,.int .i64 0,.int .i64 0]),true⟩,tiN]
def wR:List TI := [tF,tiN,tiN,tiN,tiN,tiN,tiN,⟨.slice 198,1,24,(.slice .none 0 0),true⟩,⟨.slice 198,1,24,(.slice .none 0 0),true⟩,tiN,⟨.struct [(9,0),(3,1),(3,2)],3,32,(.agg #[.string ⟨#[]⟩,.int .i64 0,.int .i64 0]),true⟩,tiN,tiN,tiN,⟨.int .u64,1,8,(.int .u64 0),true⟩,tiN]
def wS:List TI := [tiN,tiN,tiN,tiN,tiN,⟨.ptr 71,1,8,(.pointer .none),true⟩,tiN,tiN,tiN,tiN,tF,tiN,tiN,tF,tiN,tiN]
def wT:List TI := [⟨.struct [(3,0),(9,1),(3,2),(3,3),(3,4),(3,5)],6,56,(.agg #[.int .i64 0,.string ⟨#[]⟩,.int .i64 0,.int .i64 0,.int .i64 0,.int .i64 0]),true⟩,tiN,tiN,tiN,tiN,tiN,⟨.struct [(9,0),(4,1),(69,2)],3,48,(.agg #[.string ⟨#[]⟩,.bool .false,.slice .none 0 0]),true⟩,tF,tiN,tiN,tiN,tiN,tI,⟨.other,1,0,(.tuple #[.int .i64 0,.int .i64 0]),true⟩,tiN,tiN]
def wU:List TI := [tiN,tiN,tiN,⟨.int .u32,1,4,(.int .u32 0),true⟩,tiN,⟨.int .u64,1,8,(.int .u64 0),true⟩,tF,tiN,⟨.other,1,0,(.tuple #[.string ⟨#[]⟩,.bool .false]),true⟩,tiN,tiN,tiN,tiN,tiN,tiN,tiN]
def wV:List TI := [tiN,tiN,tiN,tiN,tF,tiN,tiN,tF,tiN,tF,tiN,tiN,tiN,tiN,tF,tiN]
def wW:List TI := [tiN,tiN,tiN,tiN,tF,⟨.int .u64,1,8,(.int .u64 0),true⟩,tiN,tiN,tiN,⟨.ptr 3,1,8,(.pointer .none),true⟩,tiN,tiN,tiN,tiN,tiN,tiN]
def wX:List TI := [tF,tiN,tiN,tiN,⟨.other,1,0,(.tuple #[.int .u32 0,.int .u32 0]),true⟩,tiN,tiN,tiN,tiN,tiN,tiN,tiN,tiN,⟨.map 9 198,1,8,(.map .none),true⟩,tiN,tiN]
def wY:List TI := [tF,tiN,⟨.ptr 245,1,8,(.pointer .none),true⟩,⟨.other,1,0,(.tuple #[.int .i64 0,.int .i64 0]),true⟩,tiN,tiN,tiN,tiN,tiN,tiN,tiN,tiN,tiN,⟨.slice 69,1,24,(.slice .none 0 0),true⟩,⟨.map 3 3,1,8,(.map .none),true⟩,tiN]
def wZ:List TI := [tiN,tiN,⟨.slice 5,1,24,(.slice .none 0 0),true⟩,⟨.other,1,0,(.tuple #[.int .i32 0,.int .i64 0]),true⟩,tiN,tiN,tiN,tiN,tiN,tiN,tiN,tiN,tiN,tiN,tiN,tiN]
def w6:List TI := [tiN,tiN,tiN,tiN,tiN,tiN,tiN,tiN,tiN,⟨.array 256 5,256,256,(.agg (([.int .u8 0,.int .u8 0,.int .u8 0,.int .u8 0,.int .u8 0,.int .u8 0,.int .u8 0,.int .u8 0,.int .u8 0,.int .u8 0,.int .u8 0,.int .u8 0,.int .u8 0,.int .u8 0,.int .u8 0,.int .u8 0,.int .u8 0,.int .u8 0,.int .u8 0,.int .u8 0,.int .u8 0,.int .u8 0,.int .u8 0,.int .u8 0,.int .u8 0,.int .u8 0,.int .u8 0,.int .u8 0,.int .u8 0,.int .u8 0,.int .u8 0,.int .u8 0,.int .u8 0,.int .u8 0,.int .u8 0,.int .u8 0,.int .u8 0,.int .u8 0,.int .u8 0,.int .u8 0,.int .u8 0,.int .u8 0,.int .u8 0,.int .u8 0,.int .u8 0,.int .u8 0,.int .u8 0,.int .u8 0,.int .u8 0,.int .u8 0,.int .u8 0,.int .u8 0,.int .u8 0,.int .u8 0,.int .u8 0,.int .u8 0,.int .u8 0,.int .u8 0,.int .u8 0,.int .u8 0,.int .u8 0,.int .u8 0,.int .u8 0,.int .u8 0].append [.int .u8 0,.int .u8 0,.int .u8 0,.int .u8 0,.int .u8 0,.int .u8 0,.int .u8 0,.int .u8 0,.int .u8 0,.int .u8 0,.int .u8 0,.int .u8 0,.int .u8 0,.int .u8 0,.int .u8 0,.int .u8 0,.int .u8 0,.int .u8 0,.int .u8 0,.int .u8 0,.int .u8 0,.int .u8 0,.int .u8 0,.int .u8 0,.int .u8 0,.int .u8 0,.int .u8 0,.int .u8 0,.int .u8 0,.int .u8 0,.int .u8 0,.int .u8 0,.int .u8 0,.int .u8 0,.int .u8 0,.int .u8 0,.int .u8 0,.int .u8 0,.int .u8 0,.int .u8 0,.int .u8 0,.int .u8 0,.int .u8 0,.int .u8 0,.int .u8 0,.int .u8 0,.int .u8 0,.int .u8 0,.int .u8 0,.int .u8 0,.int .u8 0,.int .u8 0,.int .u8 0,.int .u8 0,.int .u8 0,.int .u8 0,.int .u8 0,.int .u8 0,.int .u8 0,.int .u8 0,.int .u8 0,.int .u8 0,.int .u8 0,.int .u8 0]).append ([.int .u8 0,.int .u8 0,.int .u8 0,.int .u8 0,.int .u8 0,.int .u8 0,.int .u8 0,.int .u8 0,.int .u8 0,.int .u8 0,.int .u8 0,.int .u8 0,.int .u8 0,.int .u8 0,.int .u8 0,.int .u8 0,.int .u8 0,.int .u8 0,.int .u8 0,.int .u8 0,.int .u8 0,.int .u8 0,.int .u8 0,.int .u8 0,.int .u8 0,.int .u8 0,.int .u8 0,.int .u8 0,.int .u8 0,.int .u8 0,.int .u8 0,.int .u8 0,.int .u8 0,.int .u8 0,.int .u8 0,.int .u8 0,.int .u8 0,.int .u8 0,.int .u8 0,.int .u8 0,.int .u8 0,.int .u8 0,.int .u8 0,.int .u8 0,.int .u8 0,.int .u8 0,.int .u8 0,.int .u8 0,.int .u8 0,.int .u8 0,.int .u8 0,.int .u8 0,.int .u8 0,.int .u8 0,.int .u8 0,.int .u8 0,.int .u8 0,.int .u8 0,.int .u8 0,.int .u8 0,.int .u8 0,.int .u8 0,.int .u8 0,.int .u8 0].append [.int .u8 0,.int .u8 0,.int .u8 0,.int .u8 0,.int .u8 0,.int .u8 0,.int .u8 0,.int .u8 0,.int .u8 0,.int .u8 0,.int .u8 0,.int .u8 0,.int .u8 0,.int .u8 0,.int .u8 0,.int .u8 0,.int .u8 0,.int .u8 0,.int .u8 0,.int .u8 0,.int .u8 0,.int .u8 0,.int .u8 0,.int .u8 0,.int .u8 0,.int .u8 0,.int .u8 0,.int .u8 0,.int .u8 0,.int .u8 0,.int .u8 0,.int .u8 0,.int .u8 0,.int .u8 0,.int .u8 0,.int .u8 0,.int .u8 0,.int .u8 0,.int .u8 0,.int .u8 0,.int .u8 0,.int .u8 0,.int .u8 0,.int .u8 0,.int .u8 0,.int .u8 0,.int .u8 0,.int .u8 0,.int .u8 0,.int .u8 0,.int .u8 0,.int .u8 0,.int .u8 0,.int .u8 0,.int .u8 0,.int .u8 0,.int .u8 0,.int .u8 0,.int .u8 0,.int .u8 0,.int .u8 0,.int .u8 0,.int .u8 0,.int .u8 0])).toArray),true⟩,tiN,⟨.struct [(5,0),(5,1)],2,2,(.agg #[.int .u8 0,.int .u8 0]),true⟩,⟨.array 16 315,32,32,(.agg (Array.replicate 32 (.int .u8 0))),true⟩,tiN,tiN,tiN]
def w7:List TI := [tiN,tiN,tiN,⟨.struct [(17,0),(17,1),(17,2),(9,3)],4,40,(.agg #[.pointer .none,.pointer .none,.pointer .none,.string ⟨#[]⟩]),false⟩,tiN,tiN,⟨.other,0,0,(.agg #[]),false⟩,tiN,⟨.int .u8,1,1,(.int .u8 0),true⟩,⟨.int .u8,1,1,(.int .u8 0),true⟩,tF,⟨.ptr 5,1,8,(.pointer .none),true⟩,⟨.int .i32,1,4,(.int .i32 0),true⟩,⟨.int .i32,1,4,(.int .i32 0),true⟩,tiN,⟨.struct [(12,0),(12,1),(211,2),(328,3),(5,4),(5,5),(329,6),(330,7),(331,8),(332,9),(333,10)],11,48,(.agg #[.int .u64 0,.int .u64 0,.int .u32 0,.int .u8 0,.int .u8 0,.int .u8 0,.int .u8 0,.nilFunc,.pointer .none,.int .i32 0,.int .i32 0]),false⟩]
def w8:List TI := [tiN,⟨.slice 352,1,24,(.slice .none 0 0),true⟩,⟨.slice 341,1,24,(.slice .none 0 0),true⟩,⟨.slice 354,1,24,(.slice .none 0 0),true⟩,tiN,⟨.struct [(3,0),(9,1),(9,2),(338,3),(339,4)],5,88,(.agg #[.int .i64 0,.string ⟨#[]⟩,.string ⟨#[]⟩,.slice .none 0 0,.slice .none 0 0]),true⟩,tiN,⟨.struct [(9,0),(337,1),(341,2),(341,7)],12,216,(.agg #[.string ⟨#[]⟩,.slice .none 0 0,.int .i64 0,.string ⟨#[]⟩,.string ⟨#[]⟩,.slice .none 0 0,.slice .none 0 0,.int .i64 0,.string ⟨#[]⟩,.string ⟨#[]⟩,.slice .none 0 0,.slice .none 0 0]),true⟩,tiN,⟨.struct [(9,0),(337,1),(341,2)],7,128,(.agg #[.string ⟨#[]⟩,.slice .none 0 0,.int .i64 0,.string ⟨#[]⟩,.string ⟨#[]⟩,.slice .none 0 0,.slice .none 0 0]),true⟩,tiN,⟨.struct [(9,0),(9,1),(9,2)],3,48,(.agg #[.string ⟨#[]⟩,.string ⟨#[]⟩,.string ⟨#[]⟩]),true⟩,tiN,⟨.struct [(9,0),(9,1)],2,32,(.agg #[.string ⟨#[]⟩,.string ⟨#[]⟩]),true⟩,tiN,tiN]
def w9:List TI := [⟨.struct [(9,0),(3,1),(341,2)],7,112,(.agg #[.string ⟨#[]⟩,.int .i64 0,.int .i64 0,.string ⟨#[]⟩,.string ⟨#[]⟩,.slice .none 0 0,.slice .none 0 0]),true⟩,tiN,⟨.struct [(9,0),(341,1),(4,6)],7,112,(.agg #[.string ⟨#[]⟩,.int .i64 0,.string ⟨#[]⟩,.string ⟨#[]⟩,.slice .none 0 0,.slice .none 0 0,.bool .false]),true⟩]
def tbl:List (List TI) := [AbO,AbP,AbQ,AbR,AbS,AbT,AbU,AbV,AbW,AbX,wR,wS,wT,wU,wV,wW,wX,wY,wZ,w6,w7,w8,w9]
def pU:G4 := fun t => lM zV (lM [] tbl (t / 16)) (t % 16)
def usedT:List Nat := [0,1,2,3,4,5,6,7,8,9,10,11,12,13,14,15,16,17,18,19,20,21,22,23,24,25,26,27,28,29,30,31,32,33,34,35,36,37,38,39,40,41,42,43,45,55,60,67,68,69,71,81,82,84,88,89,91,98,99,104,105,108,110,112,113,114,115,116,117,119,123,127,128,129,130,132,133,136,139,150,152,155,158,160,167,168,170,174,181,186,189,192,198,199,204,205,211,213,214,216,228,231,233,238,244,245,249,256,260,269,272,274,275,285,286,290,291,313,315,316,323,326,328,329,330,331,332,333,335,337,338,339,341,343,345,347,349,352,354]
def restT:List Nat := (List.range 368).filter fun t => !usedT.contains t
theorem mH:usedT.map pU = usedT.map (iP Tryz.prog) := by kernel_rfl
theorem tab_rest:restT.map pU = restT.map fun _ => zV := by kernel_rfl
theorem d9{α:Type}(d:α):∀(l:List α) (n:Nat),l.length ≤ n → lM d l n = d
 | [],_,_ => rfl
 |_::_,0,h => by simp at h
 |_::r,n + 1,h => d9 d r n (by simpa using h)
theorem Co:CL Tryz.prog pU := by
 intro t
 by_cases h:t<368
 ·by_cases u:t∈usedT
  ·exact .inr (List.map_inj_left.1 mH t u)
  ·exact .inl (List.map_inj_left.1 tab_rest t (BM.2 ⟨Pq.2 h,by simpa using u⟩))
 ·have h1:lM ([]:List TI) tbl (t / 16) = [] := d9 _ _ _ (by show 23 ≤ t / 16;omega)
  have h2:pU t = zV := by unfold pU;rw[h1];rfl
  exact .inl h2
end Go.Eng
namespace Go.Eng
variable {args:List AV}{f:Nat}(vals:List Value)
section
variable {P:Program}
theorem fW {fn : Func}{c : Code}(hf : P.funcs[f]? = some fn)(hn : (fn.name == "runtime.NumGoroutine") = false)(hb : fn.body = some c) : GD P f := ⟨fn, hf, hn, by simp [hb]⟩
theorem Mc{res:AV}(v:Value)(hE:GD P f)(ha:args=vals.map .v)(sj:∀g w,BP g w FQ res v)(h:∀w,(∃m,w.cell? ⟨gB,0,none⟩=some (.int .i64 m))→Calls P f vals.toArray w fun e w'=>e=.returned v∧w'=w):J9 P f args res:=by
 refine⟨hE,fun g w us hs hv hI=>?_⟩;have hu:us=vals.toArray:=by
  subst ha;rw[A8]at hs;refine Array.ext (by simpa using hs) fun i h1 h2=>?_
  have:=hv i (.v (vals[i]'(by simpa using h2))) us[i] (by rw[AL,AE (by simpa using h2)];rfl) (by rw[Bs h1])
  rw[this.v_eq];simp
 subst hu;refine(h w hI.glob.1.2).mono ?_
 rintro e w' ⟨rfl,rfl⟩
 exact⟨v,res,Af,g,rfl,⟨rfl,rfl⟩,(sj g _).up _,hI,.refl _ _ _⟩
theorem mh{g:Gh}{w:World}:∀(vs:List Value),BP g w FQ (.tup (vs.map .v)) (.tuple vs.toArray):=fun vs =>
 .tup _ _ _ B0 fun i av x h1 h2=>by
  rw[AL,AW]at h1;obtain⟨a,e1,rfl⟩:=h1
  have:vs[i]?=some x:=by simpa using h2
  rw[e1]at this;cases this;exact .v _ _
theorem iy(es:List Value)(T:TypeId)(hE:GD P f)(ha:args=vals.map .v)(h1:∀x∈es,x.oneCell'=true)(h:∀w,(∃m,w.cell? ⟨gB,0,none⟩=some (.int .i64 m))→Calls P f vals.toArray w fun e w'=>e=.returned (.slice (some ⟨w.heap.size,0,none⟩) es.length es.length)∧w'=w.alloc (.cells es.toArray T)) :
  J9 P f args (.slice .none (es.map fun x=>[.v x])):=by
 refine⟨hE,fun g w us hs hv hI=>?_⟩;have hu:us=vals.toArray:=by
  subst ha;rw[A8]at hs;refine Array.ext (by simpa using hs) fun i h1 h2=>?_
  have:=hv i (.v (vals[i]'(by simpa using h2))) us[i] (by rw[AL,AE (by simpa using h2)];rfl) (by rw[Bs h1])
  rw[this.v_eq];simp
 subst hu;refine(h w hI.glob.1.2).mono ?_
 rintro e w' ⟨rfl,rfl⟩
 have Fp:(w.alloc (.cells es.toArray T)).heap[w.heap.size]?=some (.cells es.toArray T (0,0)):=Ip w _ rfl;have Yg:∀b,b<w.heap.size→(w.alloc (.cells es.toArray T)).heap[b]?=w.heap[b]?:=fun b hb=>heap_alloc_old _ _ hb;have hK:E3 g w ⟨g.ρ,g.ln,g.tk,g.own,g.more w.heap.size es.length⟩ (w.alloc (.cells es.toArray T)):=fun b o hb=>by
  have DJ:=hI.slt b o hb;exact⟨.inl hb,by simp only[World.cell?,Yg b DJ],fun es ck he=>(Yg b DJ).trans he⟩
 refine⟨_,_,Af,⟨g.ρ,g.ln,g.tk,g.own,g.more w.heap.size es.length⟩,rfl,⟨rfl,rfl⟩,?_,⟨rfl,rfl,rfl,?_,fun b hb _=>Yg b hb,fun b o hs=>?_,fun _=>trivial,fun _ _ _ h=>h.elim,fun _ _ h=>h.elim,fun b o hs=>?_,hI.glob.keep hK⟩,⟨.refl _ _,fun _ h=>h,hK⟩⟩
 ·have hr:CU ⟨g.ρ,g.ln,g.tk,g.own,g.more w.heap.size es.length⟩ (w.alloc (.cells es.toArray T)) FQ (es.map fun x=>[AV.v x]).flatten (es.toArray.toList.take ((es.map fun x=>[AV.v x]).length*1)):=by
   have hfl:∀l:List Value,(l.map fun x=>[AV.v x]).flatten=l.map .v:=fun l=>by
    induction l with
    |nil=>rfl
    |cons a l ih=>rw[AJ,Bm,ih];rfl
   rw[hfl];simp only[A8,Nat.mul_one,Dp];refine⟨by simp,fun x hx=>h1 x (by simpa using hx),fun i av x q1 q2=>?_⟩;rw[AL,AW]at q1;obtain⟨a,e1,rfl⟩:=q1;rw[e1]at q2;cases q2;exact .v _ _
  have:=BP.slice_row (U:=AT Af) (cap:=es.length) (sz:=1) (es:=es.map fun x=>[AV.v x]) Fp (fun cs hcs=>by
   obtain⟨x,_,rfl⟩:=Am.1 hcs;rfl) B0 hr (fun o ho=>.inr ⟨rfl,by simpa using ho⟩)
  simpa using this
 ·rw[World.size_alloc];omega
 ·rw[World.size_alloc];rcases hs with hs | ⟨rfl,_⟩
  ·have:=hI.slt b o hs;omega
  ·omega
 ·rcases hs with hs | ⟨rfl,_⟩
  ·exact .inl hs
  ·exact .inr (.inl (Ao _))
end
end Go.Eng
namespace Go.Eng
open Go.Sort
section
variable {P:Program}
theorem Ot(F c:Array Value)(h:F.size≤c.size):(putCells id 0 F c).toList.take F.size=F.toList∧(putCells id 0 F c).size=c.size:=by
 have hs:(putCells id 0 F c).size=c.size:=by simp[putCells]
 refine⟨?_,hs⟩;apply Dq;intro i;rw[Kw,AQ,AQ]
 by_cases hi:i<F.size
 ·rw[Al hi];have x8:i<c.size:=by omega
  simp only[putCells,Array.getElem?_mapIdx,Bs x8,Bs hi,Ib,AA,true_and,Bi,hi,SA,Nat.sub_zero,id_eq];rw[DO F i hi]
 ·rw[Ae hi,VI ch]
theorem UB(r:Nat)(o o' : HO):A0 (Ak [(r,o)] Af) r o'=Ak [(r,o')] Af:=by
 funext i
 by_cases e:i=r
 ·subst e;rw[Bg];simp[Ak]
 ·rw[B7 _ _ _ _ e];simp[Ak,CX e]
theorem Rc{f:Nat}{es:List (List AV)}{sz:Nat}{rest:List Value}{Q:List (List AV)→Prop}(hE:GD P f)
  (h0:es=[]→Q []∧∀w,Calls P f (#[.slice none 0 0]++rest.toArray) w fun e w'=>e=.returned (.tuple #[])∧w'=w)
  (h1:∀(g:Gh) (w:World) (b cap:Nat) (F:Array Value),CU g w FQ es.flatten F.toList→F.size=es.length*sz→Holds id w b 0 F→b<w.heap.size→Calls P f (#[.slice (some ⟨b,0,none⟩) es.length cap]++rest.toArray) w fun e w' =>
   e=.returned (.tuple #[])∧∃(F' : Array Value) (F7 : List (List AV)) (n:Nat) (os:Array Obj),F'.size=F.size∧Q F7∧F7.length=es.length∧(∀cs∈F7,cs.length=sz) ∧
    (∀(g:Gh) (w:World),CU g w FQ es.flatten F.toList→CU g w FQ F7.flatten F'.toList)∧w'=grow (putRow id (Sort.ahead w n) b 0 F') os) :
  A1 P f (.msl 1000 es.length::rest.map .v) (Ak [(1000,.arr sz es)] Af) fun r h'=>r=.tup []∧∃F7,Q F7∧h'=Ak [(1000,.arr sz F7)] Af:=by
 refine⟨hE,fun g w us hs hv hI=>?_⟩;have ho:=hI.objs 1000;have he:Ak [(1000,HO.arr sz es)] Af 1000=.arr sz es:=rfl;rw[he]at ho;obtain⟨t1,l1,al,a2⟩:=ho;simp only[Av,A8]at hs
 -- the arguments
 have hu0:0<us.size:=by omega
 have jc:=hv 0 (.msl 1000 es.length) us[0] rfl (Bs hu0);have hval:us[0]=g.ρ 1000:=by
  generalize us[0]=x at jc;cases jc with
  |msl _ r n a cap hu ht hn ha hx=>exact hx l1.symm
 have Lb:us=#[g.ρ 1000]++rest.toArray:=by
  refine Array.ext (by simp;omega) fun i h1 h2=>?_;cases i with
  |zero=>rw[hval];simp
  |succ i =>
   have hi:i<rest.length:=by omega
   have:=hv (i+1) (.v rest[i]) us[i+1] (by simp[List.getElem?_eq_getElem hi]) (Bs h1)
   rw[this.v_eq];simp
 rw[Lb];rcases a2 with ⟨b1,b2,b3⟩ | ⟨b,cap,E,vs,b1,b2,b3,b4,b5,b6,b7⟩
 ·subst b1;obtain⟨q,h0⟩:=h0 rfl;rw[b2];refine(h0 w).mono ?_
  rintro e w' ⟨rfl,rfl⟩
  exact⟨_,.tup [],_,g,rfl,⟨rfl,[],q,rfl⟩,.tup _ _ _ rfl (fun i av x h=>by simp at h),hI,.refl _ _ _⟩
 ·have hl:(Ak [(1000,HO.arr sz es)] Af 1000).live:=trivial;have DJ:=(hI.loc 1000 b hl b2).1;have HD:es.length*sz≤vs.size:=by rw[b5];exact Bk _ b3
  have hF:((vs.toList.take (es.length*sz)).toArray).size=es.length*sz:=by simp;omega
  have hH:Holds id w b 0 (vs.toList.take (es.length*sz)).toArray:=fun j hj=>by
   have hj:j<es.length*sz:=by rw[hF]at hj;exact hj
   refine⟨?_,?_⟩
   ·have vP:j<vs.size:=by omega
    simp only[World.cell?,b4,Bi,Option.isSome_none,DA,GZ];rw[Bs vP,DO _ j (by rw[hF];exact hj)];simp
   ·simp[World.frozen?,b4]
  rw[b1];refine(h1 g w b cap _ (by simpa using b6) hF hH DJ).mono ?_
  rintro e w' ⟨rfl,F',F7,n,os,f1,f2,f3,f4,f5,rfl⟩
  have tL : F'.size=es.length*sz:=f1.trans hF;have wk:=Ot F' vs ch;have rT : (grow (putRow id (Sort.ahead w n) b 0 F') os).heap[b]?=some (.cells (putCells id 0 F' vs) E (0,0)):=by
   rw[heap_grow_old _ _ (by rw[size_putRow];exact DJ)];show(w.heap.modify b (onCells (putCells id 0 F')))[b]?=_;rw[Array.getElem?_modify,Al rfl,b4];rfl
  have wa:∀k,k<w.heap.size→k≠b→(grow (putRow id (Sort.ahead w n) b 0 F') os).heap[k]?=w.heap[k]?:=fun k hk DM=>by
   rw[heap_grow_old _ _ (by rw[size_putRow];exact hk)];simp[putRow,mapBlock,Array.getElem?_modify,Ne.symm DM]
  have Ev:w.heap.size≤(grow (putRow id (Sort.ahead w n) b 0 F') os).heap.size:=by rw[size_grow,size_putRow];show w.heap.size≤w.heap.size+_;omega
  obtain⟨k1,k2⟩:=hI.upd 1000 (.arr sz F7) (g.ρ 1000) (g.ln 1000) (g.tk 1000) (g.own 1000) g.S (grow (putRow id (Sort.ahead w n) b 0 F') os) (some b) ⟨rfl,rfl,rfl,Ev⟩
   (fun k hk DM=>wa k hk (fun e=>DM (by rw[e]))) (fun b' e=>by cases e;exact⟨hl,b2⟩) (fun _ _ h=>h) (fun _ _ h=>.inl h) (fun b' o e hs=>by cases e;exact absurd hs (b7 o))
   (fun b' _ e=>by rw[b2]at e;cases e;exact⟨BD DJ Ev,.inl ⟨hl,b2⟩⟩) B0 (fun _=>⟨rfl,Ao _,fun _=>rfl,fun _=>rfl⟩) (fun hg hk=>by
    refine⟨by simp[Gh.upd,t1],by simp[Gh.upd,l1,f3],f4,.inr ⟨b,cap,E,_,by simp[Gh.upd,b1,f3],by simp[Gh.upd,b2],by omega,rT,by rw[wk.2,b5],?_,b7⟩⟩
    have:=f5 g w (by simpa using b6)
    rw[f3,←tL,wk.1];exact this.mono hk (fun _ h=>h) (fun _ h=>h.elim))
  rw[UB]at k1 k2;exact⟨_,.tup [],_,_,rfl,⟨rfl,F7,f2,rfl⟩,.tup _ _ _ rfl (fun i av x h=>by simp at h),k1,k2⟩
end
end Go.Eng
namespace Go.Eng
open Go.Sort Go.Proofs
variable {α β:Type}{k:Nat}
theorem SN{g:Gh}{w:World}{U:Nat→Prop}{cs bS : List AV}{vs ji : List Value}(h:vs.length=cs.length):CU g w U (cs++bS) (vs++ji)↔CU g w U cs vs∧CU g w U bS ji:=by
 constructor
 ·intro⟨h1,h2,h3⟩;refine⟨⟨h,fun x hx=>h2 x (Bp _ hx),fun i av x q1 q2=>?_⟩,⟨by simp at h1;omega,fun x hx=>h2 x (Bj _ hx),fun i av x q1 q2=>?_⟩⟩
  ·have a1:=(Aw.1 q1).1;have a2:=(Aw.1 q2).1;exact h3 i av x (by rw[A2 a1];exact q1) (by rw[A2 a2];exact q2)
  ·exact h3 (cs.length+i) av x (by rw[AR ch,Hq];exact q1) (by rw[AR ch,h,Hq];exact q2)
 ·intro⟨⟨h1,h2,h3⟩,k1,k2,k3⟩;refine⟨by simp[h1,k1],fun x hx=>(AY.1 hx).elim (h2 x) (k2 x),fun i av x q1 q2=>?_⟩
  by_cases hi:i<cs.length
  ·rw[A2 hi]at q1;rw[A2 ch]at q2;exact h3 i av x q1 q2
  ·rw[AR ch]at q1;rw[AR ch]at q2;rw[h]at q2;exact k3 _ av x q1 q2
theorem RP{α β:Type}{g:Gh}{w:World}{U:Nat→Prop}{JA:β→List AV}{enc:α→List Value}(hl:∀x y,(enc x).length=(JA y).length):∀ps:List (β×α),
  CU g w U (ps.map fun p=>JA p.1).flatten (ps.map fun p=>enc p.2).flatten↔∀p∈ps,CU g w U (JA p.1) (enc p.2)
 | []=>by simp[CU]
 |p::ps=>by
  simp only[AJ,Bm];rw[SN (hl _ _),RP hl ps];simp
theorem Ni{f:α→β}:∀{m m' : List β},m.Perm m'→∀ps:List α,ps.map f=m→∃md : List α,md.Perm ps∧md.map f=m':=by
 intro m m' h
 induction h with
 |nil=>intro ps e;exact⟨ps,.refl _,e⟩
 |cons x h ih =>
  intro ps e;cases ps with
  |nil=>cases e
  |cons p ps =>
   rw[AJ]at e
   injection e with e1 e2
   obtain⟨md,h1,h2⟩:=ih ps e2;exact⟨p::md,h1.cons p,by rw[AJ,e1,h2]⟩
 |swap x y l =>
  intro ps e
  match ps,e with
  |p::q::ps,e =>
   simp only[AJ,F0]at e;exact⟨q::p::ps,List.Perm.swap _ _ _,by simp[e.1,e.2.1,e.2.2]⟩
 |trans h1 h2 ih1 ih2 =>
  intro ps e;obtain⟨ps1,p1,p2⟩:=ih1 ps e;obtain⟨ps2,q1,q2⟩:=ih2 ps1 p2;exact⟨ps2,q1.trans p1,q2⟩
theorem Up[Inhabited α]{enc:α→List Value}(hk:∀x,(enc x).length=k)(d:Array α):(flatK enc k d).toList=(d.toList.map enc).flatten:=by
 have hl:∀cs∈d.toList.map enc,cs.length=k:=fun cs hcs=>by
  obtain⟨x,_,rfl⟩:=Am.1 hcs;exact hk x
 have CB:(d.toList.map enc).flatten.length=d.size*k:=by
  have:∀l:List α,(l.map enc).flatten.length=l.length*k:=fun l=>by
   induction l with
   |nil=>simp
   |cons a l ih=>simp[hk,Nat.succ_mul,ih];omega
  rw[this];simp
 apply Dq;intro t
 by_cases ht:t<d.size*k
 ·have k0:0<k:=Nat.pos_of_ne_zero fun h=>by subst h;simp at ht
  have h1:t / k<d.size:=by rw[Ml k0];exact ht
  have h2:t % k<k:=Nat.mod_lt _ k0;have e:t=t / k*k+t % k:=by rw[Nat.mul_comm];exact(Wh t k).symm
  rw[AQ,Bs (by simpa using ht),←DO _ t (by simpa using ht),get_flatK _ _ _ _ ht];have hg:(d.toList.map enc)[t / k]?=some (enc d[t / k]!):=by
   rw[AL,AQ,Bs h1,DO d _ h1];rfl
  have:=FK hl hg h2
  rw[e,this,←e];rw[AE (by rw[hk];exact h2),DO _ _ (by rw[hk];exact h2)]
 ·rw[A6 (by simp;omega),A6 ch]
theorem ft{α β:Type}:∀{l:List α} {m:List β},l.length=m.length→(l.zip m).map (·.1)=l∧(l.zip m).map (·.2)=m
 | [],[],_=>⟨rfl,rfl⟩
 |a::l,b::m,h=>by
  have:=ft (l:=l) (m:=m) (by simpa using h)
  simp[this.1,this.2]
section
variable {P:Program}
theorem Ka[Inhabited α]{f:Nat}{rest:List Value}(hE:GD P f)(JA:β→List AV)(enc:α→List Value)(hB:∀x,(JA x).length=k)(hk:∀x,(enc x).length=k)(lt:α→α→Bool)(R:β→α→Prop)(l:List β)(hl:l.length<4611686018427387904)(hR:∀x∈l,∀(g:Gh) (w:World) (vs:List Value),CU g w FQ (JA x) vs→∃a,enc a=vs∧R x a)(El:∀(w:World) (b cap:Nat) (d:Array α),HoldsK enc k w b 0 d→b<w.heap.size→d.size<4611686018427387904→d.size=l.length→Calls P f (#[.slice (some ⟨b,0,none⟩) d.size cap]++rest.toArray) w fun e w' =>
   e=.returned (.tuple #[])∧∃d' n os,PermIn 0 d.size d d'∧SortedIn lt 0 d.size d'∧w'=sortWorldK enc k w b 0 n d' os)(v8:l=[]→∀w:World,Calls P f (#[.slice none 0 0]++rest.toArray) w fun e w'=>e=.returned (.tuple #[])∧w'=w) :
  A1 P f (.msl 1000 l.length::rest.map .v) (Ak [(1000,.arr k (l.map JA))] Af) fun r h' =>
   r=.tup []∧∃l' : List β,l'.Perm l∧(∃al:List α,al.length=l'.length∧(∀(i:Nat) (x:β) (a:α),l'[i]?=some x→al[i]?=some a→R x a)∧al.Pairwise (fun x y=>lt y x=false))∧h'=Ak [(1000,.arr k (l'.map JA))] Af:=by
 have HT:=Rc (P:=P) (f:=f) (es:=l.map JA) (sz:=k) (rest:=rest)
  (Q:=fun F7=>∃l' : List β,l'.Perm l∧(∃al:List α,al.length=l'.length∧(∀(i:Nat) (x:β) (a:α),l'[i]?=some x→al[i]?=some a→R x a)∧al.Pairwise (fun x y=>lt y x=false))∧F7=l'.map JA) hE ?_ ?_
 ·rw[A8]at HT;refine⟨hE,fun g w vals q1 q2 q3=>(HT.2 g w vals q1 q2 q3).mono fun _ _ ⟨v,r,h',g',e1,⟨e2,F7,⟨l',p1,p2,p3⟩,p4⟩,rest⟩=>⟨v,r,h',g',e1,⟨e2,l',p1,p2,by rw[p4,p3]⟩,rest⟩⟩
 ·intro e
  have:l=[]:=by simpa using e
  subst this;exact⟨⟨[],.refl _,⟨[],rfl,fun i x a h=>by simp at h,.nil⟩,rfl⟩,v8 rfl⟩
 ·intro g w b cap F hr hF hH hb
  -- the elements in memory
  have sq:∀(m:List β) (vs:List Value),(∀x∈m,x∈l)→CU g w FQ (m.map JA).flatten vs→∃al:List α,al.length=m.length∧vs=(al.map enc).flatten∧∀(i:Nat) (x:β) (a:α),m[i]?=some x→al[i]?=some a→R x a:=by
   intro m
   induction m with
   |nil =>
    intro vs _ h
    have:vs=[]:=AK (by simpa using h.1)
    subst this;exact⟨[],rfl,rfl,fun i x a h=>by simp at h⟩
   |cons x m ih =>
    intro vs hm h;rw[AJ,Bm]at h;have CB:=h.1;rw[Ad,hB]at CB;have e:vs=vs.take k++vs.drop k:=(Fr k vs).symm;rw[e]at h;rw[SN (by rw[AB,hB];omega)]at h;obtain⟨a,a1,a2⟩:=hR x (hm x (Aa ..)) g w _ h.1;obtain⟨al,b1,b2,b3⟩:=ih _ (fun y hy=>hm y (Ah _ hy)) h.2;refine⟨a::al,by simp[b1],by rw[AJ,Bm,a1,←b2,←e],fun i y c q1 q2=>?_⟩;cases i with
    |zero=>simp only[A9,Bq]at q1 q2;subst q1;subst q2;exact a2
    |succ i=>exact b3 i y c (by simpa using q1) (by simpa using q2)
  obtain⟨al,s1,s2,s3⟩:=sq l F.toList (fun _ h=>h) hr;have hFd:F=flatK enc k al.toArray:=Jt.1 (by rw[Up hk,s2]);have hd:HoldsK enc k w b 0 al.toArray:=by unfold HoldsK;rw[←hFd];exact hH
  have hc:=El w b cap al.toArray hd hb (by simpa[s1]using hl) (by simp[s1]);have Ev:al.toArray.size=(l.map JA).length:=by simp[s1]
  rw[Ev]at hc;refine hc.mono ?_
  rintro e w' ⟨rfl,d',n,os,p1,p2,rfl⟩
  obtain⟨z1,z2⟩:=ft s1.symm;obtain⟨kT,_,JK⟩:=p1;have kT : d'.size=al.length:=by rw[kT];simp
  have e1:d'.extract 0 (l.map JA).length=d':=by rw[show(l.map JA).length=d'.size by rw[kT];simp[s1]];exact Array.extract_size
  have e2:al.toArray.extract 0 (l.map JA).length=al.toArray:=by rw[←Ev];exact Array.extract_size
  rw[e1,e2]at JK;have JK:al.Perm d'.toList:=by
   first
   |exact JK.symm
   |exact JK
   |(have:=JK.symm;simpa using this)
  obtain⟨md,r1,r2⟩:=Ni JK (l.zip al) z2;have rel:∀p∈l.zip al,R p.1 p.2:=fun p hp=>by
   obtain⟨i,hi⟩:=Cg.1 hp;rw[List.getElem?_zip_eq_some]at hi;exact s3 i _ _ hi.1 hi.2
  refine⟨rfl,flatK enc k d',(md.map (·.1)).map JA,n,os,by rw[size_flatK,kT,hF];simp[s1],⟨md.map (·.1),?_,⟨d'.toList,by rw[←r2];simp,fun i x a q1 q2=>?_,?_⟩,rfl⟩,by have:=r1.length_eq;simp[this,s1],fun cs hcs=>?_,fun g w hr=>?_,?_⟩
  ·have:=r1.map (·.1);rw[z1]at this;exact this
  ·rw[←r2]at q2;rw[AL,AW]at q1 q2;obtain⟨p,q1,rfl⟩:=q1;obtain⟨p',q2,rfl⟩:=q2;rw[q1]at q2;cases q2;exact rel p (r1.mem_iff.1 (Ay q1))
  ·rw[AS];intro i j hi hj QV;have MJ : i<d'.size:=by simpa using hi
   have r7 : j<d'.size:=by simpa using hj
   have:=p2 i j (AA _) QV (by rw[kT]at r7;simp[s1]at r7⊢;omega)
   rw[DO d' j r7,DO d' i MJ]at this;simpa using this
  ·obtain⟨x,_,rfl⟩:=Am.1 hcs;exact hB x
  ·have h1:CU g w FQ ((l.zip al).map fun p=>JA p.1).flatten ((l.zip al).map fun p=>enc p.2).flatten:=by
    have a1:(l.zip al).map (fun p=>JA p.1)=l.map JA:=by
     have:(l.zip al).map (fun p=>JA p.1)=((l.zip al).map (·.1)).map JA:=by rw[BE];rfl
     rw[this,z1]
    have a2:(l.zip al).map (fun p=>enc p.2)=al.map enc:=by
     have:(l.zip al).map (fun p=>enc p.2)=((l.zip al).map (·.2)).map enc:=by rw[BE];rfl
     rw[this,z2]
    rw[a1,a2,←s2];exact hr
   have CB:∀(x:α) (y:β),(enc x).length=(JA y).length:=fun x y=>by rw[hk,hB]
   rw[RP CB]at h1;have h2:=(RP (g:=g) (w:=w) (U:=FQ) CB md).2 fun p hp=>h1 p (r1.mem_iff.1 hp);have b1:(md.map (·.1)).map JA=md.map fun p=>JA p.1:=by rw[BE];rfl
   have b2:(flatK enc k d').toList=(md.map fun p=>enc p.2).flatten:=by
    rw[Up hk,←r2,BE];rfl
   rw[b1,b2];exact h2
  ·rfl
end
end Go.Eng
namespace Go.Eng
section
variable {P:Program}
theorem BW{f:Nat}{fn:Func}{c:Code}{args:List AV}{H0:List (Nat×HO)}{Q:AV→(Nat→HO)→Prop}(cx:Cx)(σ:JO)(hP:cx.P=P)(hT:CL P cx.T)(hm:P.follows .mixedOrders=true)(hx:cx.ext=true)(hf:P.funcs[f]?=some fn)
  (hn : (fn.name == "runtime.NumGoroutine") = false) (hb : fn.body = some c) (hN : args.length ≤ fn.ntmps) (hc : ES fn.ntmps c = true) (hσ : (Hm σ && Ji σ H0) = true)
  (hk:Re cx c (Zi cx fn.results.toList σ fun r h'=>∃r',GF r r'∧Q r' h') ⟨PN args,Ak H0 Af⟩) (hY:∀l σ g w,cx.yp l σ g w:=by exact fun _ _ _ _=>trivial):A1 P f args (Ak H0 Af) Q :=
 (kj cx σ hP hT hm hx hf hn hb hN hc hσ hk hY).mono fun _ _ ⟨r',s,q⟩=>⟨r',s,q⟩
end
end Go.Eng
namespace Go.Eng
open Go.Sort
theorem CU.append{g:Gh}{w:World}{U:Nat→Prop}{VP bs:List AV}{xs ys:List Value}(h:CU g w U VP xs)(k:CU g w U bs ys):CU g w U (VP++bs) (xs++ys):=by
 refine⟨by rw[Ad,Ad,h.1,k.1],fun x hx=>?_,fun i av x q1 q2=>?_⟩
 ·rcases AY.1 hx with hx | hx
  ·exact h.2.1 x hx
  ·exact k.2.1 x hx
 ·have hl:=h.1
  by_cases hi:i<VP.length
  ·rw[A2 hi]at q1;rw[A2 ch]at q2;exact h.2.2 i av x q1 q2
  ·rw[AR ch]at q1;rw[AR ch,hl]at q2;exact k.2.2 _ av x q1 q2
theorem CU.take{g:Gh}{w:World}{U:Nat→Prop}{VP:List AV}{xs:List Value}(h:CU g w U VP xs)(k:Nat):CU g w U (VP.take k) (xs.take k):=by
 refine⟨by rw[AB,AB,h.1],fun x hx=>h.2.1 x (EQ hx),fun i av x q1 q2=>?_⟩;rw[Kw]at q1 q2;split at q1
 ·rename_i hi;rw[Al hi]at q2;exact h.2.2 i av x q1 q2
 ·cases q1
theorem CU.drop{g:Gh}{w:World}{U:Nat→Prop}{VP:List AV}{xs:List Value}(h:CU g w U VP xs)(k:Nat):CU g w U (VP.drop k) (xs.drop k):=by
 refine⟨by rw[B3,B3,h.1],fun x hx=>h.2.1 x (Jd hx),fun i av x q1 q2=>?_⟩;rw[DN]at q1 q2;exact h.2.2 _ av x q1 q2
theorem L0{α:Type}{k:Nat}:∀(es:List (List α)) (i:Nat),(∀e∈es,e.length=k)→es.flatten.take (i*k)=(es.take i).flatten
 | [],i,_=>by simp
 |e::es,0,_=>by simp
 |e::es,i+1,h=>by
  have he:=h e (Aa ..);rw[Bm,JN,Bm,List.take_append,←L0 es i fun x hx=>h x (Ah _ hx),Au (by rw[he,Ei];omega),he,show(i+1)*k-k=i*k by rw[Ei];omega]
theorem PW{α:Type}{k:Nat}:∀(es:List (List α)) (i:Nat),(∀e∈es,e.length=k)→es.flatten.drop (i*k)=(es.drop i).flatten
 | [],i,_=>by simp
 |e::es,0,_=>by simp
 |e::es,i+1,h=>by
  have he:=h e (Aa ..);rw[Bm,List.drop_succ_cons,List.drop_append,←PW es i fun x hx=>h x (Ah _ hx),CK (by rw[he,Ei];omega),he,show(i+1)*k-k=i*k by rw[Ei];omega,Fi]
section
variable {P:Program}
theorem Wj{f:Nat}{es:List (List AV)}{sz:Nat}{rest:List Value}{n' : Nat}{Q:List (List AV)→Prop}(hE:GD P f)(DM:es≠[])(ZP : n'≤es.length)
  (h1:∀(g:Gh) (w:World) (b cap:Nat) (F:Array Value),CU g w FQ es.flatten F.toList→F.size=es.length*sz→Holds id w b 0 F→b<w.heap.size→es.length≤cap→Calls P f (#[.slice (some ⟨b,0,none⟩) es.length cap]++rest.toArray) w fun e w' =>
   e=.returned (.slice (some ⟨b,0,none⟩) n' cap)∧∃(F' : Array Value) (F7 : List (List AV)) (n:Nat) (os:Array Obj),F'.size=F.size∧Q F7∧F7.length=es.length∧(∀cs∈F7,cs.length=sz) ∧
    (∀(g:Gh) (w:World),CU g w FQ es.flatten F.toList→CU g w FQ F7.flatten F'.toList)∧w'=grow (putRow id (Sort.ahead w n) b 0 F') os) :
  A1 P f (.msl 1000 es.length::rest.map .v) (Ak [(1000,.arr sz es)] Af) fun r h'=>r=.msl 2000 n'∧∃F7,Q F7∧h'=Ak [(1000,.dead),(2000,.arr sz (F7.take n'))] Af:=by
 refine⟨hE,fun g w us hs hv hI=>?_⟩;have ho:=hI.objs 1000;have he:Ak [(1000,HO.arr sz es)] Af 1000=.arr sz es:=rfl;rw[he]at ho;obtain⟨t1,l1,al,a2⟩:=ho;simp only[Av,A8]at hs;have hu0:0<us.size:=by omega
 have jc:=hv 0 (.msl 1000 es.length) us[0] rfl (Bs hu0);have hval:us[0]=g.ρ 1000:=by
  generalize us[0]=x at jc;cases jc with
  |msl _ r n a cap hu ht hn ha hx=>exact hx l1.symm
 have Lb:us=#[g.ρ 1000]++rest.toArray:=by
  refine Array.ext (by simp;omega) fun i h1 h2=>?_;cases i with
  |zero=>rw[hval];simp
  |succ i =>
   have hi:i<rest.length:=by omega
   have:=hv (i+1) (.v rest[i]) us[i+1] (by simp[List.getElem?_eq_getElem hi]) (Bs h1)
   rw[this.v_eq];simp
 rw[Lb];rcases a2 with ⟨b1,b2,b3⟩ | ⟨b,cap,E,vs,b1,b2,b3,b4,b5,b6,b7⟩
 ·exact absurd b1 DM
 ·have hl:(Ak [(1000,HO.arr sz es)] Af 1000).live:=trivial;have DJ:=(hI.loc 1000 b hl b2).1;have HD:es.length*sz≤vs.size:=by rw[b5];exact Bk _ b3
  have hF:((vs.toList.take (es.length*sz)).toArray).size=es.length*sz:=by simp;omega
  have hH:Holds id w b 0 (vs.toList.take (es.length*sz)).toArray:=fun j hj=>by
   have hj:j<es.length*sz:=by rw[hF]at hj;exact hj
   refine⟨?_,?_⟩
   ·have vP:j<vs.size:=by omega
    simp only[World.cell?,b4,Bi,Option.isSome_none,DA,GZ];rw[Bs vP,DO _ j (by rw[hF];exact hj)];simp
   ·simp[World.frozen?,b4]
  rw[b1];refine(h1 g w b cap _ (by simpa using b6) hF hH DJ b3).mono ?_
  rintro e w' ⟨rfl,F',F7,n,os,f1,f2,f3,f4,f5,rfl⟩
  have tL : F'.size=es.length*sz:=f1.trans hF;have wk:=Ot F' vs ch;have rT : (grow (putRow id (Sort.ahead w n) b 0 F') os).heap[b]?=some (.cells (putCells id 0 F' vs) E (0,0)):=by
   rw[heap_grow_old _ _ (by rw[size_putRow];exact DJ)];show(w.heap.modify b (onCells (putCells id 0 F')))[b]?=_;rw[Array.getElem?_modify,Al rfl,b4];rfl
  have wa:∀k,k<w.heap.size→k≠b→(grow (putRow id (Sort.ahead w n) b 0 F') os).heap[k]?=w.heap[k]?:=fun k hk DM=>by
   rw[heap_grow_old _ _ (by rw[size_putRow];exact hk)];simp[putRow,mapBlock,Array.getElem?_modify,Ne.symm DM]
  have Ev:w.heap.size≤(grow (putRow id (Sort.ahead w n) b 0 F') os).heap.size:=by rw[size_grow,size_putRow];show w.heap.size≤w.heap.size+_;omega
  obtain⟨k1,k2⟩:=hI.upd 1000 (.arr sz F7) (g.ρ 1000) (g.ln 1000) (g.tk 1000) (g.own 1000) g.S (grow (putRow id (Sort.ahead w n) b 0 F') os) (some b) ⟨rfl,rfl,rfl,Ev⟩
   (fun k hk DM=>wa k hk (fun e=>DM (by rw[e]))) (fun b' e=>by cases e;exact⟨hl,b2⟩) (fun _ _ h=>h) (fun _ _ h=>.inl h) (fun b' o e hs=>by cases e;exact absurd hs (b7 o))
   (fun b' _ e=>by rw[b2]at e;cases e;exact⟨BD DJ Ev,.inl ⟨hl,b2⟩⟩) B0 (fun _=>⟨rfl,Ao _,fun _=>rfl,fun _=>rfl⟩) (fun hg hk=>by
    refine⟨by simp[Gh.upd,t1],by simp[Gh.upd,l1,f3],f4,.inr ⟨b,cap,E,_,by simp[Gh.upd,b1,f3],by simp[Gh.upd,b2],by omega,rT,by rw[wk.2,b5],?_,b7⟩⟩
    have:=f5 g w (by simpa using b6)
    rw[f3,←tL,wk.1];exact this.mono hk (fun _ h=>h) (fun _ h=>h.elim))
  rw[UB]at k1 k2;generalize ci : g.upd 1000 (g.ρ 1000) (g.ln 1000) (g.tk 1000) (g.own 1000) g.S=g' at k1 k2;have qr : g'.own 1000=some b:=by rw[←ci];simp[Gh.upd,b2]
  have wb:=k1.objs 1000;have dQ:Ak [(1000,HO.arr sz F7)] Af 1000=.arr sz F7:=rfl;rw[dQ]at wb;obtain⟨m1,m2,m3,m4⟩:=wb;have hρ:g'.ρ 1000=.slice (some ⟨b,0,none⟩) es.length cap:=by rw[←ci];simp[Gh.upd,b1]
  have AaD : F7≠[]:=fun e=>DM (AK (by rw[←f3,e];rfl));rcases m4 with ⟨m4,_⟩ | ⟨b',LR,E',ji,c1,c2,c3,c4,c5,c6,c7⟩
  ·exact absurd m4 AaD
  ·rw[hρ]at c1;simp only[Value.slice.injEq,Bq,Addr.mk.injEq,and_true]at c1;obtain⟨c1a,c1b,c1c⟩:=c1;subst c1a;subst c1c;have kL : (F7.take n').length=n':=by rw[AB];omega
   obtain⟨k3,k4⟩:=k1.move 1000 2000 Cl rfl trivial qr (.arr sz (F7.take n')) (.slice (some ⟨b,0,none⟩) n' cap) n' true B0 (fun hk=>by
    refine⟨by simp[Gh.upd],by simp[Gh.upd,kL],fun cs hcs=>m3 cs (EQ hcs),.inr ⟨b,cap,E',ji,by simp[Gh.upd,kL],by simp[Gh.upd],by omega,c4,c5,?_,c7⟩⟩
    have:=(c6.mono hk (fun _ h=>h) (fun _ h=>h.elim)).take (n'*sz)
    rw[L0 F7 n' m3,List.take_take,Nat.min_eq_left (Bk _ ch)]at this;rw[kL];exact this)
   have vM:A0 (A0 (Ak [(1000,HO.arr sz F7)] Af) 1000 .dead) 2000 (.arr sz (F7.take n'))=Ak [(1000,.dead),(2000,.arr sz (F7.take n'))] Af:=by
    funext i
    by_cases e1:i=2000
    ·subst e1;rw[Bg];rfl
    ·rw[B7 _ _ _ _ e1]
     by_cases e2:i=1000
     ·subst e2;rw[Bg];rfl
     ·rw[B7 _ _ _ _ e2];simp[Ak,CX e1,CX e2]
   rw[vM]at k3 k4;exact⟨_,.msl 2000 n',_,_,rfl,⟨rfl,F7,f2,rfl⟩,.msl _ 2000 n' (some ⟨b,0,none⟩) cap (by intro c;cases c) (by simp[Gh.upd]) (by simp[Gh.upd]) (.inr ⟨b,rfl⟩) (fun _=>by simp[Gh.upd]),k3,k2.trans k4⟩
end
end Go.Eng
namespace Go.Eng
variable {h:Nat→HO}{r ty e m:Nat}{cx:Cx}{x:AV}{K:HK}
def jT(a b:FZ):Bool :=
 (match a.2 with | some r=>!JB b.1 r | none=>true)&&(match b.2 with | some r=>!JB a.1 r | none=>true)
def Rd(ops:Array Oper)(oi:Oper)(fi:FZ)(D:List Nat)(k:Nat):List Oper→List FZ→Bool
 |o::r,f::fs=>(JB D k||(oi.apart ops o&&jT fi f))&&Rd ops oi fi D (k+1) r fs
 | [],[]=>true
 |_,_=>false
def WF(ops:Array Oper)(all:List Oper)(k:Nat):List Oper→List FZ→Bool
 |o::r,f::fs =>
  let D:=Rj k [] 0 all
  (o.after.toList.all fun e=>!Region.binds .any e||Nat.blt e.on k)&&Vw k D 0 all&&(D.all fun j=>Nat.blt k j&&Nat.blt j all.length)&&Rd ops o f D (k+1) r fs&&WF ops all (k+1) r fs
 | [],[]=>true
 |_,_=>false
def dA(ops:Array Oper)(fs:List FZ):Bool:=Region.noSelect ops&&WF ops ops.toList 0 ops.toList fs
def RT(f:FZ):Prop:=∀r,f.2=some r→r<10000000
def TF:List FZ→Prop
 | []=>True
 |f::r=>RT f∧TF r
theorem A3(l:List Nat):RT (l,none):=fun _ h=>by cases h
theorem Ew{l:List Nat}(h:r<10000000):RT (l,some r):=fun _ e=>by cases e;exact h
theorem jU{a b:FZ}(ha:RT a)(hb:RT b)(h:jT a b=true):Ue a b=true:=by
 obtain⟨a1,a2⟩:=a;obtain⟨b1,b2⟩:=b;unfold jT at h;unfold Ue;rw[Ai]at h⊢;refine⟨?_,?_⟩
 ·cases a2 with
  |none=>rfl
  |some r =>
   have h1:(!JB b1 r)=true:=h.1;show aH b1 r=true;unfold aH;rw[CX (show r≠XP by have:=ha r rfl;unfold XP;omega),EM,h1,show Nat.blt r 10000000=true by rw[Cm];exact ha r rfl];rfl
 ·cases b2 with
  |none=>rfl
  |some r =>
   have h1:(!JB a1 r)=true:=h.2;show aH a1 r=true;unfold aH;rw[CX (show r≠XP by have:=hb r rfl;unfold XP;omega),EM,h1,show Nat.blt r 10000000=true by rw[Cm];exact hb r rfl];rfl
theorem Wm{ops:Array Oper}{oi:Oper}{fi:FZ}{D:List Nat}(hi:RT fi):∀{l:List Oper} {fs:List FZ} {k:Nat},TF fs→Rd ops oi fi D k l fs=true→Jf ops oi fi D k l fs=true
 | [],[],_,_,h=>h
 |o::r,f::fs,k,hs,h=>by
  unfold Rd at h;unfold Jf;rw[Ai,Cq,Ai]at h⊢;exact⟨h.1.imp id (fun q=>⟨q.1,jU hi hs.1 q.2⟩),Wm hi hs.2 h.2⟩
 | [],_::_,_,_,h=>by simp[Rd]at h
 |_::_,[],_,_,h=>by simp[Rd]at h
theorem Zf{ops:Array Oper}{all:List Oper}:∀{l:List Oper} {fs:List FZ} {k:Nat},TF fs→WF ops all k l fs=true→MU ops all k l fs=true
 | [],[],_,_,h=>h
 |o::r,f::fs,k,hs,h=>by
  unfold WF at h;unfold MU;simp only[Ai]at h⊢;exact⟨⟨h.1.1,Wm hs.1 hs.2 h.1.2⟩,Zf hs.2 h.2⟩
 | [],_::_,_,_,h=>by simp[WF]at h
 |_::_,[],_,_,h=>by simp[WF]at h
theorem JR{ops:Array Oper}{fs:List FZ}(hs:TF fs)(h:dA ops fs=true):Uf ops fs=true:=by
 unfold dA at h;unfold Uf;rw[Ai]at h⊢;exact⟨h.1,Zf hs h.2⟩
theorem Sp{d:Option Nat}{es es2:List (List AV)}(hty:(cx.T ty).d=.slice e)(hz:Nat.beq (cx.T e).zc.length (cx.T e).size=true)(Ev:(cx.T e).size=m+1)(hx:∀K' : List (List AV)→Prop,K' es2→LZ h x K')(hr:h r=.tok (m+1) es.length)(hl:Cf (m+1) es2)(hb:(es.length+es2.length)*(cx.T e).bytes≤140737488355328)(hc:es.length+es2.length≤9223372036854775807)(hk:K (.slice (.id r (m+1)) (es++es2)) (A0 h r (.tok (m+1) (es.length+es2.length)))):I4 cx d h ty (.slice (.id r (m+1)) es) x K:=by
 have hq:Nat.beq (m+1) (m+1)=true:=Dh _;unfold I4;rw[hty];rw[Ev]at hz;simp only[Ev,hz];refine hx _ ?_;simp only[hr,hq];exact⟨⟨hl,trivial,hb,hc⟩,hk⟩
theorem So{d:Nat}{es2:List (List AV)}(hty:(cx.T ty).d=.slice e)(hz:Nat.beq (cx.T e).zc.length (cx.T e).size=true)(Ev:(cx.T e).size=m+1)(hx:∀K' : List (List AV)→Prop,K' es2→LZ h x K')(hr:h (Lr cx d)=.free)(ha:Hh cx.pl.arr d=none)(hl:Cf (m+1) es2)(hb:es2.length*(cx.T e).bytes≤140737488355328)(hc:es2.length≤9223372036854775807)(hk:K (.slice (.id (Lr cx d) (m+1)) es2) (A0 h (Lr cx d) (.tok (m+1) es2.length))):I4 cx (some d) h ty Ce x K:=by
 unfold I4;rw[hty];rw[Ev]at hz;simp only[Ev,hz];refine hx _ ?_;refine⟨⟨Ev▸hl,hb,hc⟩,?_⟩;unfold E0;simp only[hr,ha];exact hk
end Go.Eng
namespace Go.Eng
open Go.RowKit
end Go.Eng
namespace Go.Eng
def X0:Obj→Bool
 |.cells ..=>false
 |.map ..=>false
 |.mapIter ..=>false
 |.loop r=>!PD [] r.body
 |_=>true
structure dt(n0 x:Nat)(w:World)(g:Gh)(h:Nat→HO)(w' : World)(g' : Gh)(h' : Nat→HO):Prop where
 os:w'.os=w.os
 tape:w'.tape=w.tape
 output:w'.output=w.output
 size:w.heap.size≤w'.heap.size
 frame:∀b,b<n0→b≠x→(∀r,(h r).live→g.own r≠some b)→w'.heap[b]?=w.heap[b]?
 loc:∀r b,(h' r).live→g'.own r=some b→n0≤b∨∃r',(h r').live∧g.own r'=some b
 sg:∀b o,g'.S b o→g.S b o∨n0≤b∨∃r',(h r').live∧g.own r'=some b
 le:Le h g w h' g' w'
section
variable {P:Program}{N:Nat}{ds:List Deferred}{n0 x:Nat}{w w' w1 w2:World}{g g' g1 g2:Gh}{h h' h1 h2:Nat→HO}
theorem dt.trans(a:dt n0 x w g h w1 g1 h1)(b:dt n0 x w1 g1 h1 w2 g2 h2):dt n0 x w g h w2 g2 h2 where
 os:=b.os.trans a.os
 tape:=b.tape.trans a.tape
 output:=b.output.trans a.output
 size:=Bf a.size b.size
 frame c hc hx hn:=(b.frame c hc hx fun r hl e=>by
  rcases a.loc r c hl e with h | ⟨r',h1,h2⟩
  ·omega
  ·exact hn r' h1 h2).trans (a.frame c hc hx hn)
 loc r c hl e:=by
  rcases b.loc r c hl e with h | ⟨r',h1,h2⟩
  ·exact .inl h
  ·exact a.loc r' c h1 h2
 sg c o hs:=by
  rcases b.sg c o hs with h | h | ⟨r',h1,h2⟩
  ·exact a.sg c o h
  ·exact .inr (.inl h)
  ·rcases a.loc r' c h1 h2 with h | h
   ·exact .inr (.inl h)
   ·exact .inr (.inr h)
 le:=a.le.trans b.le
theorem dt.of_inv(hI:DV w g h h' g' w')(hL:Le h g w h' g' w')(hn:n0≤w.heap.size):dt n0 x w g h w' g' h' where
 os:=hI.os
 tape:=hI.tape
 output:=hI.output
 size:=hI.size
 frame c hc _ ZP:=hI.frame c ch ZP
 loc r c hl e:=by
  rcases(hI.loc r c hl e).2 with h | h
  ·exact .inl ch
  ·exact .inr h
 sg c o hs:=by
  rcases hI.sg c o hs with h | h | h
  ·exact .inl h
  ·exact .inr (.inl ch)
  ·exact .inr (.inr h)
 le:=hL
theorem DV.base(hI:DV w g h h' g' w'):DV w' g' h' h' g' w' where
 os:=rfl
 tape:=rfl
 output:=rfl
 size:=Ao _
 frame _ _ _:=rfl
 slt:=hI.slt
 objs:=hI.objs
 inj:=hI.inj
 loc r b hl e:=⟨(hI.loc r b hl e).1,.inr ⟨r,hl,e⟩⟩
 sg _ _ hs:=.inl hs
 glob:=hI.glob
theorem DV.of_seg(hI:DV w' g' h' h' g' w')(s:dt w.heap.size x w g h w' g' h')(hx:x<w.heap.size→w'.heap[x]?=w.heap[x]?):DV w g h h' g' w' where
 os:=s.os
 tape:=s.tape
 output:=s.output
 size:=s.size
 frame b hb hn:=by
  by_cases e:b=x
  ·subst e;exact hx hb
  ·exact s.frame b hb e hn
 slt:=hI.slt
 objs:=hI.objs
 inj:=hI.inj
 loc r b hl e:=⟨(hI.loc r b hl e).1,s.loc r b hl e⟩
 sg:=s.sg
 glob:=hI.glob
theorem Qw{U:Nat→Prop}{r b:Nat}{o:HO}{ob:Obj}(ho:Ez g w U r o)(hl:o.live)(e:g.own r=some b)(hb:w.heap[b]?=some ob)(hd:X0 ob=true):False:=by
 cases o with
 |free=>exact hl
 |dead=>exact hl
 |ro cs=>exact hl
 |rom sh B8=>exact hl
 |cells cs =>
  obtain⟨_,b',E,vs,h1,_,h3,_⟩:=ho;rw[e]at h1;cases h1;rw[hb]at h3;cases h3;cases hd
 |tok sz n =>
  obtain⟨_,_,a,cap,_,(⟨_,h1⟩ | ⟨_,b',E,vs,off,_,h1,h3,_⟩)⟩:=ho
  ·rw[e]at h1;cases h1
  ·rw[e]at h1;cases h1;rw[hb]at h3;cases h3;cases hd
 |vox v=>exact hl
 |hol sz es i c av =>
  obtain⟨_,_,_,b',cap,E,vs,_,h1,_,h3,_⟩:=ho;rw[e]at h1;cases h1;rw[hb]at h3;cases h3;cases hd
 |raw b' eh =>
  obtain⟨_,h1,h2,h3,_⟩:=ho;rw[e]at h1;cases h1;rw[hb]at h2;cases h2;cases ob<;>simp[X0,ut]at hd h3
  rw[hd]at h3;cases h3
 |var sz v n =>
  obtain⟨_,_,a,cap,_,(⟨_,h1⟩ | ⟨_,b',E,vs,off,_,h1,h3,_⟩)⟩:=ho
  ·rw[e]at h1;cases h1
  ·rw[e]at h1;cases h1;rw[hb]at h3;cases h3;cases hd
 |arr sz es =>
  obtain⟨_,_,_,(⟨_,_,h1⟩ | ⟨b',cap,E,vs,_,h1,_,h3,_⟩)⟩:=ho
  ·rw[e]at h1;cases h1
  ·rw[e]at h1;cases h1;rw[hb]at h3;cases h3;cases hd
 |map sh B8 =>
  obtain⟨_,b',es,ck,h1,_,h3,_⟩:=ho;rw[e]at h1;cases h1;rw[hb]at h3;cases h3;cases hd
 |mapU sh B8 =>
  obtain⟨_,b',es,ck,h1,_,h3,_⟩:=ho;rw[e]at h1;cases h1;rw[hb]at h3;cases h3;cases hd
 |iter all rem F6 =>
  obtain⟨_,b',mb,KQ,seen,st,es,ck,h1,_,h3,_⟩:=ho;rw[e]at h1;cases h1;rw[hb]at h3;cases h3;cases hd
theorem DV.dullS(hI:DV w g h h g w)(ho:w'.os=w.os∧w'.tape=w.tape∧w'.output=w.output)(Ev:w.heap.size≤w'.heap.size)
  (hb:∀b,b<w.heap.size→w'.heap[b]?=w.heap[b]?∨∃o o',w.heap[b]?=some o∧w'.heap[b]?=some o'∧X0 o=true∧X0 o'=true)
  (hn:∀b,b<n0→b≠x→w'.heap[b]?=w.heap[b]?):DV w' g h h g w'∧dt n0 x w g h w' g h:=by
 have hk:E3 g w g w':=fun b o hs=>by
  refine⟨hs,?_⟩;rcases hb b (hI.slt b o hs)with e | ⟨ob,eh,e1,e2,d1,d2⟩
  ·exact⟨by simp only[World.cell?,e],fun es ck he=>e.trans he⟩
  ·refine⟨?_,fun es ck he=>?_⟩
   ·simp only[World.cell?,e1,e2];cases ob<;>cases eh<;>first | rfl | (cases d1;done) | (cases d2;done)
   ·rw[e1]at he;cases he;cases d1
 have Yh:∀r b,(h r).live→g.own r=some b→w'.heap[b]?=w.heap[b]?:=fun r b hl e=>by
  rcases hb b (hI.loc r b hl e).1 with e' | ⟨ob,eh,e1,_,d1,_⟩
  ·exact e'
  ·exact(Qw (hI.objs r) hl e e1 d1).elim
 refine⟨⟨rfl,rfl,rfl,Ao _,fun _ _ _=>rfl,fun b o hs=>BD (hI.slt b o hs) Ev,fun r=>?_,hI.inj,fun r b hl e=>⟨BD (hI.loc r b hl e).1 Ev,.inr ⟨r,hl,e⟩⟩,fun _ _ hs=>.inl hs,hI.glob.keep hk⟩,⟨ho.1,ho.2.1,ho.2.2,Ev,fun b rT hx _=>hn b rT hx,fun r b hl e=>.inr ⟨r,hl,e⟩,fun _ _ hs=>.inl hs,⟨.refl _ _,fun _ h=>h,hk⟩⟩⟩;exact(hI.objs r).same hk (fun _ h=>h) (.refl _ _) rfl rfl rfl rfl fun b hl e=>⟨Yh r b hl e,fun _ h=>h⟩
theorem DV.put(hI:DV w g h h g w){l:Nat}{o o' : Obj}(hl:w.heap[l]?=some o)(hd:X0 o=true)(ov : X0 o'=true)(hx:n0≤l∨l=x) :
  DV (w.putObj l o') g h h g (w.putObj l o')∧dt n0 x w g h (w.putObj l o') g h:=by
 have DJ:l<w.heap.size:=(Bw.1 hl).1;refine hI.dullS ⟨rfl,rfl,rfl⟩ (by simp[World.putObj]) (fun b _=>?_) (fun b hb DM=>?_)
 ·by_cases e:b=l
  ·subst e;exact .inr ⟨o,o',hl,World.putObj_heap_same DJ,hd,ov⟩
  ·exact .inl (World.putObj_heap_other e)
 ·refine World.putObj_heap_other fun e=>?_;rcases hx with h | h
  ·omega
  ·exact DM (e.trans h)
theorem DV.allocS(hI:DV w g h h g w)(o:Obj)(hn:n0≤w.heap.size):DV (w.alloc o) g h h g (w.alloc o)∧dt n0 x w g h (w.alloc o) g h:=by
 refine hI.dullS ⟨rfl,rfl,rfl⟩ (by rw[World.size_alloc];omega) (fun b hb=>.inl (heap_alloc_old _ _ hb)) (fun b hb _=>heap_alloc_old _ _ ch)
end
abbrev IL(fn:FuncId)(tm:Array Value)(ps:Array Tmp)(Hh body:Code)(D:Nat)(s:LoopState):Loop :=
 { state:=s,pending:=none,fn:=fn,tmps:=tm,params:=ps,assign:=Hh,body:=body,defers:=D }
def nV:List Nat→List AV→(Nat→AV)→Nat→AV
 |p::ps,v::vs,e=>nV ps vs (HI e p v)
 |_,_,e=>e
section
variable {P:Program}{N:Nat}{w:World}{g:Gh}
theorem Zl{U:Nat→Prop}:∀{ps:List Nat} {args:List AV} {vals:List Value} {tm:Array Value} {env:Nat→AV},vals.length=args.length→args.length=ps.length→(∀p∈ps,p<tm.size) →
  (∀(i:Nat) (av:AV) (x:Value),args[i]?=some av→vals[i]?=some x→BP g w U av x)→(∀i,BP g w U (env i) (tm.getD i undef)) →
  ((ps.zip vals).foldl (fun t p=>t.setIfInBounds p.1 p.2) tm).size=tm.size∧∀i,BP g w U (nV ps args env i) (((ps.zip vals).foldl (fun t p=>t.setIfInBounds p.1 p.2) tm).getD i undef)
 | [],args,vals,tm,env,_,h2,_,_,he=>by
  have:args=[]:=AK h2
  subst this;exact⟨rfl,he⟩
 |p::ps,[],vals,tm,env,_,h2,_,_,_=>by cases h2
 |p::ps,a::args,[],tm,env,h1,_,_,_,_=>by cases h1
 |p::ps,a::args,v::vals,tm,env,h1,h2,h3,h4,he=>by
  have hp:=h3 p (Aa ..)
  obtain⟨q1,q2⟩:=Zl (ps:=ps) (args:=args) (vals:=vals) (tm:=tm.setIfInBounds p v) (env:=HI env p a) (by simpa using h1) (by simpa using h2) (fun q hq=>by simpa using h3 q (Ah _ hq))
   (fun i av x e1 e2=>h4 (i+1) av x (by simpa using e1) (by simpa using e2)) (fun i=>by
    by_cases e:i=p
    ·subst e;have e1:HI env i a i=a:=by simp[HI]
     have e2:(tm.setIfInBounds i v).getD i undef=v:=by simp[Array.getD_eq_getD_getElem?,hp]
     rw[e1,e2];exact h4 0 a v rfl rfl
    ·have e1:HI env p a i=env i:=by simp only[HI,CX e,EM]
     have e2:(tm.setIfInBounds p v).getD i undef=tm.getD i undef:=by
      simp[Array.getD_eq_getD_getElem?,Array.getElem?_setIfInBounds_ne (Ne.symm e)]
     rw[e1,e2];exact he i)
  exact⟨by simpa using q1,q2⟩
def YT(P:Program)(Y:Gh→World→Prop)(σ:JO)(f:Nat)(args:List AV)(h0:Nat→HO)(Q:AV→(Nat→HO)→Prop):Prop :=
 GD P f∧∀(g:Gh) (w:World) (vals:Array Value),vals.size=args.length→(∀(i:Nat) (av:AV) (x:Value),args[i]?=some av→vals[i]?=some x→BP g w (AT h0) av x) →
  DV w g h0 h0 g w→(∀h' g' w',DV w g h0 h' g' w'→Le h0 g w h' g' w'→Y (DK σ g') w') →
  Calls P f vals w fun e w'=>∃v r h' g',e=.returned v∧Q r h'∧BP g' w' (AT h') r v∧DV w g h0 h' g' w'∧Le h0 g w h' g' w'
theorem kV{Y:Gh→World→Prop}{l:Nat}{f:Nat}{fn:Func}{c:Code}{args:List AV}{H0:List (Nat×HO)}{Q:AV→(Nat→HO)→Prop}(cx:Cx)(σ:JO)(hP:cx.P=P)(hT:CL P cx.T)(hm:P.follows .mixedOrders=true)(hx:cx.ext=true)(hf:P.funcs[f]?=some fn)
  (hn : (fn.name == "runtime.NumGoroutine") = false) (hb : fn.body = some c) (hN : args.length ≤ fn.ntmps) (hc : ES fn.ntmps c = true) (hσ : (Hm σ && Ji σ H0) = true)
  (hy:cx.yp=fun l' σ' g w=>l'=l→σ'=σ→Y g w)
  (hk:Re cx c (Zi cx fn.results.toList σ Q) ⟨PN args,Ak H0 Af⟩):YT P Y σ f args (Ak H0 Af) Q :=
 ⟨⟨fn,hf,hn,by simp[hb]⟩,fun g w vals hs hv hI hp=>Zz cx σ hP hT hm hx hf hn hb hN hc hσ hk hs hv hI fun l' σ' h' g' w' _ q1 q2=>by
  rw[hy];intro _ e;subst e;exact hp h' g' w' q1 q2⟩
end
end Go.Eng
