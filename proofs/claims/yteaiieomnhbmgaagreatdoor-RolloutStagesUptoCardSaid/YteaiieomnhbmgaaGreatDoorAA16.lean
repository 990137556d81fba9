/- Lemmas 16. -/
import Derived.Test.YteaiieomnhbmgaaGreatDoorAA15
import Derived.Test.YteaiieomnhbmgaaGreatDoorProg
import Derived.Sort.Grow
import Derived.Shelf.GgSortFunc.InsertionK
import Derived.Below
import Derived.RangeFuncLeaves
import Derived.RangeFuncNested
namespace Go.Eng
open Go.Proofs
abbrev dTI:TI := eQ
abbrev tF:TI := ⟨.func,1,8,.nilFunc,true⟩
abbrev tI:TI := ⟨.int .i64,1,8,.int .i64 0,true⟩
abbrev tP(n:Nat):TI := ⟨.ptr n,1,8,.pointer none,true⟩
abbrev tS(n:Nat):TI := ⟨.slice n,1,24,.slice none 0 0,true⟩
def nB{α:Type}(d:α):List α -> Nat -> α
 | [],_ => d
 |a::r,n => match n with |0 => a |n + 1 => nB d r n
abbrev tiN:TI := eQ
def Ae6:List TI := [⟨.other,1,0,(.tuple #[]),true⟩,tF,tI,tI,⟨.bool,1,1,(.bool .false),true⟩,⟨.int .u8,1,1,(.int .u8 0),true⟩,⟨.int .u8,1,1,(.int .u8 0),true⟩,⟨.struct [(2,0),(3,1),(4,2),(6,3)],4,24,(.agg #[.int .i64 0,.int .i64 0,.bool .false,.int .u8 0]),true⟩,⟨.struct [(2,0),(3,1),(4,2),(6,3)],4,24,(.agg #[.int .i64 0,.int .i64 0,.bool .false,.int .u8 0]),true⟩,⟨.string,1,16,(.string ⟨#[]⟩),true⟩,⟨.string,1,16,(.string ⟨#[]⟩),true⟩,⟨.string,1,16,(.string ⟨#[]⟩),true⟩,⟨.int .u64,1,8,(.int .u64 0),true⟩,⟨.struct [(9,0),(12,1)],2,24,(.agg #[.string ⟨#[]⟩,.int .u64 0]),false⟩,⟨.struct [(9,0),(12,1)],2,24,(.agg #[.string ⟨#[]⟩,.int .u64 0]),false⟩,⟨.ptr 451,1,8,(.pointer .none),true⟩]
def Ae7:List TI := [⟨.ptr 454,1,8,(.pointer .none),true⟩,⟨.ptr 461,1,8,(.pointer .none),true⟩,⟨.struct [(17,0)],1,8,(.agg #[.pointer .none]),false⟩,⟨.struct [(17,0)],1,8,(.agg #[.pointer .none]),false⟩,⟨.iface,1,16,.nilIface,true⟩,⟨.int .i32,1,4,(.int .i32 0),true⟩,⟨.slice 74,1,24,(.slice .none 0 0),true⟩,tF,tI,⟨.other,1,0,(.tuple #[.int .i64 0,.int .i64 0]),true⟩,tF,tF,tF,tF,⟨.slice 78,1,24,(.slice .none 0 0),true⟩,⟨.slice 182,1,24,(.slice .none 0 0),true⟩]
def Ae8:List TI := [⟨.struct [(30,0),(31,1)],2,48,(.agg #[.slice .none 0 0,.slice .none 0 0]),true⟩,⟨.struct [(30,0),(31,1)],2,48,(.agg #[.slice .none 0 0,.slice .none 0 0]),true⟩,⟨.slice 48,1,24,(.slice .none 0 0),true⟩,⟨.slice 72,1,24,(.slice .none 0 0),true⟩,⟨.struct [(9,0),(35,1)],2,40,(.agg #[.string ⟨#[]⟩,.slice .none 0 0]),true⟩,⟨.struct [(9,0),(35,1)],2,40,(.agg #[.string ⟨#[]⟩,.slice .none 0 0]),true⟩,tF,tF,tF,⟨.other,1,0,(.tuple #[.slice .none 0 0,.int .i64 0]),true⟩,tF,tF,tiN,tiN,⟨.struct [(3,0),(3,1),(3,2)],3,24,(.agg #[.int .i64 0,.int .i64 0,.int .i64 0]),true⟩,tiN]
def Ae9:List TI := [⟨.struct [(9,0),(46,1)],4,40,(.agg #[.string ⟨#[]⟩,.int .i64 0,.int .i64 0,.int .i64 0]),true⟩,tiN,⟨.slice 92,1,24,(.slice .none 0 0),true⟩,⟨.slice 92,1,24,(.slice .none 0 0),true⟩,⟨.slice 9,1,24,(.slice .none 0 0),true⟩,tiN,⟨.struct [(9,0),(9,1),(51,2),(52,3),(9,4)],5,96,(.agg #[.string ⟨#[]⟩,.string ⟨#[]⟩,.slice .none 0 0,.slice .none 0 0,.string ⟨#[]⟩]),true⟩,⟨.slice 60,1,24,(.slice .none 0 0),true⟩,tiN,tiN,⟨.slice 54,1,24,(.slice .none 0 0),true⟩,tiN,⟨.slice 95,1,24,(.slice .none 0 0),true⟩,tF,⟨.slice 68,1,24,(.slice .none 0 0),true⟩,tiN]
def Aea:List TI := [tF,tF,tiN,tiN,⟨.struct [(3,0),(46,1),(4,4)],5,40,(.agg #[.int .i64 0,.int .i64 0,.int .i64 0,.int .i64 0,.bool .false]),true⟩,tiN,tiN,tiN,⟨.struct [(52,0),(22,1)],2,48,(.agg #[.slice .none 0 0,.slice .none 0 0]),true⟩,tiN,⟨.struct [(3,0),(3,1)],2,16,(.agg #[.int .i64 0,.int .i64 0]),true⟩,tiN,tiN,tiN,⟨.struct [(9,0),(46,1),(60,4),(9,5),(9,6),(9,7),(4,8)],9,120,(.agg #[.string ⟨#[]⟩,.int .i64 0,.int .i64 0,.int .i64 0,.slice .none 0 0,.string ⟨#[]⟩,.string ⟨#[]⟩,.string ⟨#[]⟩,.bool .false]),true⟩,tiN]
def Aeb:List TI := [tiN,tiN,tiN,tF,tiN,tiN,tiN,tiN,tiN,tiN,tiN,tiN,⟨.struct [(3,0),(3,1)],2,16,(.agg #[.int .i64 0,.int .i64 0]),true⟩,tiN,tiN,⟨.struct [(9,0),(51,1)],2,40,(.agg #[.string ⟨#[]⟩,.slice .none 0 0]),true⟩]
def Aec:List TI := [tiN,tiN,⟨.int .u64,1,8,(.int .u64 0),true⟩,⟨.int .u64,1,8,(.int .u64 0),true⟩,tiN,tiN,⟨.slice 52,1,24,(.slice .none 0 0),true⟩,tiN,tiN,tF,tiN,tiN,tiN,tiN,tiN,tiN]
def Aed:List TI := [tiN,tiN,tiN,⟨.slice 118,1,24,(.slice .none 0 0),true⟩,tiN,tiN,⟨.struct [(3,0),(78,1)],10,128,(.agg #[.int .i64 0,.string ⟨#[]⟩,.int .i64 0,.int .i64 0,.int .i64 0,.slice .none 0 0,.string ⟨#[]⟩,.string ⟨#[]⟩,.string ⟨#[]⟩,.bool .false]),true⟩,⟨.slice 46,1,24,(.slice .none 0 0),true⟩,tiN,tiN,tiN,tiN,tiN,tiN,tiN,⟨.map 9 78,1,8,(.map .none),true⟩]
def Aee:List TI := [tiN,tiN,⟨.ptr 136,1,8,(.pointer .none),true⟩,tiN,tiN,tiN,tiN,tiN,⟨.struct [(127,0),(127,1),(34,2),(34,3),(52,4)],5,88,(.agg #[.map .none,.map .none,.slice .none 0 0,.slice .none 0 0,.slice .none 0 0]),true⟩,tF,tiN,⟨.slice 337,1,24,(.slice .none 0 0),true⟩,⟨.slice 285,1,24,(.slice .none 0 0),true⟩,tiN,⟨.struct [(4,0),(34,1),(139,2),(140,3)],4,80,(.agg #[.bool .false,.slice .none 0 0,.slice .none 0 0,.slice .none 0 0]),true⟩,tiN]
def Aef:List TI := [tiN,tiN,tiN,tF,⟨.map 48 78,1,8,(.map .none),true⟩,⟨.map 9 30,1,8,(.map .none),true⟩,tiN,⟨.struct [(148,0),(149,1)],2,16,(.agg #[.map .none,.map .none]),true⟩,tiN,tiN,tiN,tiN,tF,tiN,⟨.ptr 232,1,8,(.pointer .none),true⟩,tiN]
def zB:List TI := [tiN,tiN,tiN,tiN,⟨.slice 5,1,24,(.slice .none 0 0),true⟩,tiN,tiN,tiN,tiN,tiN,tiN,tiN,tiN,tiN,tiN,tiN]
def zC:List TI := [tiN,⟨.slice 469,1,24,(.slice .none 0 0),true⟩,⟨.slice 471,1,24,(.slice .none 0 0),true⟩,⟨.slice 473,1,24,(.slice .none 0 0),true⟩,⟨.slice 475,1,24,(.slice .none 0 0),true⟩,tiN,⟨.struct [(9,0),(177,1),(178,2),(179,3),(180,4)],5,112,(.agg #[.string ⟨#[]⟩,.slice .none 0 0,.slice .none 0 0,.slice .none 0 0,.slice .none 0 0]),true⟩,tiN,tiN,tF,⟨.ptr 95,1,8,(.pointer .none),true⟩,tiN,tiN,tiN,tiN,tF]
def zD:List TI := [tiN,tiN,tiN,tiN,tiN,tiN,tiN,tiN,tiN,tF,⟨.slice 206,1,24,(.slice .none 0 0),true⟩,tiN,tiN,tiN,⟨.struct [(9,0),(3,1),(3,2)],3,32,(.agg #[.string ⟨#[]⟩,.int .i64 0,.int .i64 0]),true⟩,tiN]
def zE:List TI := [tiN,⟨.map 9 4,1,8,(.map .none),true⟩,tiN,tF,⟨.ptr 223,1,8,(.pointer .none),true⟩,tiN,⟨.other,1,0,(.tuple #[.int .i64 0,.bool .false]),true⟩,tiN,⟨.map 9 220,1,8,(.map .none),true⟩,⟨.map 9 51,1,8,(.map .none),true⟩,⟨.slice 283,1,24,(.slice .none 0 0),true⟩,⟨.map 337 3,1,8,(.map .none),true⟩,⟨.slice 266,1,24,(.slice .none 0 0),true⟩,⟨.slice 140,1,24,(.slice .none 0 0),true⟩,tiN,⟨.struct [(60,0),(216,1),(217,2),(139,3),(218,4),(219,5),(4,6),(220,7),(34,8),(221,9)],10,176,(.agg #[.slice .none 0 0,.map .none,.map .none,.slice .none 0 0,.slice .none 0 0,.map .none,.bool .false,.slice .none 0 0,.slice .none 0 0,.slice .none 0 0]),true⟩]
def zF:List TI := [tiN,tiN,tiN,tiN,tiN,⟨.int .u32,1,4,(.int .u32 0),true⟩,⟨.array 8 229,8,32,(.agg (Array.replicate 8 (.int .u32 0))),true⟩,tiN,⟨.struct [(230,0),(9,8),(98,9)],10,56,(.agg #[.int .u32 0,.int .u32 0,.int .u32 0,.int .u32 0,.int .u32 0,.int .u32 0,.int .u32 0,.int .u32 0,.string ⟨#[]⟩,.int .u64 0]),true⟩,⟨.array 8 5,8,8,(.agg (Array.replicate 8 (.int .u8 0))),true⟩,tiN,⟨.slice 229,1,24,(.slice .none 0 0),true⟩,tiN,tiN,tiN,tiN]
def zG:List TI := [tiN,tiN,tiN,tiN,tiN,tiN,tiN,tiN,tiN,tiN,tiN,⟨.array 3 3,3,24,(.agg #[.int .i64 0,.int .i64 0,.int .i64 0]),true⟩,tiN,tiN,tiN,tiN]
def zH:List TI := [⟨.other,1,0,(.tuple #[.slice .none 0 0,.int .i64 0]),true⟩,tiN,tiN,⟨.map 9 3,1,8,(.map .none),true⟩,tiN,tiN,tiN,tiN,tiN,tiN,⟨.struct [(3,0),(78,1)],10,128,(.agg #[.int .i64 0,.string ⟨#[]⟩,.int .i64 0,.int .i64 0,.int .i64 0,.slice .none 0 0,.string ⟨#[]⟩,.string ⟨#[]⟩,.string ⟨#[]⟩,.bool .false]),true⟩,tiN,⟨.slice 274,1,24,(.slice .none 0 0),true⟩,tiN,tiN,⟨.slice 3,1,24,(.slice .none 0 0),true⟩]
def zI:List TI := [tiN,tiN,⟨.struct [(95,0),(9,2),(3,3),(3,4)],5,72,(.agg #[.string ⟨#[]⟩,.slice .none 0 0,.string ⟨#[]⟩,.int .i64 0,.int .i64 0]),true⟩,tF,tiN,tiN,tiN,tiN,tiN,tiN,⟨.slice 343,1,24,(.slice .none 0 0),true⟩,⟨.slice 343,1,24,(.slice .none 0 0),true⟩,tiN,⟨.struct [(9,0),(3,1),(3,2)],3,32,(.agg #[.string ⟨#[]⟩,.int .i64 0,.int .i64 0]),true⟩,tiN,tiN]
def zJ:List TI := [tiN,tiN,tiN,tiN,⟨.array 64 229,64,256,(.agg (Array.replicate 64 (.int .u32 0))),true⟩,tiN,tiN,⟨.other,1,0,(.tuple #[.int .u64 0,.int .u64 0]),true⟩,tiN,⟨.ptr 299,1,8,(.pointer .none),true⟩,tiN,⟨.struct [(297,0),(164,1)],2,32,(.agg #[.pointer .none,.slice .none 0 0]),true⟩,tiN,tiN,⟨.iface,1,16,.nilIface,false⟩,⟨.other,1,0,(.tuple #[.int .i64 0,.nilIface]),true⟩]
def zK:List TI := [tiN,tiN,tiN,tiN,⟨.array 24 5,24,24,(.agg (Array.replicate 24 (.int .u8 0))),true⟩,tiN,tiN,⟨.other,1,0,(.tuple #[.slice .none 0 0,.string ⟨#[]⟩]),true⟩,tiN,tiN,tiN,tI,⟨.other,1,0,(.tuple #[.int .i64 0,.int .i64 0]),true⟩,tiN,tiN,tiN]
def zL:List TI := [tiN,tiN,tiN,tiN,tF,tiN,tiN,tiN,tiN,tiN,tiN,tiN,tiN,tF,tiN,tiN]
def zM:List TI := [tiN,⟨.struct [(3,0),(9,1),(3,2),(3,3),(3,4),(3,5)],6,56,(.agg #[.int .i64 0,.string ⟨#[]⟩,.int .i64 0,.int .i64 0,.int .i64 0,.int .i64 0]),true⟩,tiN,tiN,tiN,tiN,tiN,⟨.struct [(9,0),(4,1),(51,2)],3,48,(.agg #[.string ⟨#[]⟩,.bool .false,.slice .none 0 0]),true⟩,tF,tiN,tiN,tiN,⟨.ptr 5,1,8,(.pointer .none),true⟩,⟨.other,1,0,(.tuple #[.int .u32 0,.int .u32 0]),true⟩,tiN,⟨.other,1,0,(.tuple #[.int .u64 0,.int .u64 0]),true⟩]
def zN:List TI := [tiN,tiN,tiN,⟨.array 20 98,20,160,(.agg (Array.replicate 20 (.int .u64 0))),true⟩,⟨.array 65 5,65,65,(.agg ((List.replicate 32 (.int .u8 0)).append (List.replicate 33 (.int .u8 0))).toArray),true⟩,⟨.int .u64,1,8,(.int .u64 0),true⟩,tiN,tiN,tiN,⟨.ptr 3,1,8,(.pointer .none),true⟩,tiN,tiN,tiN,tiN,tF,tiN]
def zO:List TI := [tiN,tiN,⟨.other,1,0,(.tuple #[.string ⟨#[]⟩,.bool .false]),true⟩,tiN,tiN,tiN,tiN,tiN,tiN,tF,tiN,tiN,tiN,tiN,tiN,tiN]
def zP:List TI := [tiN,tF,⟨.other,1,8,(.pointer .none),true⟩,tiN,tiN,⟨.ptr 357,1,8,(.pointer .none),true⟩,⟨.other,1,0,(.tuple #[.int .i64 0,.int .i64 0]),true⟩,tiN,tiN,tiN,tiN,tiN,tiN,tiN,tiN,tiN]
def zQ:List TI := [tiN,tiN,tiN,tiN,tiN,tiN,tiN,tiN,tiN,⟨.map 9 343,1,8,(.map .none),true⟩,tiN,tiN,tF,tiN,⟨.array 32 5,32,32,(.agg (Array.replicate 32 (.int .u8 0))),true⟩,⟨.array 64 5,64,64,(.agg (Array.replicate 64 (.int .u8 0))),true⟩]
def zR:List TI := [tiN,tiN,tiN,tiN,⟨.slice 51,1,24,(.slice .none 0 0),true⟩,⟨.map 3 3,1,8,(.map .none),true⟩,tiN,tiN,tiN,⟨.other,1,0,(.tuple #[.int .i32 0,.int .i64 0]),true⟩,tiN,tiN,tiN,tiN,tiN,tiN]
def zS:List TI := [tiN,tiN,tiN,tiN,tiN,tiN,tiN,tiN,tiN,tiN,⟨.array 256 5,256,256,(.agg (((List.replicate 64 (.int .u8 0)).append (List.replicate 64 (.int .u8 0))).append ((List.replicate 64 (.int .u8 0)).append (List.replicate 64 (.int .u8 0)))).toArray),true⟩,tiN,⟨.struct [(5,0),(5,1)],2,2,(.agg #[.int .u8 0,.int .u8 0]),true⟩,⟨.array 16 444,32,32,(.agg (Array.replicate 32 (.int .u8 0))),true⟩,tiN,tiN]
def zU:List TI := [tiN,tiN,tiN,⟨.struct [(17,0),(17,1),(17,2),(9,3)],4,40,(.agg #[.pointer .none,.pointer .none,.pointer .none,.string ⟨#[]⟩]),false⟩,tiN,tiN,⟨.other,0,0,(.agg #[]),false⟩,⟨.int .u8,1,1,(.int .u8 0),true⟩,⟨.int .u8,1,1,(.int .u8 0),true⟩,tF,⟨.int .i32,1,4,(.int .i32 0),true⟩,⟨.int .i32,1,4,(.int .i32 0),true⟩,tiN,⟨.struct [(12,0),(12,1),(229,2),(455,3),(5,4),(5,5),(456,6),(457,7),(348,8),(458,9),(459,10)],11,48,(.agg #[.int .u64 0,.int .u64 0,.int .u32 0,.int .u8 0,.int .u8 0,.int .u8 0,.int .u8 0,.nilFunc,.pointer .none,.int .i32 0,.int .i32 0]),false⟩,tiN,⟨.slice 477,1,24,(.slice .none 0 0),true⟩]
def zV:List TI := [⟨.slice 467,1,24,(.slice .none 0 0),true⟩,⟨.slice 479,1,24,(.slice .none 0 0),true⟩,tiN,⟨.struct [(3,0),(9,1),(9,2),(464,3),(465,4)],5,88,(.agg #[.int .i64 0,.string ⟨#[]⟩,.string ⟨#[]⟩,.slice .none 0 0,.slice .none 0 0]),true⟩,tiN,⟨.struct [(9,0),(463,1),(467,2),(467,7)],12,216,(.agg #[.string ⟨#[]⟩,.slice .none 0 0,.int .i64 0,.string ⟨#[]⟩,.string ⟨#[]⟩,.slice .none 0 0,.slice .none 0 0,.int .i64 0,.string ⟨#[]⟩,.string ⟨#[]⟩,.slice .none 0 0,.slice .none 0 0]),true⟩,tiN,⟨.struct [(9,0),(463,1),(467,2)],7,128,(.agg #[.string ⟨#[]⟩,.slice .none 0 0,.int .i64 0,.string ⟨#[]⟩,.string ⟨#[]⟩,.slice .none 0 0,.slice .none 0 0]),true⟩,tiN,⟨.struct [(9,0),(9,1),(9,2)],3,48,(.agg #[.string ⟨#[]⟩,.string ⟨#[]⟩,.string ⟨#[]⟩]),true⟩,tiN,⟨.struct [(9,0),(9,1)],2,32,(.agg #[.string ⟨#[]⟩,.string ⟨#[]⟩]),true⟩,tiN,⟨.struct [(9,0),(3,1),(467,2)],7,112,(.agg #[.string ⟨#[]⟩,.int .i64 0,.int .i64 0,.string ⟨#[]⟩,.string ⟨#[]⟩,.slice .none 0 0,.slice .none 0 0]),true⟩,tiN,⟨.struct [(9,0),(467,1),(4,6)],7,112,(.agg #[.string ⟨#[]⟩,.int .i64 0,.string ⟨#[]⟩,.string ⟨#[]⟩,.slice .none 0 0,.slice .none 0 0,.bool .false]),true⟩]
def tbl:List (List TI) := [Ae6,Ae7,Ae8,Ae9,Aea,Aeb,Aec,Aed,Aee,Aef,zB,zC,zD,zE,zF,zG,zH,zI,zJ,zK,zL,zM,zN,zO,zP,zQ,zR,zS,zU,zV]
def rP:Ha := fun t => nB dTI (nB [] tbl (t / 16)) (t % 16)
def usedT:List Nat := [0,1,2,3,4,5,6,7,8,9,10,11,12,13,14,15,16,17,18,19,20,21,22,23,24,25,26,27,28,29,30,31,32,33,34,35,36,37,38,39,40,41,42,43,46,48,50,51,52,54,55,58,60,61,62,64,65,68,72,74,78,83,92,95,98,99,102,105,115,118,119,127,130,136,137,139,140,142,147,148,149,151,156,158,164,177,178,179,180,182,185,186,191,201,202,206,209,211,212,214,216,217,218,219,220,221,223,229,230,232,233,235,251,256,259,266,268,271,274,275,282,283,285,292,295,297,299,302,303,308,311,315,316,324,333,337,343,344,348,349,351,355,356,357,361,366,370,377,385,386,389,390,409,412,414,415,420,421,425,442,444,445,451,454,455,456,457,458,459,461,463,464,465,467,469,471,473,475,477,479]
def restT:List Nat := (List.range 480).filter fun t => !usedT.contains t
theorem oH:usedT.map rP = usedT.map (kw Tryz.prog) := by kernel_rfl
theorem tab_rest:restT.map rP = restT.map fun _ => dTI := by kernel_rfl
theorem gt{α:Type}(d:α):∀(l:List α) (n:Nat),l.length <= n -> nB d l n = d
 | [],_,_ => rfl
 |_::_,0,h => by simp at h
 |_::r,n + 1,h => gt d r n (by simpa using h)
theorem Da:CI Tryz.prog rP := by
 intro t
 by_cases h:t<480
 .by_cases u:t∈usedT
  .exact .inr (List.map_inj_left.1 oH t u)
  .exact .inl (List.map_inj_left.1 tab_rest t (Bz.2 ⟨Gy.2 h,by simpa using u⟩))
 .have h1:nB ([]:List TI) tbl (t / 16) = [] := gt _ _ _ (by show 30 <= t / 16;omega)
  have h2:rP t = dTI := by unfold rP;rw[h1];rfl
  exact .inl h2
end Go.Eng
namespace Go.Eng
variable {args:List AV}{f:Nat}(vals:List Value)
section
variable {P:Program}
theorem iN {fn : Func}{c : Code}(hf : P.funcs[f]? = some fn)(hn : (fn.name == "runtime.NumGoroutine") = false)(hb : fn.body = some c) : F6 P f := ⟨fn, hf, hn, by simp [hb]⟩
theorem Kt{res:AV}(v:Value)(hE:F6 P f)(ha:args=vals.map .v)(mL:∀g w,BS g w FK res v)(h:∀w,(∃m,w.cell? ⟨gB,0,none⟩=some (.int .i64 m))->Calls P f vals.toArray w fun e w'=>e=.returned v/\w'=w):Jd P f args res:=by
 refine⟨hE,fun g w us hs hv hI=>?_⟩;have hu:us=vals.toArray:=by
  subst ha;rw[A8]at hs;refine Py (by simpa using hs) fun i h1 h2=>?_
  have:=hv i (.v (vals[i]'(by simpa using h2))) us[i] (by rw[AG,Az (by simpa using h2)];rfl) (by rw[A6 h1])
  rw[this.v_eq];simp
 subst hu;refine(h w hI.glob.1.2).mono ?_
 rintro e w' ⟨rfl,rfl⟩
 exact⟨v,res,Ae,g,rfl,⟨rfl,rfl⟩,(mL g _).up _,hI,.refl _ _ _⟩
theorem oc{g:Gh}{w:World}:∀(vs:List Value),BS g w FK (.tup (vs.map .v)) (.tuple vs.toArray):=fun vs=>
 .tup _ _ _ B0 fun i av x h1 h2=>by
  rw[AG,AS]at h1;obtain⟨a,e1,rfl⟩:=h1
  have:vs[i]?=some x:=by simpa using h2
  rw[e1]at this;cases this;exact .v _ _
theorem jU(es:List Value)(T:TypeId)(hE:F6 P f)(ha:args=vals.map .v)(h1:∀x∈es,x.oneCell'=true)(h:∀w,(∃m,w.cell? ⟨gB,0,none⟩=some (.int .i64 m))->Calls P f vals.toArray w fun e w'=>e=.returned (.slice (some ⟨w.heap.size,0,none⟩) es.length es.length)/\w'=w.alloc (.cells es.toArray T)) :
  Jd P f args (.slice .none (es.map fun x=>[.v x])):=by
 refine⟨hE,fun g w us hs hv hI=>?_⟩;have hu:us=vals.toArray:=by
  subst ha;rw[A8]at hs;refine Py (by simpa using hs) fun i h1 h2=>?_
  have:=hv i (.v (vals[i]'(by simpa using h2))) us[i] (by rw[AG,Az (by simpa using h2)];rfl) (by rw[A6 h1])
  rw[this.v_eq];simp
 subst hu;refine(h w hI.glob.1.2).mono ?_
 rintro e w' ⟨rfl,rfl⟩
 have EY:(w.alloc (.cells es.toArray T)).heap[w.heap.size]?=some (.cells es.toArray T (0,0)):=G2 w _ rfl;have RE:∀b,b<w.heap.size->(w.alloc (.cells es.toArray T)).heap[b]?=w.heap[b]?:=fun b hb=>heap_alloc_old _ _ hb;have hK:ET g w ⟨g.ρ,g.ln,g.tk,g.own,g.more w.heap.size es.length⟩ (w.alloc (.cells es.toArray T)):=fun b o hb=>by
  have Du:=hI.slt b o hb;exact⟨.inl hb,by simp only[World.cell?,RE b Du],fun es ck he=>(RE b Du).trans he⟩
 refine⟨_,_,Ae,⟨g.ρ,g.ln,g.tk,g.own,g.more w.heap.size es.length⟩,rfl,⟨rfl,rfl⟩,?_,⟨rfl,rfl,rfl,?_,fun b hb _=>RE b hb,fun b o hs=>?_,fun _=>trivial,fun _ _ _ h=>h.elim,fun _ _ h=>h.elim,fun b o hs=>?_,hI.glob.keep hK⟩,⟨.refl _ _,fun _ h=>h,hK⟩⟩
 .have hr:CY ⟨g.ρ,g.ln,g.tk,g.own,g.more w.heap.size es.length⟩ (w.alloc (.cells es.toArray T)) FK (es.map fun x=>[AV.v x]).flatten (es.toArray.toList.take ((es.map fun x=>[AV.v x]).length*1)):=by
   have hfl:∀l:List Value,(l.map fun x=>[AV.v x]).flatten=l.map .v:=fun l=>by
    induction l with
    |nil=>rfl
    |cons a l ih=>rw[AK,BD,ih];rfl
   rw[hfl];simp only[A8,Nat.mul_one,B7];refine⟨by simp,fun x hx=>h1 x (by simpa using hx),fun i av x q1 q2=>?_⟩;rw[AG,AS]at q1;obtain⟨a,e1,rfl⟩:=q1;rw[e1]at q2;cases q2;exact .v _ _
  have:=BS.slice_row (U:=AQ Ae) (cap:=es.length) (sz:=1) (es:=es.map fun x=>[AV.v x]) EY (fun cs hcs=>by
   obtain⟨x,_,rfl⟩:=Ai.1 hcs;rfl) B0 hr (fun o ho=>.inr ⟨rfl,by simpa using ho⟩)
  simpa using this
 .rw[World.size_alloc];omega
 .rw[World.size_alloc];rcases hs with hs | ⟨rfl,_⟩
  .have:=hI.slt b o hs;omega
  .omega
 .rcases hs with hs | ⟨rfl,_⟩
  .exact .inl hs
  .exact .inr (.inl (Ak _))
end
end Go.Eng
namespace Go.Eng
open Go.Sort
section
variable {P:Program}
theorem OF(F c:Array Value)(h:F.size<=c.size):(putCells id 0 F c).toList.take F.size=F.toList/\(putCells id 0 F c).size=c.size:=by
 have hs:(putCells id 0 F c).size=c.size:=by simp[putCells]
 refine⟨?_,hs⟩;apply Dx;intro i;rw[KH,A4,A4]
 by_cases hi:i<F.size
 .rw[Al hi];have hi2:i<c.size:=by omega
  simp only[putCells,Array.getElem?_mapIdx,A6 hi2,A6 hi,Ip,Ax,true_and,Bg,hi,SP,Nat.sub_zero,id_eq];rw[D2 F i hi]
 .rw[Aj hi,Wn ch]
theorem U2(r:Nat)(o o' : HO):A1 (Ap [(r,o)] Ae) r o'=Ap [(r,o')] Ae:=by
 funext i
 by_cases e:i=r
 .subst e;rw[Bl];simp[Ap]
 .rw[Ca _ _ _ _ e];simp[Ap,Df e]
theorem Rn{f:Nat}{es:List (List AV)}{sz:Nat}{rest:List Value}{Q:List (List AV)->Prop}(hE:F6 P f)
  (h0:es=[]->Q []/\∀w,Calls P f (#[.slice none 0 0]++rest.toArray) w fun e w'=>e=.returned (.tuple #[])/\w'=w)
  (h1:∀(g:Gh) (w:World) (b cap:Nat) (F:Array Value),CY g w FK es.flatten F.toList->F.size=es.length*sz->Holds id w b 0 F->b<w.heap.size->Calls P f (#[.slice (some ⟨b,0,none⟩) es.length cap]++rest.toArray) w fun e w'=>
   e=.returned (.tuple #[])/\∃(F' : Array Value) (F5 : List (List AV)) (n:Nat) (os:Array Obj),F'.size=F.size/\Q F5/\F5.length=es.length/\(∀cs∈F5,cs.length=sz) /\
    (∀(g:Gh) (w:World),CY g w FK es.flatten F.toList->CY g w FK F5.flatten F'.toList)/\w'=grow (putRow id (Sort.ahead w n) b 0 F') os) :
  Ba P f (.msl 1000 es.length::rest.map .v) (Ap [(1000,.arr sz es)] Ae) fun r h'=>r=.tup []/\∃F5,Q F5/\h'=Ap [(1000,.arr sz F5)] Ae:=by
 refine⟨hE,fun g w us hs hv hI=>?_⟩;have ho:=hI.objs 1000;have he:Ap [(1000,HO.arr sz es)] Ae 1000=.arr sz es:=rfl;rw[he]at ho;obtain⟨t1,l1,al,a2⟩:=ho;simp only[Ag,A8]at hs
 -- the arguments
 have hu0:0<us.size:=by omega
 have wZ:=hv 0 (.msl 1000 es.length) us[0] rfl (A6 hu0);have hval:us[0]=g.ρ 1000:=by
  generalize us[0]=x at wZ;cases wZ with
  |msl _ r n a cap hu ht hn ha hx=>exact hx l1.symm
 have Lu:us=#[g.ρ 1000]++rest.toArray:=by
  refine Py (by simp;omega) fun i h1 h2=>?_;cases i with
  |zero=>rw[hval];simp
  |succ i=>
   have hi:i<rest.length:=by omega
   have:=hv (i+1) (.v rest[i]) us[i+1] (by simp[List.getElem?_eq_getElem hi]) (A6 h1)
   rw[this.v_eq];simp
 rw[Lu];rcases a2 with ⟨b1,b2,b3⟩ | ⟨b,cap,E,vs,b1,b2,b3,b4,b5,b6,b7⟩
 .subst b1;obtain⟨q,h0⟩:=h0 rfl;rw[b2];refine(h0 w).mono ?_
  rintro e w' ⟨rfl,rfl⟩
  exact⟨_,.tup [],_,g,rfl,⟨rfl,[],q,rfl⟩,.tup _ _ _ rfl (fun i av x h=>by simp at h),hI,.refl _ _ _⟩
 .have hl:(Ap [(1000,HO.arr sz es)] Ae 1000).live:=trivial;have Du:=(hI.loc 1000 b hl b2).1;have Ij:es.length*sz<=vs.size:=by rw[b5];exact A9 _ b3
  have hF:((vs.toList.take (es.length*sz)).toArray).size=es.length*sz:=by simp;omega
  have hH:Holds id w b 0 (vs.toList.take (es.length*sz)).toArray:=fun j hj=>by
   have hj:j<es.length*sz:=by rw[hF]at hj;exact hj
   refine⟨?_,?_⟩
   .have yz:j<vs.size:=by omega
    simp only[World.cell?,b4,Bg,PF,Dp,GB];rw[A6 yz,D2 _ j (by rw[hF];exact hj)];simp
   .simp[World.frozen?,b4]
  rw[b1];refine(h1 g w b cap _ (by simpa using b6) hF hH Du).mono ?_
  rintro e w' ⟨rfl,F',F5,n,os,f1,f2,f3,f4,f5,rfl⟩
  have wP : F'.size=es.length*sz:=f1.trans hF;have yT:=OF F' vs ch;have sE : (grow (putRow id (Sort.ahead w n) b 0 F') os).heap[b]?=some (.cells (putCells id 0 F' vs) E (0,0)):=by
   rw[heap_grow_old _ _ (by rw[size_putRow];exact Du)];show(w.heap.modify b (onCells (putCells id 0 F')))[b]?=_;rw[Array.getElem?_modify,Al rfl,b4];rfl
  have yK:∀k,k<w.heap.size->k≠b->(grow (putRow id (Sort.ahead w n) b 0 F') os).heap[k]?=w.heap[k]?:=fun k hk DH=>by
   rw[heap_grow_old _ _ (by rw[size_putRow];exact hk)];simp[putRow,mapBlock,Array.getElem?_modify,Ne.symm DH]
  have EZ:w.heap.size<=(grow (putRow id (Sort.ahead w n) b 0 F') os).heap.size:=by rw[size_grow,size_putRow];show w.heap.size<=w.heap.size+_;omega
  obtain⟨k1,k2⟩:=hI.upd 1000 (.arr sz F5) (g.ρ 1000) (g.ln 1000) (g.tk 1000) (g.own 1000) g.S (grow (putRow id (Sort.ahead w n) b 0 F') os) (some b) ⟨rfl,rfl,rfl,EZ⟩
   (fun k hk DH=>yK k hk (fun e=>DH (by rw[e]))) (fun b' e=>by cases e;exact⟨hl,b2⟩) (fun _ _ h=>h) (fun _ _ h=>.inl h) (fun b' o e hs=>by cases e;exact absurd hs (b7 o))
   (fun b' _ e=>by rw[b2]at e;cases e;exact⟨BC Du EZ,.inl ⟨hl,b2⟩⟩) B0 (fun _=>⟨rfl,Ak _,fun _=>rfl,fun _=>rfl⟩) (fun hg hk=>by
    refine⟨by simp[Gh.upd,t1],by simp[Gh.upd,l1,f3],f4,.inr ⟨b,cap,E,_,by simp[Gh.upd,b1,f3],by simp[Gh.upd,b2],by omega,sE,by rw[yT.2,b5],?_,b7⟩⟩
    have:=f5 g w (by simpa using b6)
    rw[f3,<-wP,yT.1];exact this.mono hk (fun _ h=>h) (fun _ h=>h.elim))
  rw[U2]at k1 k2;exact⟨_,.tup [],_,_,rfl,⟨rfl,F5,f2,rfl⟩,.tup _ _ _ rfl (fun i av x h=>by simp at h),k1,k2⟩
end
end Go.Eng
namespace Go.Eng
open Go.Sort Go.Proofs
variable {α β:Type}{k:Nat}
theorem Tf{g:Gh}{w:World}{U:Nat->Prop}{cs db : List AV}{vs kR : List Value}(h:vs.length=cs.length):CY g w U (cs++db) (vs++kR)↔CY g w U cs vs/\CY g w U db kR:=by
 constructor
 .intro⟨h1,h2,h3⟩;refine⟨⟨h,fun x hx=>h2 x (BE _ hx),fun i av x q1 q2=>?_⟩,⟨by simp at h1;omega,fun x hx=>h2 x (Bx _ hx),fun i av x q1 q2=>?_⟩⟩
  .have a1:=(Av.1 q1).1;have a2:=(Av.1 q2).1;exact h3 i av x (by rw[AZ a1];exact q1) (by rw[AZ a2];exact q2)
  .exact h3 (cs.length+i) av x (by rw[A0 ch,HA];exact q1) (by rw[A0 ch,h,HA];exact q2)
 .intro⟨⟨h1,h2,h3⟩,k1,k2,k3⟩;refine⟨by simp[h1,k1],fun x hx=>(AO.1 hx).elim (h2 x) (k2 x),fun i av x q1 q2=>?_⟩
  by_cases hi:i<cs.length
  .rw[AZ hi]at q1;rw[AZ ch]at q2;exact h3 i av x q1 q2
  .rw[A0 ch]at q1;rw[A0 ch]at q2;rw[h]at q2;exact k3 _ av x q1 q2
theorem RY{α β:Type}{g:Gh}{w:World}{U:Nat->Prop}{Jz:β->List AV}{enc:α->List Value}(hl:∀x y,(enc x).length=(Jz y).length):∀ps:List (β×α),
  CY g w U (ps.map fun p=>Jz p.1).flatten (ps.map fun p=>enc p.2).flatten↔∀p∈ps,CY g w U (Jz p.1) (enc p.2)
 | []=>by simp[CY]
 |p::ps=>by
  simp only[AK,BD];rw[Tf (hl _ _),RY hl ps];simp
theorem K5{f:α->β}:∀{m m' : List β},m.Perm m'->∀ps:List α,ps.map f=m->∃n6 : List α,n6.Perm ps/\n6.map f=m':=by
 intro m m' h
 induction h with
 |nil=>intro ps e;exact⟨ps,.refl _,e⟩
 |cons x h ih=>
  intro ps e;cases ps with
  |nil=>cases e
  |cons p ps=>
   rw[AK]at e
   injection e with e1 e2
   obtain⟨n6,h1,h2⟩:=ih ps e2;exact⟨p::n6,h1.cons p,by rw[AK,e1,h2]⟩
 |swap x y l=>
  intro ps e
  match ps,e with
  |p::q::ps,e=>
   simp only[AK,Fo]at e;exact⟨q::p::ps,List.Perm.swap _ _ _,by simp[e.1,e.2.1,e.2.2]⟩
 |trans h1 h2 ih1 ih2=>
  intro ps e;obtain⟨ps1,p1,p2⟩:=ih1 ps e;obtain⟨ps2,q1,q2⟩:=ih2 ps1 p2;exact⟨ps2,q1.trans p1,q2⟩
theorem UN[Inhabited α]{enc:α->List Value}(hk:∀x,(enc x).length=k)(d:Array α):(flatK enc k d).toList=(d.toList.map enc).flatten:=by
 have hl:∀cs∈d.toList.map enc,cs.length=k:=fun cs hcs=>by
  obtain⟨x,_,rfl⟩:=Ai.1 hcs;exact hk x
 have CQ:(d.toList.map enc).flatten.length=d.size*k:=by
  have:∀l:List α,(l.map enc).flatten.length=l.length*k:=fun l=>by
   induction l with
   |nil=>simp
   |cons a l ih=>simp[hk,Nat.succ_mul,ih];omega
  rw[this];simp
 apply Dx;intro t
 by_cases ht:t<d.size*k
 .have k0:0<k:=Nat.pos_of_ne_zero fun h=>by subst h;simp at ht
  have h1:t / k<d.size:=by rw[ME k0];exact ht
  have h2:t % k<k:=Nat.mod_lt _ k0;have e:t=t / k*k+t % k:=by rw[Nat.mul_comm];exact(WT t k).symm
  rw[A4,A6 (by simpa using ht),<-D2 _ t (by simpa using ht),get_flatK _ _ _ _ ht];have hg:(d.toList.map enc)[t / k]?=some (enc d[t / k]!):=by
   rw[AG,A4,A6 h1,D2 d _ h1];rfl
  have:=FL hl hg h2
  rw[e,this,<-e];rw[Az (by rw[hk];exact h2),D2 _ _ (by rw[hk];exact h2)]
 .rw[A7 (by simp;omega),A7 ch]
theorem hJ{α β:Type}:∀{l:List α} {m:List β},l.length=m.length->(l.zip m).map (·.1)=l/\(l.zip m).map (·.2)=m
 | [],[],_=>⟨rfl,rfl⟩
 |a::l,b::m,h=>by
  have:=hJ (l:=l) (m:=m) (by simpa using h)
  simp[this.1,this.2]
section
variable {P:Program}
theorem Ke[Inhabited α]{f:Nat}{rest:List Value}(hE:F6 P f)(Jz:β->List AV)(enc:α->List Value)(hB:∀x,(Jz x).length=k)(hk:∀x,(enc x).length=k)(lt:α->α->Bool)(R:β->α->Prop)(l:List β)(hl:l.length<4611686018427387904)(hR:∀x∈l,∀(g:Gh) (w:World) (vs:List Value),CY g w FK (Jz x) vs->∃a,enc a=vs/\R x a)(Cg:∀(w:World) (b cap:Nat) (d:Array α),HoldsK enc k w b 0 d->b<w.heap.size->d.size<4611686018427387904->d.size=l.length->Calls P f (#[.slice (some ⟨b,0,none⟩) d.size cap]++rest.toArray) w fun e w'=>
   e=.returned (.tuple #[])/\∃d' n os,PermIn 0 d.size d d'/\SortedIn lt 0 d.size d'/\w'=sortWorldK enc k w b 0 n d' os)(yJ:l=[]->∀w:World,Calls P f (#[.slice none 0 0]++rest.toArray) w fun e w'=>e=.returned (.tuple #[])/\w'=w) :
  Ba P f (.msl 1000 l.length::rest.map .v) (Ap [(1000,.arr k (l.map Jz))] Ae) fun r h'=>
   r=.tup []/\∃l' : List β,l'.Perm l/\(∃al:List α,al.length=l'.length/\(∀(i:Nat) (x:β) (a:α),l'[i]?=some x->al[i]?=some a->R x a)/\al.Pairwise (fun x y=>lt y x=false))/\h'=Ap [(1000,.arr k (l'.map Jz))] Ae:=by
 have Ia:=Rn (P:=P) (f:=f) (es:=l.map Jz) (sz:=k) (rest:=rest)
  (Q:=fun F5=>∃l' : List β,l'.Perm l/\(∃al:List α,al.length=l'.length/\(∀(i:Nat) (x:β) (a:α),l'[i]?=some x->al[i]?=some a->R x a)/\al.Pairwise (fun x y=>lt y x=false))/\F5=l'.map Jz) hE ?_ ?_
 .rw[A8]at Ia;refine⟨hE,fun g w vals q1 q2 q3=>(Ia.2 g w vals q1 q2 q3).mono fun _ _ ⟨v,r,h',g',e1,⟨e2,F5,⟨l',p1,p2,p3⟩,p4⟩,rest⟩=>⟨v,r,h',g',e1,⟨e2,l',p1,p2,by rw[p4,p3]⟩,rest⟩⟩
 .intro e
  have:l=[]:=by simpa using e
  subst this;exact⟨⟨[],.refl _,⟨[],rfl,fun i x a h=>by simp at h,.nil⟩,rfl⟩,yJ rfl⟩
 .intro g w b cap F hr hF hH hb
  -- the elements in memory
  have uP:∀(m:List β) (vs:List Value),(∀x∈m,x∈l)->CY g w FK (m.map Jz).flatten vs->∃al:List α,al.length=m.length/\vs=(al.map enc).flatten/\∀(i:Nat) (x:β) (a:α),m[i]?=some x->al[i]?=some a->R x a:=by
   intro m
   induction m with
   |nil=>
    intro vs _ h
    have:vs=[]:=AP (by simpa using h.1)
    subst this;exact⟨[],rfl,rfl,fun i x a h=>by simp at h⟩
   |cons x m ih=>
    intro vs hm h;rw[AK,BD]at h;have CQ:=h.1;rw[Ac,hB]at CQ;have e:vs=vs.take k++vs.drop k:=(GF k vs).symm;rw[e]at h;rw[Tf (by rw[Au,hB];omega)]at h;obtain⟨a,a1,a2⟩:=hR x (hm x (Ab ..)) g w _ h.1;obtain⟨al,b1,b2,b3⟩:=ih _ (fun y hy=>hm y (Ah _ hy)) h.2;refine⟨a::al,by simp[b1],by rw[AK,BD,a1,<-b2,<-e],fun i y c q1 q2=>?_⟩;cases i with
    |zero=>simp only[Bf,BB]at q1 q2;subst q1;subst q2;exact a2
    |succ i=>exact b3 i y c (by simpa using q1) (by simpa using q2)
  obtain⟨al,s1,s2,s3⟩:=uP l F.toList (fun _ h=>h) hr;have hFd:F=flatK enc k al.toArray:=Jv.1 (by rw[UN hk,s2]);have hd:HoldsK enc k w b 0 al.toArray:=by unfold HoldsK;rw[<-hFd];exact hH
  have hc:=Cg w b cap al.toArray hd hb (by simpa[s1]using hl) (by simp[s1]);have EZ:al.toArray.size=(l.map Jz).length:=by simp[s1]
  rw[EZ]at hc;refine hc.mono ?_
  rintro e w' ⟨rfl,d',n,os,p1,p2,rfl⟩
  obtain⟨z1,z2⟩:=hJ s1.symm;obtain⟨mN,_,JJ⟩:=p1;have mN : d'.size=al.length:=by rw[mN];simp
  have e1:d'.extract 0 (l.map Jz).length=d':=by rw[show(l.map Jz).length=d'.size by rw[mN];simp[s1]];exact Array.extract_size
  have e2:al.toArray.extract 0 (l.map Jz).length=al.toArray:=by rw[<-EZ];exact Array.extract_size
  rw[e1,e2]at JJ;have JJ:al.Perm d'.toList:=by
   first
   |exact JJ.symm
   |exact JJ
   |(have:=JJ.symm;simpa using this)
  obtain⟨n6,r1,r2⟩:=K5 JJ (l.zip al) z2;have rel:∀p∈l.zip al,R p.1 p.2:=fun p hp=>by
   obtain⟨i,hi⟩:=Cp.1 hp;rw[List.getElem?_zip_eq_some]at hi;exact s3 i _ _ hi.1 hi.2
  refine⟨rfl,flatK enc k d',(n6.map (·.1)).map Jz,n,os,by rw[size_flatK,mN,hF];simp[s1],⟨n6.map (·.1),?_,⟨d'.toList,by rw[<-r2];simp,fun i x a q1 q2=>?_,?_⟩,rfl⟩,by have:=r1.length_eq;simp[this,s1],fun cs hcs=>?_,fun g w hr=>?_,?_⟩
  .have:=r1.map (·.1);rw[z1]at this;exact this
  .rw[<-r2]at q2;rw[AG,AS]at q1 q2;obtain⟨p,q1,rfl⟩:=q1;obtain⟨p',q2,rfl⟩:=q2;rw[q1]at q2;cases q2;exact rel p (r1.mem_iff.1 (Aw q1))
  .rw[AY];intro i j hi hj Qs;have MZ : i<d'.size:=by simpa using hi
   have uE : j<d'.size:=by simpa using hj
   have:=p2 i j (Ax _) Qs (by rw[mN]at uE;simp[s1]at uE⊢;omega)
   rw[D2 d' j uE,D2 d' i MZ]at this;simpa using this
  .obtain⟨x,_,rfl⟩:=Ai.1 hcs;exact hB x
  .have h1:CY g w FK ((l.zip al).map fun p=>Jz p.1).flatten ((l.zip al).map fun p=>enc p.2).flatten:=by
    have a1:(l.zip al).map (fun p=>Jz p.1)=l.map Jz:=by
     have:(l.zip al).map (fun p=>Jz p.1)=((l.zip al).map (·.1)).map Jz:=by rw[Bs];rfl
     rw[this,z1]
    have a2:(l.zip al).map (fun p=>enc p.2)=al.map enc:=by
     have:(l.zip al).map (fun p=>enc p.2)=((l.zip al).map (·.2)).map enc:=by rw[Bs];rfl
     rw[this,z2]
    rw[a1,a2,<-s2];exact hr
   have CQ:∀(x:α) (y:β),(enc x).length=(Jz y).length:=fun x y=>by rw[hk,hB]
   rw[RY CQ]at h1;have h2:=(RY (g:=g) (w:=w) (U:=FK) CQ n6).2 fun p hp=>h1 p (r1.mem_iff.1 hp);have b1:(n6.map (·.1)).map Jz=n6.map fun p=>Jz p.1:=by rw[Bs];rfl
   have b2:(flatK enc k d').toList=(n6.map fun p=>enc p.2).flatten:=by
    rw[UN hk,<-r2,Bs];rfl
   rw[b1,b2];exact h2
  .rfl
end
end Go.Eng
namespace Go.Eng
section
variable {P:Program}
theorem Cu{f:Nat}{fn:Func}{c:Code}{args:List AV}{H0:List (Nat×HO)}{Q:AV->(Nat->HO)->Prop}(cx:Cx)(σ:JR)(hP:cx.P=P)(hT:CI P cx.T)(hm:P.follows .mixedOrders=true)(hx:cx.ext=true)(hf:P.funcs[f]?=some fn)
  (hn : (fn.name == "runtime.NumGoroutine") = false) (hb : fn.body = some c) (hN : args.length <= fn.ntmps) (hc : EX fn.ntmps c = true) (hσ : (Ht σ && Jj σ H0) = true)
  (hk:To cx c (ar cx fn.results.toList σ fun r h'=>∃r',CV r r'/\Q r' h') ⟨Qb args,Ap H0 Ae⟩) (hY:∀l σ g w,cx.yp l σ g w:=by exact fun _ _ _ _=>trivial):Ba P f args (Ap H0 Ae) Q:=
 (mf cx σ hP hT hm hx hf hn hb hN hc hσ hk hY).mono fun _ _ ⟨r',s,q⟩=>⟨r',s,q⟩
end
end Go.Eng
namespace Go.Eng
open Go.Sort
theorem CY.append{g:Gh}{w:World}{U:Nat->Prop}{Wu bs:List AV}{xs ys:List Value}(h:CY g w U Wu xs)(k:CY g w U bs ys):CY g w U (Wu++bs) (xs++ys):=by
 refine⟨by rw[Ac,Ac,h.1,k.1],fun x hx=>?_,fun i av x q1 q2=>?_⟩
 .rcases AO.1 hx with hx | hx
  .exact h.2.1 x hx
  .exact k.2.1 x hx
 .have hl:=h.1
  by_cases hi:i<Wu.length
  .rw[AZ hi]at q1;rw[AZ ch]at q2;exact h.2.2 i av x q1 q2
  .rw[A0 ch]at q1;rw[A0 ch,hl]at q2;exact k.2.2 _ av x q1 q2
theorem CY.take{g:Gh}{w:World}{U:Nat->Prop}{Wu:List AV}{xs:List Value}(h:CY g w U Wu xs)(k:Nat):CY g w U (Wu.take k) (xs.take k):=by
 refine⟨by rw[Au,Au,h.1],fun x hx=>h.2.1 x (CU hx),fun i av x q1 q2=>?_⟩;rw[KH]at q1 q2;split at q1
 .rename_i hi;rw[Al hi]at q2;exact h.2.2 i av x q1 q2
 .cases q1
theorem CY.drop{g:Gh}{w:World}{U:Nat->Prop}{Wu:List AV}{xs:List Value}(h:CY g w U Wu xs)(k:Nat):CY g w U (Wu.drop k) (xs.drop k):=by
 refine⟨by rw[CK,CK,h.1],fun x hx=>h.2.1 x (Jc hx),fun i av x q1 q2=>?_⟩;rw[D0]at q1 q2;exact h.2.2 _ av x q1 q2
theorem Mj{α:Type}{k:Nat}:∀(es:List (List α)) (i:Nat),(∀e∈es,e.length=k)->es.flatten.take (i*k)=(es.take i).flatten
 | [],i,_=>by simp
 |e::es,0,_=>by simp
 |e::es,i+1,h=>by
  have he:=h e (Ab ..);rw[BD,JQ,BD,List.take_append,<-Mj es i fun x hx=>h x (Ah _ hx),At (by rw[he,Eg];omega),he,show(i+1)*k-k=i*k by rw[Eg];omega]
theorem Qk{α:Type}{k:Nat}:∀(es:List (List α)) (i:Nat),(∀e∈es,e.length=k)->es.flatten.drop (i*k)=(es.drop i).flatten
 | [],i,_=>by simp
 |e::es,0,_=>by simp
 |e::es,i+1,h=>by
  have he:=h e (Ab ..);rw[BD,List.drop_succ_cons,List.drop_append,<-Qk es i fun x hx=>h x (Ah _ hx),Ce (by rw[he,Eg];omega),he,show(i+1)*k-k=i*k by rw[Eg];omega,F1]
section
variable {P:Program}
theorem WW{f:Nat}{es:List (List AV)}{sz:Nat}{rest:List Value}{n' : Nat}{Q:List (List AV)->Prop}(hE:F6 P f)(DH:es≠[])(aV : n'<=es.length)
  (h1:∀(g:Gh) (w:World) (b cap:Nat) (F:Array Value),CY g w FK es.flatten F.toList->F.size=es.length*sz->Holds id w b 0 F->b<w.heap.size->es.length<=cap->Calls P f (#[.slice (some ⟨b,0,none⟩) es.length cap]++rest.toArray) w fun e w'=>
   e=.returned (.slice (some ⟨b,0,none⟩) n' cap)/\∃(F' : Array Value) (F5 : List (List AV)) (n:Nat) (os:Array Obj),F'.size=F.size/\Q F5/\F5.length=es.length/\(∀cs∈F5,cs.length=sz) /\
    (∀(g:Gh) (w:World),CY g w FK es.flatten F.toList->CY g w FK F5.flatten F'.toList)/\w'=grow (putRow id (Sort.ahead w n) b 0 F') os) :
  Ba P f (.msl 1000 es.length::rest.map .v) (Ap [(1000,.arr sz es)] Ae) fun r h'=>r=.msl 2000 n'/\∃F5,Q F5/\h'=Ap [(1000,.dead),(2000,.arr sz (F5.take n'))] Ae:=by
 refine⟨hE,fun g w us hs hv hI=>?_⟩;have ho:=hI.objs 1000;have he:Ap [(1000,HO.arr sz es)] Ae 1000=.arr sz es:=rfl;rw[he]at ho;obtain⟨t1,l1,al,a2⟩:=ho;simp only[Ag,A8]at hs;have hu0:0<us.size:=by omega
 have wZ:=hv 0 (.msl 1000 es.length) us[0] rfl (A6 hu0);have hval:us[0]=g.ρ 1000:=by
  generalize us[0]=x at wZ;cases wZ with
  |msl _ r n a cap hu ht hn ha hx=>exact hx l1.symm
 have Lu:us=#[g.ρ 1000]++rest.toArray:=by
  refine Py (by simp;omega) fun i h1 h2=>?_;cases i with
  |zero=>rw[hval];simp
  |succ i=>
   have hi:i<rest.length:=by omega
   have:=hv (i+1) (.v rest[i]) us[i+1] (by simp[List.getElem?_eq_getElem hi]) (A6 h1)
   rw[this.v_eq];simp
 rw[Lu];rcases a2 with ⟨b1,b2,b3⟩ | ⟨b,cap,E,vs,b1,b2,b3,b4,b5,b6,b7⟩
 .exact absurd b1 DH
 .have hl:(Ap [(1000,HO.arr sz es)] Ae 1000).live:=trivial;have Du:=(hI.loc 1000 b hl b2).1;have Ij:es.length*sz<=vs.size:=by rw[b5];exact A9 _ b3
  have hF:((vs.toList.take (es.length*sz)).toArray).size=es.length*sz:=by simp;omega
  have hH:Holds id w b 0 (vs.toList.take (es.length*sz)).toArray:=fun j hj=>by
   have hj:j<es.length*sz:=by rw[hF]at hj;exact hj
   refine⟨?_,?_⟩
   .have yz:j<vs.size:=by omega
    simp only[World.cell?,b4,Bg,PF,Dp,GB];rw[A6 yz,D2 _ j (by rw[hF];exact hj)];simp
   .simp[World.frozen?,b4]
  rw[b1];refine(h1 g w b cap _ (by simpa using b6) hF hH Du b3).mono ?_
  rintro e w' ⟨rfl,F',F5,n,os,f1,f2,f3,f4,f5,rfl⟩
  have wP : F'.size=es.length*sz:=f1.trans hF;have yT:=OF F' vs ch;have sE : (grow (putRow id (Sort.ahead w n) b 0 F') os).heap[b]?=some (.cells (putCells id 0 F' vs) E (0,0)):=by
   rw[heap_grow_old _ _ (by rw[size_putRow];exact Du)];show(w.heap.modify b (onCells (putCells id 0 F')))[b]?=_;rw[Array.getElem?_modify,Al rfl,b4];rfl
  have yK:∀k,k<w.heap.size->k≠b->(grow (putRow id (Sort.ahead w n) b 0 F') os).heap[k]?=w.heap[k]?:=fun k hk DH=>by
   rw[heap_grow_old _ _ (by rw[size_putRow];exact hk)];simp[putRow,mapBlock,Array.getElem?_modify,Ne.symm DH]
  have EZ:w.heap.size<=(grow (putRow id (Sort.ahead w n) b 0 F') os).heap.size:=by rw[size_grow,size_putRow];show w.heap.size<=w.heap.size+_;omega
  obtain⟨k1,k2⟩:=hI.upd 1000 (.arr sz F5) (g.ρ 1000) (g.ln 1000) (g.tk 1000) (g.own 1000) g.S (grow (putRow id (Sort.ahead w n) b 0 F') os) (some b) ⟨rfl,rfl,rfl,EZ⟩
   (fun k hk DH=>yK k hk (fun e=>DH (by rw[e]))) (fun b' e=>by cases e;exact⟨hl,b2⟩) (fun _ _ h=>h) (fun _ _ h=>.inl h) (fun b' o e hs=>by cases e;exact absurd hs (b7 o))
   (fun b' _ e=>by rw[b2]at e;cases e;exact⟨BC Du EZ,.inl ⟨hl,b2⟩⟩) B0 (fun _=>⟨rfl,Ak _,fun _=>rfl,fun _=>rfl⟩) (fun hg hk=>by
    refine⟨by simp[Gh.upd,t1],by simp[Gh.upd,l1,f3],f4,.inr ⟨b,cap,E,_,by simp[Gh.upd,b1,f3],by simp[Gh.upd,b2],by omega,sE,by rw[yT.2,b5],?_,b7⟩⟩
    have:=f5 g w (by simpa using b6)
    rw[f3,<-wP,yT.1];exact this.mono hk (fun _ h=>h) (fun _ h=>h.elim))
  rw[U2]at k1 k2;generalize TL : g.upd 1000 (g.ρ 1000) (g.ln 1000) (g.tk 1000) (g.own 1000) g.S=g' at k1 k2;have sM : g'.own 1000=some b:=by rw[<-TL];simp[Gh.upd,b2]
  have yL:=k1.objs 1000;have pv:Ap [(1000,HO.arr sz F5)] Ae 1000=.arr sz F5:=rfl;rw[pv]at yL;obtain⟨m1,m2,m3,m4⟩:=yL;have hρ:g'.ρ 1000=.slice (some ⟨b,0,none⟩) es.length cap:=by rw[<-TL];simp[Gh.upd,b1]
  have AcY : F5≠[]:=fun e=>DH (AP (by rw[<-f3,e];rfl));rcases m4 with ⟨m4,_⟩ | ⟨b',Mb,E',kR,c1,c2,c3,c4,c5,c6,c7⟩
  .exact absurd m4 AcY
  .rw[hρ]at c1;simp only[Value.slice.injEq,BB,Addr.mk.injEq,and_true]at c1;obtain⟨c1a,c1b,c1c⟩:=c1;subst c1a;subst c1c;have mD : (F5.take n').length=n':=by rw[Au];omega
   obtain⟨k3,k4⟩:=k1.move 1000 2000 Cl rfl trivial sM (.arr sz (F5.take n')) (.slice (some ⟨b,0,none⟩) n' cap) n' true B0 (fun hk=>by
    refine⟨by simp[Gh.upd],by simp[Gh.upd,mD],fun cs hcs=>m3 cs (CU hcs),.inr ⟨b,cap,E',kR,by simp[Gh.upd,mD],by simp[Gh.upd],by omega,c4,c5,?_,c7⟩⟩
    have:=(c6.mono hk (fun _ h=>h) (fun _ h=>h.elim)).take (n'*sz)
    rw[Mj F5 n' m3,PE,KD (A9 _ ch)]at this;rw[mD];exact this)
   have yw:A1 (A1 (Ap [(1000,HO.arr sz F5)] Ae) 1000 .dead) 2000 (.arr sz (F5.take n'))=Ap [(1000,.dead),(2000,.arr sz (F5.take n'))] Ae:=by
    funext i
    by_cases e1:i=2000
    .subst e1;rw[Bl];rfl
    .rw[Ca _ _ _ _ e1]
     by_cases e2:i=1000
     .subst e2;rw[Bl];rfl
     .rw[Ca _ _ _ _ e2];simp[Ap,Df e1,Df e2]
   rw[yw]at k3 k4;exact⟨_,.msl 2000 n',_,_,rfl,⟨rfl,F5,f2,rfl⟩,.msl _ 2000 n' (some ⟨b,0,none⟩) cap (by intro c;cases c) (by simp[Gh.upd]) (by simp[Gh.upd]) (.inr ⟨b,rfl⟩) (fun _=>by simp[Gh.upd]),k3,k2.trans k4⟩
end
end Go.Eng
namespace Go.Eng
variable {h:Nat->HO}{r ty e m:Nat}{cx:Cx}{x:AV}{K:HK}
def lQ(a b:FZ):Bool:=
 (match a.2 with | some r=>!JA b.1 r | none=>true)&&(match b.2 with | some r=>!JA a.1 r | none=>true)
def Rr(ops:Array Oper)(oi:Oper)(fi:FZ)(D:List Nat)(k:Nat):List Oper->List FZ->Bool
 |o::r,f::fs=>(JA D k||(oi.apart ops o&&lQ fi f))&&Rr ops oi fi D (k+1) r fs
 | [],[]=>true
 |_,_=>false
def Xs(ops:Array Oper)(all:List Oper)(k:Nat):List Oper->List FZ->Bool
 |o::r,f::fs=>
  let D:=Rv k [] 0 all
  (o.after.toList.all fun e=>!Region.binds .any e||Nat.blt e.on k)&&VX k D 0 all&&(D.all fun j=>Nat.blt k j&&Nat.blt j all.length)&&Rr ops o f D (k+1) r fs&&Xs ops all (k+1) r fs
 | [],[]=>true
 |_,_=>false
def fy(ops:Array Oper)(fs:List FZ):Bool:=Region.noSelect ops&&Xs ops ops.toList 0 ops.toList fs
def Sc(f:FZ):Prop:=∀r,f.2=some r->r<10000000
def TW:List FZ->Prop
 | []=>True
 |f::r=>Sc f/\TW r
theorem A3(l:List Nat):Sc (l,none):=fun _ h=>by cases h
theorem EB{l:List Nat}(h:r<10000000):Sc (l,some r):=fun _ e=>by cases e;exact h
theorem lR{a b:FZ}(ha:Sc a)(hb:Sc b)(h:lQ a b=true):UA a b=true:=by
 obtain⟨a1,a2⟩:=a;obtain⟨b1,b2⟩:=b;unfold lQ at h;unfold UA;rw[Af]at h⊢;refine⟨?_,?_⟩
 .cases a2 with
  |none=>rfl
  |some r=>
   have h1:(!JA b1 r)=true:=h.1;show bH b1 r=true;unfold bH;rw[Df (show r≠Ys by have:=ha r rfl;unfold Ys;omega),Ey,h1,show Nat.blt r 10000000=true by rw[Cv];exact ha r rfl];rfl
 .cases b2 with
  |none=>rfl
  |some r=>
   have h1:(!JA a1 r)=true:=h.2;show bH a1 r=true;unfold bH;rw[Df (show r≠Ys by have:=hb r rfl;unfold Ys;omega),Ey,h1,show Nat.blt r 10000000=true by rw[Cv];exact hb r rfl];rfl
theorem WZ{ops:Array Oper}{oi:Oper}{fi:FZ}{D:List Nat}(hi:Sc fi):∀{l:List Oper} {fs:List FZ} {k:Nat},TW fs->Rr ops oi fi D k l fs=true->Jf ops oi fi D k l fs=true
 | [],[],_,_,h=>h
 |o::r,f::fs,k,hs,h=>by
  unfold Rr at h;unfold Jf;rw[Af,CN,Af]at h⊢;exact⟨h.1.imp id (fun q=>⟨q.1,lR hi hs.1 q.2⟩),WZ hi hs.2 h.2⟩
 | [],_::_,_,_,h=>by simp[Rr]at h
 |_::_,[],_,_,h=>by simp[Rr]at h
theorem am{ops:Array Oper}{all:List Oper}:∀{l:List Oper} {fs:List FZ} {k:Nat},TW fs->Xs ops all k l fs=true->M9 ops all k l fs=true
 | [],[],_,_,h=>h
 |o::r,f::fs,k,hs,h=>by
  unfold Xs at h;unfold M9;simp only[Af]at h⊢;exact⟨⟨h.1.1,WZ hs.1 hs.2 h.1.2⟩,am hs.2 h.2⟩
 | [],_::_,_,_,h=>by simp[Xs]at h
 |_::_,[],_,_,h=>by simp[Xs]at h
theorem JU{ops:Array Oper}{fs:List FZ}(hs:TW fs)(h:fy ops fs=true):UB ops fs=true:=by
 unfold fy at h;unfold UB;rw[Af]at h⊢;exact⟨h.1,am hs h.2⟩
theorem Sz{d:Option Nat}{es es2:List (List AV)}(hty:(cx.T ty).d=.slice e)(hz:Nat.beq (cx.T e).zc.length (cx.T e).size=true)(EZ:(cx.T e).size=m+1)(hx:∀K' : List (List AV)->Prop,K' es2->Mi h x K')(hr:h r=.tok (m+1) es.length)(hl:B5 (m+1) es2)(hb:(es.length+es2.length)*(cx.T e).bytes<=140737488355328)(hc:es.length+es2.length<=9223372036854775807)(hk:K (.slice (.id r (m+1)) (es++es2)) (A1 h r (.tok (m+1) (es.length+es2.length)))):I6 cx d h ty (.slice (.id r (m+1)) es) x K:=by
 have hq:Nat.beq (m+1) (m+1)=true:=Dq _;unfold I6;rw[hty];rw[EZ]at hz;simp only[EZ,hz];refine hx _ ?_;simp only[hr,hq];exact⟨⟨hl,trivial,hb,hc⟩,hk⟩
theorem Sy{d:Nat}{es2:List (List AV)}(hty:(cx.T ty).d=.slice e)(hz:Nat.beq (cx.T e).zc.length (cx.T e).size=true)(EZ:(cx.T e).size=m+1)(hx:∀K' : List (List AV)->Prop,K' es2->Mi h x K')(hr:h (KJ cx d)=.free)(ha:Hl cx.pl.arr d=none)(hl:B5 (m+1) es2)(hb:es2.length*(cx.T e).bytes<=140737488355328)(hc:es2.length<=9223372036854775807)(hk:K (.slice (.id (KJ cx d) (m+1)) es2) (A1 h (KJ cx d) (.tok (m+1) es2.length))):I6 cx (some d) h ty nzA x K:=by
 unfold I6;rw[hty];rw[EZ]at hz;simp only[EZ,hz];refine hx _ ?_;refine⟨⟨EZ▸hl,hb,hc⟩,?_⟩;unfold E7;simp only[hr,ha];exact hk
end Go.Eng
namespace Go.Eng
open Go.RowKit
section
variable {P:Program}
theorem Nx{f:Nat}{args:List AV}{res:AV}(vals:List Value)(v:Value)(hE:F6 P f)(ha:args=vals.map .v)(mL:∀g w,BS g w FK res v)
  (h:∀w,(∃m,w.cell? ⟨gB,0,none⟩=some (.int .i64 m))->(∀x∈me,w.cell? ⟨x.1,x.2.1,none⟩=x.2.2)->Calls P f vals.toArray w fun e w'=>e=.returned v/\Below w.heap.size w w'):Jd P f args res:=by
 refine⟨hE,fun g w us hs hv hI=>?_⟩;have hu:us=vals.toArray:=by
  subst ha;rw[A8]at hs;refine Py (by simpa using hs) fun i h1 h2=>?_
  have:=hv i (.v (vals[i]'(by simpa using h2))) us[i] (by rw[AG,Az (by simpa using h2)];rfl) (by rw[A6 h1])
  rw[this.v_eq];simp
 subst hu;refine(h w hI.glob.1.2 fun x hx=>(hI.glob.2 x hx).2).mono ?_
 rintro e w' ⟨rfl,q⟩
 have hK:ET g w g w':=fun b o hb=>by
  have Du:=hI.slt b o hb;exact⟨hb,by simp only[World.cell?,q.block b Du],fun es ck he=>(q.block b Du).trans he⟩
 refine⟨v,res,Ae,g,rfl,⟨rfl,rfl⟩,(mL g _).up _,⟨q.os,q.tape,q.output,q.size,fun b hb _=>q.block b hb,fun b o hs=>BC (hI.slt b o hs) q.size,fun _=>trivial,fun _ _ _ h=>h.elim,fun _ _ h=>h.elim,fun b o hs=>.inl hs,hI.glob.keep hK⟩,⟨.refl _ _,fun _ h=>h,hK⟩⟩
end
end Go.Eng
namespace Go.Eng
def YH:Obj->Bool
 |.cells ..=>false
 |.map ..=>false
 |.mapIter ..=>false
 |.loop r=>!PN [] r.body
 |_=>true
structure eZ(n0 x:Nat)(w:World)(g:Gh)(h:Nat->HO)(w' : World)(g' : Gh)(h' : Nat->HO):Prop where
 os:w'.os=w.os
 tape:w'.tape=w.tape
 output:w'.output=w.output
 size:w.heap.size<=w'.heap.size
 frame:∀b,b<n0->b≠x->(∀r,(h r).live->g.own r≠some b)->w'.heap[b]?=w.heap[b]?
 loc:∀r b,(h' r).live->g'.own r=some b->n0<=b\/∃r',(h r').live/\g.own r'=some b
 sg:∀b o,g'.S b o->g.S b o\/n0<=b\/∃r',(h r').live/\g.own r'=some b
 le:Le h g w h' g' w'
section
variable {P:Program}{N:Nat}{ds:List Deferred}{n0 x:Nat}{w w' w1 w2:World}{g g' g1 g2:Gh}{h h' h1 h2:Nat->HO}
theorem eZ.trans(a:eZ n0 x w g h w1 g1 h1)(b:eZ n0 x w1 g1 h1 w2 g2 h2):eZ n0 x w g h w2 g2 h2 where
 os:=b.os.trans a.os
 tape:=b.tape.trans a.tape
 output:=b.output.trans a.output
 size:=AI a.size b.size
 frame c hc hx hn:=(b.frame c hc hx fun r hl e=>by
  rcases a.loc r c hl e with h | ⟨r',h1,h2⟩
  .omega
  .exact hn r' h1 h2).trans (a.frame c hc hx hn)
 loc r c hl e:=by
  rcases b.loc r c hl e with h | ⟨r',h1,h2⟩
  .exact .inl h
  .exact a.loc r' c h1 h2
 sg c o hs:=by
  rcases b.sg c o hs with h | h | ⟨r',h1,h2⟩
  .exact a.sg c o h
  .exact .inr (.inl h)
  .rcases a.loc r' c h1 h2 with h | h
   .exact .inr (.inl h)
   .exact .inr (.inr h)
 le:=a.le.trans b.le
theorem eZ.of_inv(hI:D7 w g h h' g' w')(hL:Le h g w h' g' w')(hn:n0<=w.heap.size):eZ n0 x w g h w' g' h' where
 os:=hI.os
 tape:=hI.tape
 output:=hI.output
 size:=hI.size
 frame c hc _ aV:=hI.frame c ch aV
 loc r c hl e:=by
  rcases(hI.loc r c hl e).2 with h | h
  .exact .inl ch
  .exact .inr h
 sg c o hs:=by
  rcases hI.sg c o hs with h | h | h
  .exact .inl h
  .exact .inr (.inl ch)
  .exact .inr (.inr h)
 le:=hL
theorem D7.base(hI:D7 w g h h' g' w'):D7 w' g' h' h' g' w' where
 os:=rfl
 tape:=rfl
 output:=rfl
 size:=Ak _
 frame _ _ _:=rfl
 slt:=hI.slt
 objs:=hI.objs
 inj:=hI.inj
 loc r b hl e:=⟨(hI.loc r b hl e).1,.inr ⟨r,hl,e⟩⟩
 sg _ _ hs:=.inl hs
 glob:=hI.glob
theorem D7.of_seg(hI:D7 w' g' h' h' g' w')(s:eZ w.heap.size x w g h w' g' h')(hx:x<w.heap.size->w'.heap[x]?=w.heap[x]?):D7 w g h h' g' w' where
 os:=s.os
 tape:=s.tape
 output:=s.output
 size:=s.size
 frame b hb hn:=by
  by_cases e:b=x
  .subst e;exact hx hb
  .exact s.frame b hb e hn
 slt:=hI.slt
 objs:=hI.objs
 inj:=hI.inj
 loc r b hl e:=⟨(hI.loc r b hl e).1,s.loc r b hl e⟩
 sg:=s.sg
 glob:=hI.glob
theorem QH{U:Nat->Prop}{r b:Nat}{o:HO}{ob:Obj}(ho:EC g w U r o)(hl:o.live)(e:g.own r=some b)(hb:w.heap[b]?=some ob)(hd:YH ob=true):False:=by
 cases o with
 |free=>exact hl
 |dead=>exact hl
 |ro cs=>exact hl
 |rom sh Cc=>exact hl
 |cells cs=>
  obtain⟨_,b',E,vs,h1,_,h3,_⟩:=ho;rw[e]at h1;cases h1;rw[hb]at h3;cases h3;cases hd
 |tok sz n=>
  obtain⟨_,_,a,cap,_,(⟨_,h1⟩ | ⟨_,b',E,vs,off,_,h1,⟨_,h3,_⟩,_⟩)⟩:=ho
  .rw[e]at h1;cases h1
  .rw[e]at h1;cases h1;rw[hb]at h3;cases h3;cases hd
 |vox v=>exact hl
 |hol sz es i c av=>
  obtain⟨_,_,_,b',cap,E,vs,_,h1,_,h3,_⟩:=ho;rw[e]at h1;cases h1;rw[hb]at h3;cases h3;cases hd
 |raw b' gv=>
  obtain⟨_,h1,h2,h3,_⟩:=ho;rw[e]at h1;cases h1;rw[hb]at h2;cases h2;cases ob<;>simp[YH,xt]at hd h3
  rw[hd]at h3;cases h3
 |var sz v n=>
  obtain⟨_,_,a,cap,_,(⟨_,h1⟩ | ⟨_,b',E,vs,off,_,h1,⟨_,h3,_⟩,_⟩)⟩:=ho
  .rw[e]at h1;cases h1
  .rw[e]at h1;cases h1;rw[hb]at h3;cases h3;cases hd
 |arr sz es=>
  obtain⟨_,_,_,(⟨_,_,h1⟩ | ⟨b',cap,E,vs,_,h1,_,h3,_⟩)⟩:=ho
  .rw[e]at h1;cases h1
  .rw[e]at h1;cases h1;rw[hb]at h3;cases h3;cases hd
 |map sh Cc=>
  obtain⟨_,b',es,ck,h1,_,h3,_⟩:=ho;rw[e]at h1;cases h1;rw[hb]at h3;cases h3;cases hd
 |mapU sh Cc=>
  obtain⟨_,b',es,ck,h1,_,h3,_⟩:=ho;rw[e]at h1;cases h1;rw[hb]at h3;cases h3;cases hd
 |iter all rem EN=>
  obtain⟨_,b',mb,K7,seen,st,es,ck,h1,_,h3,_⟩:=ho;rw[e]at h1;cases h1;rw[hb]at h3;cases h3;cases hd
theorem D7.dullS(hI:D7 w g h h g w)(ho:w'.os=w.os/\w'.tape=w.tape/\w'.output=w.output)(EZ:w.heap.size<=w'.heap.size)
  (hb:∀b,b<w.heap.size->w'.heap[b]?=w.heap[b]?\/∃o o',w.heap[b]?=some o/\w'.heap[b]?=some o'/\YH o=true/\YH o'=true)
  (hn:∀b,b<n0->b≠x->w'.heap[b]?=w.heap[b]?):D7 w' g h h g w'/\eZ n0 x w g h w' g h:=by
 have hk:ET g w g w':=fun b o hs=>by
  refine⟨hs,?_⟩;rcases hb b (hI.slt b o hs)with e | ⟨ob,gv,e1,e2,d1,d2⟩
  .exact⟨by simp only[World.cell?,e],fun es ck he=>e.trans he⟩
  .refine⟨?_,fun es ck he=>?_⟩
   .simp only[World.cell?,e1,e2];cases ob<;>cases gv<;>first | rfl | (cases d1;done) | (cases d2;done)
   .rw[e1]at he;cases he;cases d1
 have Y1:∀r b,(h r).live->g.own r=some b->w'.heap[b]?=w.heap[b]?:=fun r b hl e=>by
  rcases hb b (hI.loc r b hl e).1 with e' | ⟨ob,gv,e1,_,d1,_⟩
  .exact e'
  .exact(QH (hI.objs r) hl e e1 d1).elim
 refine⟨⟨rfl,rfl,rfl,Ak _,fun _ _ _=>rfl,fun b o hs=>BC (hI.slt b o hs) EZ,fun r=>?_,hI.inj,fun r b hl e=>⟨BC (hI.loc r b hl e).1 EZ,.inr ⟨r,hl,e⟩⟩,fun _ _ hs=>.inl hs,hI.glob.keep hk⟩,⟨ho.1,ho.2.1,ho.2.2,EZ,fun b sE hx _=>hn b sE hx,fun r b hl e=>.inr ⟨r,hl,e⟩,fun _ _ hs=>.inl hs,⟨.refl _ _,fun _ h=>h,hk⟩⟩⟩;exact(hI.objs r).same hk (fun _ h=>h) (.refl _ _) rfl rfl rfl rfl fun b hl e=>⟨Y1 r b hl e,fun _ h=>h⟩
theorem D7.put(hI:D7 w g h h g w){l:Nat}{o o' : Obj}(hl:w.heap[l]?=some o)(hd:YH o=true)(pq : YH o'=true)(hx:n0<=l\/l=x) :
  D7 (w.putObj l o') g h h g (w.putObj l o')/\eZ n0 x w g h (w.putObj l o') g h:=by
 have Du:l<w.heap.size:=(Bv.1 hl).1;refine hI.dullS ⟨rfl,rfl,rfl⟩ (by simp[World.putObj]) (fun b _=>?_) (fun b hb DH=>?_)
 .by_cases e:b=l
  .subst e;exact .inr ⟨o,o',hl,World.putObj_heap_same Du,hd,pq⟩
  .exact .inl (World.putObj_heap_other e)
 .refine World.putObj_heap_other fun e=>?_;rcases hx with h | h
  .omega
  .exact DH (e.trans h)
theorem D7.allocS(hI:D7 w g h h g w)(o:Obj)(hn:n0<=w.heap.size):D7 (w.alloc o) g h h g (w.alloc o)/\eZ n0 x w g h (w.alloc o) g h:=by
 refine hI.dullS ⟨rfl,rfl,rfl⟩ (by rw[World.size_alloc];omega) (fun b hb=>.inl (heap_alloc_old _ _ hb)) (fun b hb _=>heap_alloc_old _ _ ch)
end
abbrev IN(fn:FuncId)(tm:Array Value)(ps:Array Tmp)(Hl body:Code)(D:Nat)(s:LoopState):Loop:=
 { state:=s,pending:=none,fn:=fn,tmps:=tm,params:=ps,assign:=Hl,body:=body,defers:=D }
def ql:List Nat->List AV->(Nat->AV)->Nat->AV
 |p::ps,v::vs,e=>ql ps vs (HZ e p v)
 |_,_,e=>e
section
variable {P:Program}{N:Nat}{w:World}{g:Gh}
theorem ay{U:Nat->Prop}:∀{ps:List Nat} {args:List AV} {vals:List Value} {tm:Array Value} {env:Nat->AV},vals.length=args.length->args.length=ps.length->(∀p∈ps,p<tm.size) ->
  (∀(i:Nat) (av:AV) (x:Value),args[i]?=some av->vals[i]?=some x->BS g w U av x)->(∀i,BS g w U (env i) (tm.getD i undef)) ->
  ((ps.zip vals).foldl (fun t p=>t.setIfInBounds p.1 p.2) tm).size=tm.size/\∀i,BS g w U (ql ps args env i) (((ps.zip vals).foldl (fun t p=>t.setIfInBounds p.1 p.2) tm).getD i undef)
 | [],args,vals,tm,env,_,h2,_,_,he=>by
  have:args=[]:=AP h2
  subst this;exact⟨rfl,he⟩
 |p::ps,[],vals,tm,env,_,h2,_,_,_=>by cases h2
 |p::ps,a::args,[],tm,env,h1,_,_,_,_=>by cases h1
 |p::ps,a::args,v::vals,tm,env,h1,h2,h3,h4,he=>by
  have hp:=h3 p (Ab ..)
  obtain⟨q1,q2⟩:=ay (ps:=ps) (args:=args) (vals:=vals) (tm:=tm.setIfInBounds p v) (env:=HZ env p a) (by simpa using h1) (by simpa using h2) (fun q hq=>by simpa using h3 q (Ah _ hq))
   (fun i av x e1 e2=>h4 (i+1) av x (by simpa using e1) (by simpa using e2)) (fun i=>by
    by_cases e:i=p
    .subst e;have e1:HZ env i a i=a:=by simp[HZ]
     have e2:(tm.setIfInBounds i v).getD i undef=v:=by simp[Array.getD_eq_getD_getElem?,hp]
     rw[e1,e2];exact h4 0 a v rfl rfl
    .have e1:HZ env p a i=env i:=by simp only[HZ,Df e,Ey]
     have e2:(tm.setIfInBounds p v).getD i undef=tm.getD i undef:=by
      simp[Array.getD_eq_getD_getElem?,Array.getElem?_setIfInBounds_ne (Ne.symm e)]
     rw[e1,e2];exact he i)
  exact⟨by simpa using q1,q2⟩
def ZL(P:Program)(Y:Gh->World->Prop)(σ:JR)(f:Nat)(args:List AV)(h0:Nat->HO)(Q:AV->(Nat->HO)->Prop):Prop:=
 F6 P f/\∀(g:Gh) (w:World) (vals:Array Value),vals.size=args.length->(∀(i:Nat) (av:AV) (x:Value),args[i]?=some av->vals[i]?=some x->BS g w (AQ h0) av x) ->
  D7 w g h0 h0 g w->(∀h' g' w',D7 w g h0 h' g' w'->Le h0 g w h' g' w'->Y (DX σ g') w') ->
  Calls P f vals w fun e w'=>∃v r h' g',e=.returned v/\Q r h'/\BS g' w' (AQ h') r v/\D7 w g h0 h' g' w'/\Le h0 g w h' g' w'
theorem mP{Y:Gh->World->Prop}{l:Nat}{f:Nat}{fn:Func}{c:Code}{args:List AV}{H0:List (Nat×HO)}{Q:AV->(Nat->HO)->Prop}(cx:Cx)(σ:JR)(hP:cx.P=P)(hT:CI P cx.T)(hm:P.follows .mixedOrders=true)(hx:cx.ext=true)(hf:P.funcs[f]?=some fn)
  (hn : (fn.name == "runtime.NumGoroutine") = false) (hb : fn.body = some c) (hN : args.length <= fn.ntmps) (hc : EX fn.ntmps c = true) (hσ : (Ht σ && Jj σ H0) = true)
  (hy:cx.yp=fun l' σ' g w=>l'=l->σ'=σ->Y g w)
  (hk:To cx c (ar cx fn.results.toList σ Q) ⟨Qb args,Ap H0 Ae⟩):ZL P Y σ f args (Ap H0 Ae) Q:=
 ⟨⟨fn,hf,hn,by simp[hb]⟩,fun g w vals hs hv hI hp=>aL cx σ hP hT hm hx hf hn hb hN hc hσ hk hs hv hI fun l' σ' h' g' w' _ q1 q2=>by
  rw[hy];intro _ e;subst e;exact hp h' g' w' q1 q2⟩
end
end Go.Eng
