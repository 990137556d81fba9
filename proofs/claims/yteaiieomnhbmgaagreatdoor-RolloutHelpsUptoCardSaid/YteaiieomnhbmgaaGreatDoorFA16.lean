/- Lemmas 16. -/
import Derived.Test.YteaiieomnhbmgaaGreatDoorFA15
import Derived.Test.YteaiieomnhbmgaaGreatDoorProg
import Derived.Sort.Grow
import Derived.Shelf.GgSortFunc.InsertionK
import Derived.Below
import Derived.RangeFuncLeaves
import Derived.RangeFuncNested
namespace Go.Eng
open Go.Proofs
abbrev dTI:TI:=fH
abbrev tF:TI:=⟨.func,1,8,.nilFunc,true⟩
abbrev tI:TI:=⟨.int .i64,1,8,.int .i64 0,true⟩
abbrev tP(n:Nat):TI:=⟨.ptr n,1,8,.pointer none,true⟩
abbrev tS(n:Nat):TI:=⟨.slice n,1,24,.slice none 0 0,true⟩
def od{α:Type}(d:α):List α->Nat->α
 | [],_ => d
 |a::r,n => match n with |0 => a |n + 1 => od d r n
abbrev tiN:TI:=fH
def AeG:List TI:=[⟨.other,1,0,(.tuple #[]),true⟩,tF,tI,tI,⟨.bool,1,1,(.bool .false),true⟩,⟨.int .u8,1,1,(.int .u8 0),true⟩,⟨.int .u8,1,1,(.int .u8 0),true⟩,⟨.struct [(2,0),(3,1),(4,2),(6,3)],4,24,(.agg #[.int .i64 0,.int .i64 0,.bool .false,.int .u8 0]),true⟩,⟨.struct [(2,0),(3,1),(4,2),(6,3)],4,24,(.agg #[.int .i64 0,.int .i64 0,.bool .false,.int .u8 0]),true⟩,⟨.string,1,16,(.string ⟨#[]⟩),true⟩,⟨.string,1,16,(.string ⟨#[]⟩),true⟩,⟨.string,1,16,(.string ⟨#[]⟩),true⟩,⟨.int .u64,1,8,(.int .u64 0),true⟩,⟨.struct [(9,0),(12,1)],2,24,(.agg #[.string ⟨#[]⟩,.int .u64 0]),false⟩,⟨.struct [(9,0),(12,1)],2,24,(.agg #[.string ⟨#[]⟩,.int .u64 0]),false⟩,⟨.ptr 451,1,8,(.pointer .none),true⟩]
def AeH:List TI:=[⟨.ptr 454,1,8,(.pointer .none),true⟩,⟨.ptr 461,1,8,(.pointer .none),true⟩,⟨.struct [(17,0)],1,8,(.agg #[.pointer .none]),false⟩,⟨.struct [(17,0)],1,8,(.agg #[.pointer .none]),false⟩,⟨.iface,1,16,.nilIface,true⟩,⟨.int .i32,1,4,(.int .i32 0),true⟩,⟨.slice 74,1,24,(.slice .none 0 0),true⟩,tF,tI,⟨.other,1,0,(.tuple #[.int .i64 0,.int .i64 0]),true⟩,tF,tF,tF,tF,⟨.slice 78,1,24,(.slice .none 0 0),true⟩,⟨.slice 182,1,24,(.slice .none 0 0),true⟩]
def AeI:List TI:=[⟨.struct [(30,0),(31,1)],2,48,(.agg #[.slice .none 0 0,.slice .none 0 0]),true⟩,⟨.struct [(30,0),(31,1)],2,48,(.agg #[.slice .none 0 0,.slice .none 0 0]),true⟩,⟨.slice 48,1,24,(.slice .none 0 0),true⟩,⟨.slice 72,1,24,(.slice .none 0 0),true⟩,⟨.struct [(9,0),(35,1)],2,40,(.agg #[.string ⟨#[]⟩,.slice .none 0 0]),true⟩,⟨.struct [(9,0),(35,1)],2,40,(.agg #[.string ⟨#[]⟩,.slice .none 0 0]),true⟩,tF,tF,tF,⟨.other,1,0,(.tuple #[.slice .none 0 0,.int .i64 0]),true⟩,tF,tF,tiN,tiN,⟨.struct [(3,0),(3,1),(3,2)],3,24,(.agg #[.int .i64 0,.int .i64 0,.int .i64 0]),true⟩,tiN]
def AeJ:List TI:=[⟨.struct [(9,0),(46,1)],4,40,(.agg #[.string ⟨#[]⟩,.int .i64 0,.int .i64 0,.int .i64 0]),true⟩,tiN,⟨.slice 92,1,24,(.slice .none 0 0),true⟩,⟨.slice 92,1,24,(.slice .none 0 0),true⟩,⟨.slice 9,1,24,(.slice .none 0 0),true⟩,tiN,⟨.struct [(9,0),(9,1),(51,2),(52,3),(9,4)],5,96,(.agg #[.string ⟨#[]⟩,.string ⟨#[]⟩,.slice .none 0 0,.slice .none 0 0,.string ⟨#[]⟩]),true⟩,⟨.slice 60,1,24,(.slice .none 0 0),true⟩,tiN,tiN,⟨.slice 54,1,24,(.slice .none 0 0),true⟩,tiN,⟨.slice 95,1,24,(.slice .none 0 0),true⟩,tF,⟨.slice 68,1,24,(.slice .none 0 0),true⟩,tiN]
def AeK:List TI:=[tF,tF,tiN,tiN,⟨.struct [(3,0),(46,1),(4,4)],5,40,(.agg #[.int .i64 0,.int .i64 0,.int .i64 0,.int .i64 0,.bool .false]),true⟩,tiN,tiN,tiN,⟨.struct [(52,0),(22,1)],2,48,(.agg #[.slice .none 0 0,.slice .none 0 0]),true⟩,tiN,⟨.struct [(3,0),(3,1)],2,16,(.agg #[.int .i64 0,.int .i64 0]),true⟩,tiN,tiN,tiN,⟨.struct [(9,0),(46,1),(60,4),(9,5),(9,6),(9,7),(4,8)],9,120,(.agg #[.string ⟨#[]⟩,.int .i64 0,.int .i64 0,.int .i64 0,.slice .none 0 0,.string ⟨#[]⟩,.string ⟨#[]⟩,.string ⟨#[]⟩,.bool .false]),true⟩,tiN]
def AeL:List TI:=[tiN,tiN,tiN,tF,tiN,tiN,tiN,tiN,tiN,tiN,tiN,tiN,⟨.struct [(3,0),(3,1)],2,16,(.agg #[.int .i64 0,.int .i64 0]),true⟩,tiN,tiN,⟨.struct [(9,0),(51,1)],2,40,(.agg #[.string ⟨#[]⟩,.slice .none 0 0]),true⟩]
def AeM:List TI:=[tiN,tiN,⟨.int .u64,1,8,(.int .u64 0),true⟩,⟨.int .u64,1,8,(.int .u64 0),true⟩,tiN,tiN,⟨.slice 52,1,24,(.slice .none 0 0),true⟩,tiN,tiN,tF,tiN,tiN,tiN,tiN,tiN,tiN]
def AeN:List TI:=[tiN,tiN,tiN,⟨.slice 118,1,24,(.slice .none 0 0),true⟩,tiN,tiN,⟨.struct [(3,0),(78,1)],10,128,(.agg #[.int .i64 0,.string ⟨#[]⟩,.int .i64 0,.int .i64 0,.int .i64 0,.slice .none 0 0,.string ⟨#[]⟩,.string ⟨#[]⟩,.string ⟨#[]⟩,.bool .false]),true⟩,⟨.slice 46,1,24,(.slice .none 0 0),true⟩,tiN,tiN,tiN,tiN,tiN,tiN,tiN,⟨.map 9 78,1,8,(.map .none),true⟩]
def AeO:List TI:=[tiN,tiN,⟨.ptr 136,1,8,(.pointer .none),true⟩,tiN,tiN,tiN,tiN,tiN,⟨.struct [(127,0),(127,1),(34,2),(34,3),(52,4)],5,88,(.agg #[.map .none,.map .none,.slice .none 0 0,.slice .none 0 0,.slice .none 0 0]),true⟩,tF,tiN,⟨.slice 337,1,24,(.slice .none 0 0),true⟩,⟨.slice 285,1,24,(.slice .none 0 0),true⟩,tiN,⟨.struct [(4,0),(34,1),(139,2),(140,3)],4,80,(.agg #[.bool .false,.slice .none 0 0,.slice .none 0 0,.slice .none 0 0]),true⟩,tiN]
def AeP:List TI:=[tiN,tiN,tiN,tF,⟨.map 48 78,1,8,(.map .none),true⟩,⟨.map 9 30,1,8,(.map .none),true⟩,tiN,⟨.struct [(148,0),(149,1)],2,16,(.agg #[.map .none,.map .none]),true⟩,tiN,tiN,tiN,tiN,tF,tiN,⟨.ptr 232,1,8,(.pointer .none),true⟩,tiN]
def Aa6:List TI:=[tiN,tiN,tiN,tiN,⟨.slice 5,1,24,(.slice .none 0 0),true⟩,tiN,tiN,tiN,tiN,tiN,tiN,tiN,tiN,tiN,tiN,tiN]
def Aa7:List TI:=[tiN,⟨.slice 469,1,24,(.slice .none 0 0),true⟩,⟨.slice 471,1,24,(.slice .none 0 0),true⟩,⟨.slice 473,1,24,(.slice .none 0 0),true⟩,⟨.slice 475,1,24,(.slice .none 0 0),true⟩,tiN,⟨.struct [(9,0),(177,1),(178,2),(179,3),(180,4)],5,112,(.agg #[.string ⟨#[]⟩,.slice .none 0 0,.slice .none 0 0,.slice .none 0 0,.slice .none 0 0]),true⟩,tiN,tiN,tF,⟨.ptr 95,1,8,(.pointer .none),true⟩,tiN,tiN,tiN,tiN,tF]
def Aa8:List TI:=[tiN,tiN,tiN,tiN,tiN,tiN,tiN,tiN,tiN,tF,⟨.slice 206,1,24,(.slice .none 0 0),true⟩,tiN,tiN,tiN,⟨.struct [(9,0),(3,1),(3,2)],3,32,(.agg #[.string ⟨#[]⟩,.int .i64 0,.int .i64 0]),true⟩,tiN]
def Aa9:List TI:=[tiN,⟨.map 9 4,1,8,(.map .none),true⟩,tiN,tF,⟨.ptr 223,1,8,(.pointer .none),true⟩,tiN,⟨.other,1,0,(.tuple #[.int .i64 0,.bool .false]),true⟩,tiN,⟨.map 9 220,1,8,(.map .none),true⟩,⟨.map 9 51,1,8,(.map .none),true⟩,⟨.slice 283,1,24,(.slice .none 0 0),true⟩,⟨.map 337 3,1,8,(.map .none),true⟩,⟨.slice 266,1,24,(.slice .none 0 0),true⟩,⟨.slice 140,1,24,(.slice .none 0 0),true⟩,tiN,⟨.struct [(60,0),(216,1),(217,2),(139,3),(218,4),(219,5),(4,6),(220,7),(34,8),(221,9)],10,176,(.agg #[.slice .none 0 0,.map .none,.map .none,.slice .none 0 0,.slice .none 0 0,.map .none,.bool .false,.slice .none 0 0,.slice .none 0 0,.slice .none 0 0]),true⟩]
def Aaa:List TI:=[tiN,tiN,tiN,tiN,tiN,⟨.int .u32,1,4,(.int .u32 0),true⟩,⟨.array 8 229,8,32,(.agg (Array.replicate 8 (.int .u32 0))),true⟩,tiN,⟨.struct [(230,0),(9,8),(98,9)],10,56,(.agg #[.int .u32 0,.int .u32 0,.int .u32 0,.int .u32 0,.int .u32 0,.int .u32 0,.int .u32 0,.int .u32 0,.string ⟨#[]⟩,.int .u64 0]),true⟩,⟨.array 8 5,8,8,(.agg (Array.replicate 8 (.int .u8 0))),true⟩,tiN,tiN,tiN,tiN,tiN,tiN]
def Aab:List TI:=[tiN,tiN,tiN,tiN,tiN,tiN,tiN,tiN,tiN,tiN,tiN,⟨.array 3 3,3,24,(.agg #[.int .i64 0,.int .i64 0,.int .i64 0]),true⟩,tiN,tiN,tiN,tiN]
def Aac:List TI:=[⟨.other,1,0,(.tuple #[.slice .none 0 0,.int .i64 0]),true⟩,tiN,tiN,⟨.map 9 3,1,8,(.map .none),true⟩,tiN,tiN,tiN,tiN,tiN,tiN,⟨.struct [(3,0),(78,1)],10,128,(.agg #[.int .i64 0,.string ⟨#[]⟩,.int .i64 0,.int .i64 0,.int .i64 0,.slice .none 0 0,.string ⟨#[]⟩,.string ⟨#[]⟩,.string ⟨#[]⟩,.bool .false]),true⟩,tiN,⟨.slice 274,1,24,(.slice .none 0 0),true⟩,tiN,tiN,⟨.slice 3,1,24,(.slice .none 0 0),true⟩]
def Aad:List TI:=[tiN,tiN,⟨.struct [(95,0),(9,2),(3,3),(3,4)],5,72,(.agg #[.string ⟨#[]⟩,.slice .none 0 0,.string ⟨#[]⟩,.int .i64 0,.int .i64 0]),true⟩,tF,tiN,tiN,tiN,tiN,tiN,tiN,⟨.slice 343,1,24,(.slice .none 0 0),true⟩,⟨.slice 343,1,24,(.slice .none 0 0),true⟩,tiN,⟨.struct [(9,0),(3,1),(3,2)],3,32,(.agg #[.string ⟨#[]⟩,.int .i64 0,.int .i64 0]),true⟩,tiN,tiN]
def Aae:List TI:=[tiN,tiN,tiN,tiN,⟨.array 64 229,64,256,(.agg (Array.replicate 64 (.int .u32 0))),true⟩,tiN,tiN,⟨.other,1,0,(.tuple #[.int .u64 0,.int .u64 0]),true⟩,tiN,⟨.ptr 299,1,8,(.pointer .none),true⟩,tiN,⟨.struct [(297,0),(164,1)],2,32,(.agg #[.pointer .none,.slice .none 0 0]),true⟩,tiN,tiN,⟨.iface,1,16,.nilIface,false⟩,⟨.other,1,0,(.tuple #[.int .i64 0,.nilIface]),true⟩]
def Aaf:List TI:=[tiN,tiN,tiN,tiN,⟨.array 24 5,24,24,(.agg (Array.replicate 24 (.int .u8 0))),true⟩,tiN,tiN,⟨.other,1,0,(.tuple #[.slice .none 0 0,.string ⟨#[]⟩]),true⟩,tiN,tiN,tiN,tI,⟨.other,1,0,(.tuple #[.int .i64 0,.int .i64 0]),true⟩,tiN,tiN,tiN]
def Aag:List TI:=[tiN,tiN,tiN,tiN,tF,tiN,tiN,tiN,tiN,tiN,tiN,tiN,tiN,tF,tiN,tiN]
def Aah:List TI:=[tiN,⟨.struct [(3,0),(9,1),(3,2),(3,3),(3,4),(3,5)],6,56,(.agg #[.int .i64 0,.string ⟨#[]⟩,.int .i64 0,.int .i64 0,.int .i64 0,.int .i64 0]),true⟩,tiN,tiN,tiN,tiN,tiN,⟨.struct [(9,0),(4,1),(51,2)],3,48,(.agg #[.string ⟨#[]⟩,.bool .false,.slice .none 0 0]),true⟩,tF,tiN,tiN,tiN,⟨.ptr 5,1,8,(.pointer .none),true⟩,⟨.other,1,0,(.tuple #[.int .u32 0,.int .u32 0]),true⟩,tiN,⟨.other,1,0,(.tuple #[.int .u64 0,.int .u64 0]),true⟩]
def Aai:List TI:=[tiN,tiN,tiN,⟨.array 20 98,20,160,(.agg (Array.replicate 20 (.int .u64 0))),true⟩,⟨.array 65 5,65,65,(.agg ((List.replicate 32 (.int .u8 0)).append (List.replicate 33 (.int .u8 0))).toArray),true⟩,⟨.int .u64,1,8,(.int .u64 0),true⟩,tiN,tiN,tiN,⟨.ptr 3,1,8,(.pointer .none),true⟩,tiN,tiN,tiN,tiN,tF,tiN]
def Aaj:List TI:=[tiN,tiN,⟨.other,1,0,(.tuple #[.string ⟨#[]⟩,.bool .false]),true⟩,tiN,tiN,tiN,tiN,tiN,tiN,tF,tiN,tiN,tiN,tiN,tiN,tiN]
def Aak:List TI:=[tiN,tF,⟨.other,1,8,(.pointer .none),true⟩,tiN,tiN,⟨.ptr 357,1,8,(.pointer .none),true⟩,⟨.other,1,0,(.tuple #[.int .i64 0,.int .i64 0]),true⟩,tiN,tiN,tiN,tiN,tiN,tiN,tiN,tiN,tiN]
def Aal:List TI:=[tiN,tiN,tiN,tiN,tiN,tiN,tiN,tiN,tiN,⟨.map 9 343,1,8,(.map .none),true⟩,tiN,tiN,tF,tiN,⟨.array 32 5,32,32,(.agg (Array.replicate 32 (.int .u8 0))),true⟩,⟨.array 64 5,64,64,(.agg (Array.replicate 64 (.int .u8 0))),true⟩]
def Aam:List TI:=[tiN,tiN,tiN,tiN,⟨.slice 51,1,24,(.slice .none 0 0),true⟩,⟨.map 3 3,1,8,(.map .none),true⟩,tiN,tiN,tiN,⟨.other,1,0,(.tuple #[.int .i32 0,.int .i64 0]),true⟩,tiN,tiN,tiN,tiN,tiN,tiN]
def Aan:List TI:=[tiN,tiN,tiN,tiN,tiN,tiN,tiN,tiN,tiN,tiN,⟨.array 256 5,256,256,(.agg (((List.replicate 64 (.int .u8 0)).append (List.replicate 64 (.int .u8 0))).append ((List.replicate 64 (.int .u8 0)).append (List.replicate 64 (.int .u8 0)))).toArray),true⟩,tiN,⟨.struct [(5,0),(5,1)],2,2,(.agg #[.int .u8 0,.int .u8 0]),true⟩,⟨.array 16 444,32,32,(.agg (Array.replicate 32 (.int .u8 0))),true⟩,tiN,tiN]
def Aao:List TI:=[tiN,tiN,tiN,⟨.struct [(17,0),(17,1),(17,2),(9,3)],4,40,(.agg #[.pointer .none,.pointer .none,.pointer .none,.string ⟨#[]⟩]),false⟩,tiN,tiN,⟨.other,0,0,(.agg #[]),false⟩,⟨.int .u8,1,1,(.int .u8 0),true⟩,⟨.int .u8,1,1,(.int .u8 0),true⟩,tF,⟨.int .i32,1,4,(.int .i32 0),true⟩,⟨.int .i32,1,4,(.int .i32 0),true⟩,tiN,⟨.struct [(12,0),(12,1),(229,2),(455,3),(5,4),(5,5),(456,6),(457,7),(348,8),(458,9),(459,10)],11,48,(.agg #[.int .u64 0,.int .u64 0,.int .u32 0,.int .u8 0,.int .u8 0,.int .u8 0,.int .u8 0,.nilFunc,.pointer .none,.int .i32 0,.int .i32 0]),false⟩,tiN,⟨.slice 477,1,24,(.slice .none 0 0),true⟩]
def Aap:List TI:=[⟨.slice 467,1,24,(.slice .none 0 0),true⟩,⟨.slice 479,1,24,(.slice .none 0 0),true⟩,tiN,⟨.struct [(3,0),(9,1),(9,2),(464,3),(465,4)],5,88,(.agg #[.int .i64 0,.string ⟨#[]⟩,.string ⟨#[]⟩,.slice .none 0 0,.slice .none 0 0]),true⟩,tiN,⟨.struct [(9,0),(463,1),(467,2),(467,7)],12,216,(.agg #[.string ⟨#[]⟩,.slice .none 0 0,.int .i64 0,.string ⟨#[]⟩,.string ⟨#[]⟩,.slice .none 0 0,.slice .none 0 0,.int .i64 0,.string ⟨#[]⟩,.string ⟨#[]⟩,.slice .none 0 0,.slice .none 0 0]),true⟩,tiN,⟨.struct [(9,0),(463,1),(467,2)],7,128,(.agg #[.string ⟨#[]⟩,.slice .none 0 0,.int .i64 0,.string ⟨#[]⟩,.string ⟨#[]⟩,.slice .none 0 0,.slice .none 0 0]),true⟩,tiN,⟨.struct [(9,0),(9,1),(9,2)],3,48,(.agg #[.string ⟨#[]⟩,.string ⟨#[]⟩,.string ⟨#[]⟩]),true⟩,tiN,⟨.struct [(9,0),(9,1)],2,32,(.agg #[.string ⟨#[]⟩,.string ⟨#[]⟩]),true⟩,tiN,⟨.struct [(9,0),(3,1),(467,2)],7,112,(.agg #[.string ⟨#[]⟩,.int .i64 0,.int .i64 0,.string ⟨#[]⟩,.string ⟨#[]⟩,.slice .none 0 0,.slice .none 0 0]),true⟩,tiN,⟨.struct [(9,0),(467,1),(4,6)],7,112,(.agg #[.string ⟨#[]⟩,.int .i64 0,.string ⟨#[]⟩,.string ⟨#[]⟩,.slice .none 0 0,.slice .none 0 0,.bool .false]),true⟩]
def tbl:List (List TI):=[AeG,AeH,AeI,AeJ,AeK,AeL,AeM,AeN,AeO,AeP,Aa6,Aa7,Aa8,Aa9,Aaa,Aab,Aac,Aad,Aae,Aaf,Aag,Aah,Aai,Aaj,Aak,Aal,Aam,Aan,Aao,Aap]
def sq:Ha:=fun t => od dTI (od [] tbl (t / 16)) (t % 16)
def usedT:List Nat:=[0,1,2,3,4,5,6,7,8,9,10,11,12,13,14,15,16,17,18,19,20,21,22,23,24,25,26,27,28,29,30,31,32,33,34,35,36,37,38,39,40,41,42,43,46,48,50,51,52,54,55,58,60,61,62,64,65,68,72,74,78,83,92,95,98,99,102,105,115,118,119,127,130,136,137,139,140,142,147,148,149,151,156,158,164,177,178,179,180,182,185,186,191,201,202,206,209,211,212,214,216,217,218,219,220,221,223,229,230,232,233,251,256,259,266,268,271,274,275,282,283,285,292,295,297,299,302,303,308,311,315,316,324,333,337,343,344,348,349,351,355,356,357,361,366,370,377,385,386,389,390,409,412,414,415,420,421,425,442,444,445,451,454,455,456,457,458,459,461,463,464,465,467,469,471,473,475,477,479]
def restT:List Nat:=(List.range 480).filter fun t => !usedT.contains t
theorem pj:usedT.map sq = usedT.map (kZ Tryz.prog):=by kernel_rfl
theorem tab_rest:restT.map sq = restT.map fun _ => dTI:=by kernel_rfl
theorem gV{α:Type}(d:α):∀(l:List α) (n:Nat),l.length <= n->od d l n = d
 | [],_,_ => rfl
 |_::_,0,h => by simp at h
 |_::r,n + 1,h => gV d r n (by simpa using h)
theorem C3:CM Tryz.prog sq:=by
 intro t
 by_cases h:t<480
 .by_cases u:t∈usedT
  .exact .inr (List.map_inj_left.1 pj t u)
  .exact .inl (List.map_inj_left.1 tab_rest t (Br.2 ⟨Gx.2 h,by simpa using u⟩))
 .have h1:od ([]:List TI) tbl (t / 16) = []:=gV _ _ _ (by show 30 <= t / 16;omega)
  have h2:sq t = dTI:=by unfold sq;rw[h1];rfl
  exact .inl h2
end Go.Eng
namespace Go.Eng
variable {args:List AV}{f:Nat}(vals:List Value)
section
variable {P:Program}
theorem js {fn:Func}{c:Code}(hf:P.funcs[f]? = some fn)(hn:(fn.name == "runtime.NumGoroutine") = false)(hb:fn.body = some c):F3 P f:=⟨fn, hf, hn, by simp [hb]⟩
theorem KK{res:AV}(v:Value)(hE:F3 P f)(ha:args=vals.map .v)(nl:∀g w,BU g w FB res v)(h:∀w,(∃m,w.cell? ⟨gB,0,none⟩=some (.int .i64 m))->Calls P f vals.toArray w fun e w'=>e=.returned v/\w'=w):Jp P f args res:=by
 refine⟨hE,fun g w us hs hv hI=>?_⟩;have hu:us=vals.toArray:=by
  subst ha;rw[A7]at hs;refine PE (by simpa using hs) fun i h1 h2=>?_
  have:=hv i (.v (vals[i]'(by simpa using h2))) us[i] (by rw[AG,AD (by simpa using h2)];rfl) (by rw[A6 h1])
  rw[this.v_eq];simp
 subst hu;refine(h w hI.glob.1.2).mono ?_
 rintro e w' ⟨rfl,rfl⟩
 exact⟨v,res,Ag,g,rfl,⟨rfl,rfl⟩,(nl g _).up _,hI,.refl _ _ _⟩
theorem oO{g:Gh}{w:World}:∀(vs:List Value),BU g w FB (.tup (vs.map .v)) (.tuple vs.toArray):=fun vs=>
 .tup _ _ _ B0 fun i av x h1 h2=>by
  rw[AG,AX]at h1;obtain⟨a,e1,rfl⟩:=h1
  have:vs[i]?=some x:=by simpa using h2
  rw[e1]at this;cases this;exact .v _ _
theorem kw(es:List Value)(T:TypeId)(hE:F3 P f)(ha:args=vals.map .v)(h1:∀x∈es,x.oneCell'=true)(h:∀w,(∃m,w.cell? ⟨gB,0,none⟩=some (.int .i64 m))->Calls P f vals.toArray w fun e w'=>e=.returned (.slice (some ⟨w.heap.size,0,none⟩) es.length es.length)/\w'=w.alloc (.cells es.toArray T)) :
  Jp P f args (.slice .none (es.map fun x=>[.v x])):=by
 refine⟨hE,fun g w us hs hv hI=>?_⟩;have hu:us=vals.toArray:=by
  subst ha;rw[A7]at hs;refine PE (by simpa using hs) fun i h1 h2=>?_
  have:=hv i (.v (vals[i]'(by simpa using h2))) us[i] (by rw[AG,AD (by simpa using h2)];rfl) (by rw[A6 h1])
  rw[this.v_eq];simp
 subst hu;refine(h w hI.glob.1.2).mono ?_
 rintro e w' ⟨rfl,rfl⟩
 have ED:(w.alloc (.cells es.toArray T)).heap[w.heap.size]?=some (.cells es.toArray T (0,0)):=G0 w _ rfl;have RL:∀b,b<w.heap.size->(w.alloc (.cells es.toArray T)).heap[b]?=w.heap[b]?:=fun b hb=>heap_alloc_old _ _ hb;have hK:EO g w ⟨g.ρ,g.ln,g.tk,g.own,g.more w.heap.size es.length⟩ (w.alloc (.cells es.toArray T)):=fun b o hb=>by
  have DF:=hI.slt b o hb;exact⟨.inl hb,by simp only[World.cell?,RL b DF],fun es ck he=>(RL b DF).trans he⟩
 refine⟨_,_,Ag,⟨g.ρ,g.ln,g.tk,g.own,g.more w.heap.size es.length⟩,rfl,⟨rfl,rfl⟩,?_,⟨rfl,rfl,rfl,?_,fun b hb _=>RL b hb,fun b o hs=>?_,fun _=>trivial,fun _ _ _ h=>h.elim,fun _ _ h=>h.elim,fun b o hs=>?_,hI.glob.keep hK⟩,⟨.refl _ _,fun _ h=>h,hK⟩⟩
 .have hr:CW ⟨g.ρ,g.ln,g.tk,g.own,g.more w.heap.size es.length⟩ (w.alloc (.cells es.toArray T)) FB (es.map fun x=>[AV.v x]).flatten (es.toArray.toList.take ((es.map fun x=>[AV.v x]).length*1)):=by
   have hfl:∀l:List Value,(l.map fun x=>[AV.v x]).flatten=l.map .v:=fun l=>by
    induction l with
    |nil=>rfl
    |cons a l ih=>rw[AJ,BE,ih];rfl
   rw[hfl];simp only[A7,Nat.mul_one,Ce];refine⟨by simp,fun x hx=>h1 x (by simpa using hx),fun i av x q1 q2=>?_⟩;rw[AG,AX]at q1;obtain⟨a,e1,rfl⟩:=q1;rw[e1]at q2;cases q2;exact .v _ _
  have:=BU.slice_row (U:=AR Ag) (cap:=es.length) (sz:=1) (es:=es.map fun x=>[AV.v x]) ED (fun cs hcs=>by
   obtain⟨x,_,rfl⟩:=Ai.1 hcs;rfl) B0 hr (fun o ho=>.inr ⟨rfl,by simpa using ho⟩)
  simpa using this
 .rw[World.size_alloc];omega
 .rw[World.size_alloc];rcases hs with hs|⟨rfl,_⟩
  .have:=hI.slt b o hs;omega
  .omega
 .rcases hs with hs|⟨rfl,_⟩
  .exact .inl hs
  .exact .inr (.inl (Am _))
end
end Go.Eng
namespace Go.Eng
open Go.Sort
section
variable {P:Program}
theorem ON(F c:Array Value)(h:F.size<=c.size):(putCells id 0 F c).toList.take F.size=F.toList/\(putCells id 0 F c).size=c.size:=by
 have hs:(putCells id 0 F c).size=c.size:=by simp[putCells]
 refine⟨?_,hs⟩;apply Dz;intro i;rw[KV,A5,A5]
 by_cases hi:i<F.size
 .rw[Ap hi];have hi2:i<c.size:=by omega
  simp only[putCells,Array.getElem?_mapIdx,A6 hi2,A6 hi,Ix,AB,true_and,Bb,hi,SV,Nat.sub_zero,id_eq];rw[DY F i hi]
 .rw[Aj hi,Ww ch]
theorem U8(r:Nat)(o o' : HO):A3 (As [(r,o)] Ag) r o'=As [(r,o')] Ag:=by
 funext i
 by_cases e:i=r
 .subst e;rw[Bi];simp[As]
 .rw[Cg _ _ _ _ e];simp[As,Dd e]
theorem Rv{f:Nat}{es:List (List AV)}{sz:Nat}{rest:List Value}{Q:List (List AV)->Prop}(hE:F3 P f)
  (h0:es=[]->Q []/\∀w,Calls P f (#[.slice none 0 0]++rest.toArray) w fun e w'=>e=.returned (.tuple #[])/\w'=w)
  (h1:∀(g:Gh) (w:World) (b cap:Nat) (F:Array Value),CW g w FB es.flatten F.toList->F.size=es.length*sz->Holds id w b 0 F->b<w.heap.size->Calls P f (#[.slice (some ⟨b,0,none⟩) es.length cap]++rest.toArray) w fun e w'=>
   e=.returned (.tuple #[])/\∃(F' : Array Value) (F2:List (List AV)) (n:Nat) (os:Array Obj),F'.size=F.size/\Q F2/\F2.length=es.length/\(∀cs∈F2,cs.length=sz) /\
    (∀(g:Gh) (w:World),CW g w FB es.flatten F.toList->CW g w FB F2.flatten F'.toList)/\w'=grow (putRow id (Sort.ahead w n) b 0 F') os) :
  A9 P f (.msl 1000 es.length::rest.map .v) (As [(1000,.arr sz es)] Ag) fun r h'=>r=.tup []/\∃F2,Q F2/\h'=As [(1000,.arr sz F2)] Ag:=by
 refine⟨hE,fun g w us hs hv hI=>?_⟩;have ho:=hI.objs 1000;have he:As [(1000,HO.arr sz es)] Ag 1000=.arr sz es:=rfl;rw[he]at ho;obtain⟨t1,l1,al,a2⟩:=ho;simp only[Al,A7]at hs
 -- the arguments
 have hu0:0<us.size:=by omega
 have xI:=hv 0 (.msl 1000 es.length) us[0] rfl (A6 hu0);have hval:us[0]=g.ρ 1000:=by
  generalize us[0]=x at xI;cases xI with
  |msl _ r n a cap hu ht hn ha hx=>exact hx l1.symm
 have LF:us=#[g.ρ 1000]++rest.toArray:=by
  refine PE (by simp;omega) fun i h1 h2=>?_;cases i with
  |zero=>rw[hval];simp
  |succ i=>
   have hi:i<rest.length:=by omega
   have:=hv (i+1) (.v rest[i]) us[i+1] (by simp[List.getElem?_eq_getElem hi]) (A6 h1)
   rw[this.v_eq];simp
 rw[LF];rcases a2 with ⟨b1,b2,b3⟩|⟨b,cap,E,vs,b1,b2,b3,b4,b5,b6,b7⟩
 .subst b1;obtain⟨q,h0⟩:=h0 rfl;rw[b2];refine(h0 w).mono ?_
  rintro e w' ⟨rfl,rfl⟩
  exact⟨_,.tup [],_,g,rfl,⟨rfl,[],q,rfl⟩,.tup _ _ _ rfl (fun i av x h=>by simp at h),hI,.refl _ _ _⟩
 .have hl:(As [(1000,HO.arr sz es)] Ag 1000).live:=trivial;have DF:=(hI.loc 1000 b hl b2).1;have Is:es.length*sz<=vs.size:=by rw[b5];exact Bf _ b3
  have hF:((vs.toList.take (es.length*sz)).toArray).size=es.length*sz:=by simp;omega
  have hH:Holds id w b 0 (vs.toList.take (es.length*sz)).toArray:=fun j hj=>by
   have hj:j<es.length*sz:=by rw[hF]at hj;exact hj
   refine⟨?_,?_⟩
   .have zh:j<vs.size:=by omega
    simp only[World.cell?,b4,Bb,PN,Dr,Gz];rw[A6 zh,DY _ j (by rw[hF];exact hj)];simp
   .simp[World.frozen?,b4]
  rw[b1];refine(h1 g w b cap _ (by simpa using b6) hF hH DF).mono ?_
  rintro e w' ⟨rfl,F',F2,n,os,f1,f2,f3,f4,f5,rfl⟩
  have xy:F'.size=es.length*sz:=f1.trans hF;have zz:=ON F' vs ch;have lp:(grow (putRow id (Sort.ahead w n) b 0 F') os).heap[b]?=some (.cells (putCells id 0 F' vs) E (0,0)):=by
   rw[heap_grow_old _ _ (by rw[size_putRow];exact DF)];show(w.heap.modify b (onCells (putCells id 0 F')))[b]?=_;rw[Array.getElem?_modify,Ap rfl,b4];rfl
  have zr:∀k,k<w.heap.size->k≠b->(grow (putRow id (Sort.ahead w n) b 0 F') os).heap[k]?=w.heap[k]?:=fun k hk DJ=>by
   rw[heap_grow_old _ _ (by rw[size_putRow];exact hk)];simp[putRow,mapBlock,Array.getElem?_modify,Ne.symm DJ]
  have ES:w.heap.size<=(grow (putRow id (Sort.ahead w n) b 0 F') os).heap.size:=by rw[size_grow,size_putRow];show w.heap.size<=w.heap.size+_;omega
  obtain⟨k1,k2⟩:=hI.upd 1000 (.arr sz F2) (g.ρ 1000) (g.ln 1000) (g.tk 1000) (g.own 1000) g.S (grow (putRow id (Sort.ahead w n) b 0 F') os) (some b) ⟨rfl,rfl,rfl,ES⟩
   (fun k hk DJ=>zr k hk (fun e=>DJ (by rw[e]))) (fun b' e=>by cases e;exact⟨hl,b2⟩) (fun _ _ h=>h) (fun _ _ h=>.inl h) (fun b' o e hs=>by cases e;exact absurd hs (b7 o))
   (fun b' _ e=>by rw[b2]at e;cases e;exact⟨BC DF ES,.inl ⟨hl,b2⟩⟩) B0 (fun _=>⟨rfl,Am _,fun _=>rfl,fun _=>rfl⟩) (fun hg hk=>by
    refine⟨by simp[Gh.upd,t1],by simp[Gh.upd,l1,f3],f4,.inr ⟨b,cap,E,_,by simp[Gh.upd,b1,f3],by simp[Gh.upd,b2],by omega,lp,by rw[zz.2,b5],?_,b7⟩⟩
    have:=f5 g w (by simpa using b6)
    rw[f3,<-xy,zz.1];exact this.mono hk (fun _ h=>h) (fun _ h=>h.elim))
  rw[U8]at k1 k2;exact⟨_,.tup [],_,_,rfl,⟨rfl,F2,f2,rfl⟩,.tup _ _ _ rfl (fun i av x h=>by simp at h),k1,k2⟩
end
end Go.Eng
namespace Go.Eng
open Go.Sort Go.Proofs
variable {α β:Type}{k:Nat}
theorem Tj{g:Gh}{w:World}{U:Nat->Prop}{cs dI:List AV}{vs lx:List Value}(h:vs.length=cs.length):CW g w U (cs++dI) (vs++lx)↔CW g w U cs vs/\CW g w U dI lx:=by
 constructor
 .intro⟨h1,h2,h3⟩;refine⟨⟨h,fun x hx=>h2 x (By _ hx),fun i av x q1 q2=>?_⟩,⟨by simp at h1;omega,fun x hx=>h2 x (Bo _ hx),fun i av x q1 q2=>?_⟩⟩
  .have a1:=(Aw.1 q1).1;have a2:=(Aw.1 q2).1;exact h3 i av x (by rw[AT a1];exact q1) (by rw[AT a2];exact q2)
  .exact h3 (cs.length+i) av x (by rw[A2 ch,HE];exact q1) (by rw[A2 ch,h,HE];exact q2)
 .intro⟨⟨h1,h2,h3⟩,k1,k2,k3⟩;refine⟨by simp[h1,k1],fun x hx=>(AN.1 hx).elim (h2 x) (k2 x),fun i av x q1 q2=>?_⟩
  by_cases hi:i<cs.length
  .rw[AT hi]at q1;rw[AT ch]at q2;exact h3 i av x q1 q2
  .rw[A2 ch]at q1;rw[A2 ch]at q2;rw[h]at q2;exact k3 _ av x q1 q2
theorem Sd{α β:Type}{g:Gh}{w:World}{U:Nat->Prop}{JN:β->List AV}{enc:α->List Value}(hl:∀x y,(enc x).length=(JN y).length):∀ps:List (β×α),
  CW g w U (ps.map fun p=>JN p.1).flatten (ps.map fun p=>enc p.2).flatten↔∀p∈ps,CW g w U (JN p.1) (enc p.2)
 | []=>by simp[CW]
 |p::ps=>by
  simp only[AJ,BE];rw[Tj (hl _ _),Sd hl ps];simp
theorem Lk{f:α->β}:∀{m m' : List β},m.Perm m'->∀ps:List α,ps.map f=m->∃oM:List α,oM.Perm ps/\oM.map f=m':=by
 intro m m' h
 induction h with
 |nil=>intro ps e;exact⟨ps,.refl _,e⟩
 |cons x h ih=>
  intro ps e;cases ps with
  |nil=>cases e
  |cons p ps=>
   rw[AJ]at e
   injection e with e1 e2
   obtain⟨oM,h1,h2⟩:=ih ps e2;exact⟨p::oM,h1.cons p,by rw[AJ,e1,h2]⟩
 |swap x y l=>
  intro ps e
  match ps,e with
  |p::q::ps,e=>
   simp only[AJ,Fi]at e;exact⟨q::p::ps,List.Perm.swap _ _ _,by simp[e.1,e.2.1,e.2.2]⟩
 |trans h1 h2 ih1 ih2=>
  intro ps e;obtain⟨ps1,p1,p2⟩:=ih1 ps e;obtain⟨ps2,q1,q2⟩:=ih2 ps1 p2;exact⟨ps2,q1.trans p1,q2⟩
theorem UU[Inhabited α]{enc:α->List Value}(hk:∀x,(enc x).length=k)(d:Array α):(flatK enc k d).toList=(d.toList.map enc).flatten:=by
 have hl:∀cs∈d.toList.map enc,cs.length=k:=fun cs hcs=>by
  obtain⟨x,_,rfl⟩:=Ai.1 hcs;exact hk x
 have CH:(d.toList.map enc).flatten.length=d.size*k:=by
  have:∀l:List α,(l.map enc).flatten.length=l.length*k:=fun l=>by
   induction l with
   |nil=>simp
   |cons a l ih=>simp[hk,Nat.succ_mul,ih];omega
  rw[this];simp
 apply Dz;intro t
 by_cases ht:t<d.size*k
 .have k0:0<k:=Nat.pos_of_ne_zero fun h=>by subst h;simp at ht
  have h1:t / k<d.size:=by rw[MQ k0];exact ht
  have h2:t % k<k:=Nat.mod_lt _ k0;have e:t=t / k*k+t % k:=by rw[Nat.mul_comm];exact(Xa t k).symm
  rw[A5,A6 (by simpa using ht),<-DY _ t (by simpa using ht),get_flatK _ _ _ _ ht];have hg:(d.toList.map enc)[t / k]?=some (enc d[t / k]!):=by
   rw[AG,A5,A6 h1,DY d _ h1];rfl
  have:=FG hl hg h2
  rw[e,this,<-e];rw[AD (by rw[hk];exact h2),DY _ _ (by rw[hk];exact h2)]
 .rw[A8 (by simp;omega),A8 ch]
theorem iN{α β:Type}:∀{l:List α} {m:List β},l.length=m.length->(l.zip m).map (·.1)=l/\(l.zip m).map (·.2)=m
 | [],[],_=>⟨rfl,rfl⟩
 |a::l,b::m,h=>by
  have:=iN (l:=l) (m:=m) (by simpa using h)
  simp[this.1,this.2]
section
variable {P:Program}
theorem Kt[Inhabited α]{f:Nat}{rest:List Value}(hE:F3 P f)(JN:β->List AV)(enc:α->List Value)(hB:∀x,(JN x).length=k)(hk:∀x,(enc x).length=k)(lt:α->α->Bool)(R:β->α->Prop)(l:List β)(hl:l.length<4611686018427387904)(hR:∀x∈l,∀(g:Gh) (w:World) (vs:List Value),CW g w FB (JN x) vs->∃a,enc a=vs/\R x a)(Ck:∀(w:World) (b cap:Nat) (d:Array α),HoldsK enc k w b 0 d->b<w.heap.size->d.size<4611686018427387904->d.size=l.length->Calls P f (#[.slice (some ⟨b,0,none⟩) d.size cap]++rest.toArray) w fun e w'=>
   e=.returned (.tuple #[])/\∃d' n os,PermIn 0 d.size d d'/\SortedIn lt 0 d.size d'/\w'=sortWorldK enc k w b 0 n d' os)(zq:l=[]->∀w:World,Calls P f (#[.slice none 0 0]++rest.toArray) w fun e w'=>e=.returned (.tuple #[])/\w'=w) :
  A9 P f (.msl 1000 l.length::rest.map .v) (As [(1000,.arr k (l.map JN))] Ag) fun r h'=>
   r=.tup []/\∃l' : List β,l'.Perm l/\(∃al:List α,al.length=l'.length/\(∀(i:Nat) (x:β) (a:α),l'[i]?=some x->al[i]?=some a->R x a)/\al.Pairwise (fun x y=>lt y x=false))/\h'=As [(1000,.arr k (l'.map JN))] Ag:=by
 have Ig:=Rv (P:=P) (f:=f) (es:=l.map JN) (sz:=k) (rest:=rest)
  (Q:=fun F2=>∃l' : List β,l'.Perm l/\(∃al:List α,al.length=l'.length/\(∀(i:Nat) (x:β) (a:α),l'[i]?=some x->al[i]?=some a->R x a)/\al.Pairwise (fun x y=>lt y x=false))/\F2=l'.map JN) hE ?_ ?_
 .rw[A7]at Ig;refine⟨hE,fun g w vals q1 q2 q3=>(Ig.2 g w vals q1 q2 q3).mono fun _ _ ⟨v,r,h',g',e1,⟨e2,F2,⟨l',p1,p2,p3⟩,p4⟩,rest⟩=>⟨v,r,h',g',e1,⟨e2,l',p1,p2,by rw[p4,p3]⟩,rest⟩⟩
 .intro e
  have:l=[]:=by simpa using e
  subst this;exact⟨⟨[],.refl _,⟨[],rfl,fun i x a h=>by simp at h,.nil⟩,rfl⟩,zq rfl⟩
 .intro g w b cap F hr hF hH hb
  -- the elements in memory
  have vG:∀(m:List β) (vs:List Value),(∀x∈m,x∈l)->CW g w FB (m.map JN).flatten vs->∃al:List α,al.length=m.length/\vs=(al.map enc).flatten/\∀(i:Nat) (x:β) (a:α),m[i]?=some x->al[i]?=some a->R x a:=by
   intro m
   induction m with
   |nil=>
    intro vs _ h
    have:vs=[]:=AQ (by simpa using h.1)
    subst this;exact⟨[],rfl,rfl,fun i x a h=>by simp at h⟩
   |cons x m ih=>
    intro vs hm h;rw[AJ,BE]at h;have CH:=h.1;rw[Ac,hB]at CH;have e:vs=vs.take k++vs.drop k:=(GD k vs).symm;rw[e]at h;rw[Tj (by rw[Ax,hB];omega)]at h;obtain⟨a,a1,a2⟩:=hR x (hm x (Ab ..)) g w _ h.1;obtain⟨al,b1,b2,b3⟩:=ih _ (fun y hy=>hm y (Ah _ hy)) h.2;refine⟨a::al,by simp[b1],by rw[AJ,BE,a1,<-b2,<-e],fun i y c q1 q2=>?_⟩;cases i with
    |zero=>simp only[Bd,BB]at q1 q2;subst q1;subst q2;exact a2
    |succ i=>exact b3 i y c (by simpa using q1) (by simpa using q2)
  obtain⟨al,s1,s2,s3⟩:=vG l F.toList (fun _ h=>h) hr;have hFd:F=flatK enc k al.toArray:=JG.1 (by rw[UU hk,s2]);have hd:HoldsK enc k w b 0 al.toArray:=by unfold HoldsK;rw[<-hFd];exact hH
  have hc:=Ck w b cap al.toArray hd hb (by simpa[s1]using hl) (by simp[s1]);have ES:al.toArray.size=(l.map JN).length:=by simp[s1]
  rw[ES]at hc;refine hc.mono ?_
  rintro e w' ⟨rfl,d',n,os,p1,p2,rfl⟩
  obtain⟨z1,z2⟩:=iN s1.symm;obtain⟨ns,_,JZ⟩:=p1;have ns:d'.size=al.length:=by rw[ns];simp
  have e1:d'.extract 0 (l.map JN).length=d':=by rw[show(l.map JN).length=d'.size by rw[ns];simp[s1]];exact Array.extract_size
  have e2:al.toArray.extract 0 (l.map JN).length=al.toArray:=by rw[<-ES];exact Array.extract_size
  rw[e1,e2]at JZ;have JZ:al.Perm d'.toList:=by
   first
   |exact JZ.symm
   |exact JZ
   |(have:=JZ.symm;simpa using this)
  obtain⟨oM,r1,r2⟩:=Lk JZ (l.zip al) z2;have rel:∀p∈l.zip al,R p.1 p.2:=fun p hp=>by
   obtain⟨i,hi⟩:=Ct.1 hp;rw[List.getElem?_zip_eq_some]at hi;exact s3 i _ _ hi.1 hi.2
  refine⟨rfl,flatK enc k d',(oM.map (·.1)).map JN,n,os,by rw[size_flatK,ns,hF];simp[s1],⟨oM.map (·.1),?_,⟨d'.toList,by rw[<-r2];simp,fun i x a q1 q2=>?_,?_⟩,rfl⟩,by have:=r1.length_eq;simp[this,s1],fun cs hcs=>?_,fun g w hr=>?_,?_⟩
  .have:=r1.map (·.1);rw[z1]at this;exact this
  .rw[<-r2]at q2;rw[AG,AX]at q1 q2;obtain⟨p,q1,rfl⟩:=q1;obtain⟨p',q2,rfl⟩:=q2;rw[q1]at q2;cases q2;exact rel p (r1.mem_iff.1 (Az q1))
  .rw[AU];intro i j hi hj QC;have Nb:i<d'.size:=by simpa using hi
   have vl:j<d'.size:=by simpa using hj
   have:=p2 i j (AB _) QC (by rw[ns]at vl;simp[s1]at vl⊢;omega)
   rw[DY d' j vl,DY d' i Nb]at this;simpa using this
  .obtain⟨x,_,rfl⟩:=Ai.1 hcs;exact hB x
  .have h1:CW g w FB ((l.zip al).map fun p=>JN p.1).flatten ((l.zip al).map fun p=>enc p.2).flatten:=by
    have a1:(l.zip al).map (fun p=>JN p.1)=l.map JN:=by
     have:(l.zip al).map (fun p=>JN p.1)=((l.zip al).map (·.1)).map JN:=by rw[Bq];rfl
     rw[this,z1]
    have a2:(l.zip al).map (fun p=>enc p.2)=al.map enc:=by
     have:(l.zip al).map (fun p=>enc p.2)=((l.zip al).map (·.2)).map enc:=by rw[Bq];rfl
     rw[this,z2]
    rw[a1,a2,<-s2];exact hr
   have CH:∀(x:α) (y:β),(enc x).length=(JN y).length:=fun x y=>by rw[hk,hB]
   rw[Sd CH]at h1;have h2:=(Sd (g:=g) (w:=w) (U:=FB) CH oM).2 fun p hp=>h1 p (r1.mem_iff.1 hp);have b1:(oM.map (·.1)).map JN=oM.map fun p=>JN p.1:=by rw[Bq];rfl
   have b2:(flatK enc k d').toList=(oM.map fun p=>enc p.2).flatten:=by
    rw[UU hk,<-r2,Bq];rfl
   rw[b1,b2];exact h2
  .rfl
end
end Go.Eng
namespace Go.Eng
section
variable {P:Program}
theorem Cz{f:Nat}{fn:Func}{c:Code}{args:List AV}{H0:List (Nat×HO)}{Q:AV->(Nat->HO)->Prop}(cx:Cx)(σ:J6)(hP:cx.P=P)(hT:CM P cx.T)(hm:P.follows .mixedOrders=true)(hx:cx.ext=true)(hf:P.funcs[f]?=some fn)
  (hn:(fn.name == "runtime.NumGoroutine") = false) (hb:fn.body = some c) (hN:args.length <= fn.ntmps) (hc:ER fn.ntmps c = true) (hσ:(Hv σ && Jw σ H0) = true)
  (hk:Tw cx c (aM cx fn.results.toList σ fun r h'=>∃r',CX r r'/\Q r' h') ⟨Qh args,As H0 Ag⟩) (hY:∀l σ g w,cx.yp l σ g w:=by exact fun _ _ _ _=>trivial):A9 P f args (As H0 Ag) Q:=
 (mL cx σ hP hT hm hx hf hn hb hN hc hσ hk hY).mono fun _ _ ⟨r',s,q⟩=>⟨r',s,q⟩
end
end Go.Eng
namespace Go.Eng
open Go.Sort
theorem CW.append{g:Gh}{w:World}{U:Nat->Prop}{WE bs:List AV}{xs ys:List Value}(h:CW g w U WE xs)(k:CW g w U bs ys):CW g w U (WE++bs) (xs++ys):=by
 refine⟨by rw[Ac,Ac,h.1,k.1],fun x hx=>?_,fun i av x q1 q2=>?_⟩
 .rcases AN.1 hx with hx|hx
  .exact h.2.1 x hx
  .exact k.2.1 x hx
 .have hl:=h.1
  by_cases hi:i<WE.length
  .rw[AT hi]at q1;rw[AT ch]at q2;exact h.2.2 i av x q1 q2
  .rw[A2 ch]at q1;rw[A2 ch,hl]at q2;exact k.2.2 _ av x q1 q2
theorem CW.take{g:Gh}{w:World}{U:Nat->Prop}{WE:List AV}{xs:List Value}(h:CW g w U WE xs)(k:Nat):CW g w U (WE.take k) (xs.take k):=by
 refine⟨by rw[Ax,Ax,h.1],fun x hx=>h.2.1 x (Df hx),fun i av x q1 q2=>?_⟩;rw[KV]at q1 q2;split at q1
 .rename_i hi;rw[Ap hi]at q2;exact h.2.2 i av x q1 q2
 .cases q1
theorem CW.drop{g:Gh}{w:World}{U:Nat->Prop}{WE:List AV}{xs:List Value}(h:CW g w U WE xs)(k:Nat):CW g w U (WE.drop k) (xs.drop k):=by
 refine⟨by rw[Di,Di,h.1],fun x hx=>h.2.1 x (Jo hx),fun i av x q1 q2=>?_⟩;rw[DX]at q1 q2;exact h.2.2 _ av x q1 q2
theorem Mt{α:Type}{k:Nat}:∀(es:List (List α)) (i:Nat),(∀e∈es,e.length=k)->es.flatten.take (i*k)=(es.take i).flatten
 | [],i,_=>by simp
 |e::es,0,_=>by simp
 |e::es,i+1,h=>by
  have he:=h e (Ab ..);rw[BE,J5,BE,List.take_append,<-Mt es i fun x hx=>h x (Ah _ hx),Av (by rw[he,Ec];omega),he,show(i+1)*k-k=i*k by rw[Ec];omega]
theorem Qs{α:Type}{k:Nat}:∀(es:List (List α)) (i:Nat),(∀e∈es,e.length=k)->es.flatten.drop (i*k)=(es.drop i).flatten
 | [],i,_=>by simp
 |e::es,0,_=>by simp
 |e::es,i+1,h=>by
  have he:=h e (Ab ..);rw[BE,List.drop_succ_cons,List.drop_append,<-Qs es i fun x hx=>h x (Ah _ hx),CA (by rw[he,Ec];omega),he,show(i+1)*k-k=i*k by rw[Ec];omega,FY]
section
variable {P:Program}
theorem Xe{f:Nat}{es:List (List AV)}{sz:Nat}{rest:List Value}{n' : Nat}{Q:List (List AV)->Prop}(hE:F3 P f)(DJ:es≠[])(bw:n'<=es.length)
  (h1:∀(g:Gh) (w:World) (b cap:Nat) (F:Array Value),CW g w FB es.flatten F.toList->F.size=es.length*sz->Holds id w b 0 F->b<w.heap.size->es.length<=cap->Calls P f (#[.slice (some ⟨b,0,none⟩) es.length cap]++rest.toArray) w fun e w'=>
   e=.returned (.slice (some ⟨b,0,none⟩) n' cap)/\∃(F' : Array Value) (F2:List (List AV)) (n:Nat) (os:Array Obj),F'.size=F.size/\Q F2/\F2.length=es.length/\(∀cs∈F2,cs.length=sz) /\
    (∀(g:Gh) (w:World),CW g w FB es.flatten F.toList->CW g w FB F2.flatten F'.toList)/\w'=grow (putRow id (Sort.ahead w n) b 0 F') os) :
  A9 P f (.msl 1000 es.length::rest.map .v) (As [(1000,.arr sz es)] Ag) fun r h'=>r=.msl 2000 n'/\∃F2,Q F2/\h'=As [(1000,.dead),(2000,.arr sz (F2.take n'))] Ag:=by
 refine⟨hE,fun g w us hs hv hI=>?_⟩;have ho:=hI.objs 1000;have he:As [(1000,HO.arr sz es)] Ag 1000=.arr sz es:=rfl;rw[he]at ho;obtain⟨t1,l1,al,a2⟩:=ho;simp only[Al,A7]at hs;have hu0:0<us.size:=by omega
 have xI:=hv 0 (.msl 1000 es.length) us[0] rfl (A6 hu0);have hval:us[0]=g.ρ 1000:=by
  generalize us[0]=x at xI;cases xI with
  |msl _ r n a cap hu ht hn ha hx=>exact hx l1.symm
 have LF:us=#[g.ρ 1000]++rest.toArray:=by
  refine PE (by simp;omega) fun i h1 h2=>?_;cases i with
  |zero=>rw[hval];simp
  |succ i=>
   have hi:i<rest.length:=by omega
   have:=hv (i+1) (.v rest[i]) us[i+1] (by simp[List.getElem?_eq_getElem hi]) (A6 h1)
   rw[this.v_eq];simp
 rw[LF];rcases a2 with ⟨b1,b2,b3⟩|⟨b,cap,E,vs,b1,b2,b3,b4,b5,b6,b7⟩
 .exact absurd b1 DJ
 .have hl:(As [(1000,HO.arr sz es)] Ag 1000).live:=trivial;have DF:=(hI.loc 1000 b hl b2).1;have Is:es.length*sz<=vs.size:=by rw[b5];exact Bf _ b3
  have hF:((vs.toList.take (es.length*sz)).toArray).size=es.length*sz:=by simp;omega
  have hH:Holds id w b 0 (vs.toList.take (es.length*sz)).toArray:=fun j hj=>by
   have hj:j<es.length*sz:=by rw[hF]at hj;exact hj
   refine⟨?_,?_⟩
   .have zh:j<vs.size:=by omega
    simp only[World.cell?,b4,Bb,PN,Dr,Gz];rw[A6 zh,DY _ j (by rw[hF];exact hj)];simp
   .simp[World.frozen?,b4]
  rw[b1];refine(h1 g w b cap _ (by simpa using b6) hF hH DF b3).mono ?_
  rintro e w' ⟨rfl,F',F2,n,os,f1,f2,f3,f4,f5,rfl⟩
  have xy:F'.size=es.length*sz:=f1.trans hF;have zz:=ON F' vs ch;have lp:(grow (putRow id (Sort.ahead w n) b 0 F') os).heap[b]?=some (.cells (putCells id 0 F' vs) E (0,0)):=by
   rw[heap_grow_old _ _ (by rw[size_putRow];exact DF)];show(w.heap.modify b (onCells (putCells id 0 F')))[b]?=_;rw[Array.getElem?_modify,Ap rfl,b4];rfl
  have zr:∀k,k<w.heap.size->k≠b->(grow (putRow id (Sort.ahead w n) b 0 F') os).heap[k]?=w.heap[k]?:=fun k hk DJ=>by
   rw[heap_grow_old _ _ (by rw[size_putRow];exact hk)];simp[putRow,mapBlock,Array.getElem?_modify,Ne.symm DJ]
  have ES:w.heap.size<=(grow (putRow id (Sort.ahead w n) b 0 F') os).heap.size:=by rw[size_grow,size_putRow];show w.heap.size<=w.heap.size+_;omega
  obtain⟨k1,k2⟩:=hI.upd 1000 (.arr sz F2) (g.ρ 1000) (g.ln 1000) (g.tk 1000) (g.own 1000) g.S (grow (putRow id (Sort.ahead w n) b 0 F') os) (some b) ⟨rfl,rfl,rfl,ES⟩
   (fun k hk DJ=>zr k hk (fun e=>DJ (by rw[e]))) (fun b' e=>by cases e;exact⟨hl,b2⟩) (fun _ _ h=>h) (fun _ _ h=>.inl h) (fun b' o e hs=>by cases e;exact absurd hs (b7 o))
   (fun b' _ e=>by rw[b2]at e;cases e;exact⟨BC DF ES,.inl ⟨hl,b2⟩⟩) B0 (fun _=>⟨rfl,Am _,fun _=>rfl,fun _=>rfl⟩) (fun hg hk=>by
    refine⟨by simp[Gh.upd,t1],by simp[Gh.upd,l1,f3],f4,.inr ⟨b,cap,E,_,by simp[Gh.upd,b1,f3],by simp[Gh.upd,b2],by omega,lp,by rw[zz.2,b5],?_,b7⟩⟩
    have:=f5 g w (by simpa using b6)
    rw[f3,<-xy,zz.1];exact this.mono hk (fun _ h=>h) (fun _ h=>h.elim))
  rw[U8]at k1 k2;generalize TS:g.upd 1000 (g.ρ 1000) (g.ln 1000) (g.tk 1000) (g.own 1000) g.S=g' at k1 k2;have ti:g'.own 1000=some b:=by rw[<-TS];simp[Gh.upd,b2]
  have zt:=k1.objs 1000;have p7:As [(1000,HO.arr sz F2)] Ag 1000=.arr sz F2:=rfl;rw[p7]at zt;obtain⟨m1,m2,m3,m4⟩:=zt;have hρ:g'.ρ 1000=.slice (some ⟨b,0,none⟩) es.length cap:=by rw[<-TS];simp[Gh.upd,b1]
  have Adz:F2≠[]:=fun e=>DJ (AQ (by rw[<-f3,e];rfl));rcases m4 with ⟨m4,_⟩|⟨b',Ml,E',lx,c1,c2,c3,c4,c5,c6,c7⟩
  .exact absurd m4 Adz
  .rw[hρ]at c1;simp only[Value.slice.injEq,BB,Addr.mk.injEq,and_true]at c1;obtain⟨c1a,c1b,c1c⟩:=c1;subst c1a;subst c1c;have m7:(F2.take n').length=n':=by rw[Ax];omega
   obtain⟨k3,k4⟩:=k1.move 1000 2000 Cl rfl trivial ti (.arr sz (F2.take n')) (.slice (some ⟨b,0,none⟩) n' cap) n' true B0 (fun hk=>by
    refine⟨by simp[Gh.upd],by simp[Gh.upd,m7],fun cs hcs=>m3 cs (Df hcs),.inr ⟨b,cap,E',lx,by simp[Gh.upd,m7],by simp[Gh.upd],by omega,c4,c5,?_,c7⟩⟩
    have:=(c6.mono hk (fun _ h=>h) (fun _ h=>h.elim)).take (n'*sz)
    rw[Mt F2 n' m3,PM,Xb (Bf _ ch)]at this;rw[m7];exact this)
   have ze:A3 (A3 (As [(1000,HO.arr sz F2)] Ag) 1000 .dead) 2000 (.arr sz (F2.take n'))=As [(1000,.dead),(2000,.arr sz (F2.take n'))] Ag:=by
    funext i
    by_cases e1:i=2000
    .subst e1;rw[Bi];rfl
    .rw[Cg _ _ _ _ e1]
     by_cases e2:i=1000
     .subst e2;rw[Bi];rfl
     .rw[Cg _ _ _ _ e2];simp[As,Dd e1,Dd e2]
   rw[ze]at k3 k4;exact⟨_,.msl 2000 n',_,_,rfl,⟨rfl,F2,f2,rfl⟩,.msl _ 2000 n' (some ⟨b,0,none⟩) cap (by intro c;cases c) (by simp[Gh.upd]) (by simp[Gh.upd]) (.inr ⟨b,rfl⟩) (fun _=>by simp[Gh.upd]),k3,k2.trans k4⟩
end
end Go.Eng
namespace Go.Eng
variable {h:Nat->HO}{r ty e m:Nat}{cx:Cx}{x:AV}{K:HK}
def mo(a b:FV):Bool:=
 (match a.2 with|some r=>!JO b.1 r|none=>true)&&(match b.2 with|some r=>!JO a.1 r|none=>true)
def Rx(ops:Array Oper)(oi:Oper)(fi:FV)(D:List Nat)(k:Nat):List Oper->List FV->Bool
 |o::r,f::fs=>(JO D k||(oi.apart ops o&&mo fi f))&&Rx ops oi fi D (k+1) r fs
 | [],[]=>true
 |_,_=>false
def XB(ops:Array Oper)(all:List Oper)(k:Nat):List Oper->List FV->Bool
 |o::r,f::fs=>
  let D:=RB k [] 0 all
  (o.after.toList.all fun e=>!Region.binds .any e||Nat.blt e.on k)&&We k D 0 all&&(D.all fun j=>Nat.blt k j&&Nat.blt j all.length)&&Rx ops o f D (k+1) r fs&&XB ops all (k+1) r fs
 | [],[]=>true
 |_,_=>false
def gi(ops:Array Oper)(fs:List FV):Bool:=Region.noSelect ops&&XB ops ops.toList 0 ops.toList fs
def Sh(f:FV):Prop:=∀r,f.2=some r->r<10000000
def T4:List FV->Prop
 | []=>True
 |f::r=>Sh f/\T4 r
theorem A4(l:List Nat):Sh (l,none):=fun _ h=>by cases h
theorem Ew{l:List Nat}(h:r<10000000):Sh (l,some r):=fun _ e=>by cases e;exact h
theorem mq{a b:FV}(ha:Sh a)(hb:Sh b)(h:mo a b=true):UI a b=true:=by
 obtain⟨a1,a2⟩:=a;obtain⟨b1,b2⟩:=b;unfold mo at h;unfold UI;rw[Af]at h⊢;refine⟨?_,?_⟩
 .cases a2 with
  |none=>rfl
  |some r=>
   have h1:(!JO b1 r)=true:=h.1;show cg b1 r=true;unfold cg;rw[Dd (show r≠YC by have:=ha r rfl;unfold YC;omega),Es,h1,show Nat.blt r 10000000=true by rw[CB];exact ha r rfl];rfl
 .cases b2 with
  |none=>rfl
  |some r=>
   have h1:(!JO a1 r)=true:=h.2;show cg a1 r=true;unfold cg;rw[Dd (show r≠YC by have:=hb r rfl;unfold YC;omega),Es,h1,show Nat.blt r 10000000=true by rw[CB];exact hb r rfl];rfl
theorem Xj{ops:Array Oper}{oi:Oper}{fi:FV}{D:List Nat}(hi:Sh fi):∀{l:List Oper} {fs:List FV} {k:Nat},T4 fs->Rx ops oi fi D k l fs=true->Jr ops oi fi D k l fs=true
 | [],[],_,_,h=>h
 |o::r,f::fs,k,hs,h=>by
  unfold Rx at h;unfold Jr;rw[Af,CQ,Af]at h⊢;exact⟨h.1.imp id (fun q=>⟨q.1,mq hi hs.1 q.2⟩),Xj hi hs.2 h.2⟩
 | [],_::_,_,_,h=>by simp[Rx]at h
 |_::_,[],_,_,h=>by simp[Rx]at h
theorem aI{ops:Array Oper}{all:List Oper}:∀{l:List Oper} {fs:List FV} {k:Nat},T4 fs->XB ops all k l fs=true->Np ops all k l fs=true
 | [],[],_,_,h=>h
 |o::r,f::fs,k,hs,h=>by
  unfold XB at h;unfold Np;simp only[Af]at h⊢;exact⟨⟨h.1.1,Xj hs.1 hs.2 h.1.2⟩,aI hs.2 h.2⟩
 | [],_::_,_,_,h=>by simp[XB]at h
 |_::_,[],_,_,h=>by simp[XB]at h
theorem Ka{ops:Array Oper}{fs:List FV}(hs:T4 fs)(h:gi ops fs=true):UJ ops fs=true:=by
 unfold gi at h;unfold UJ;rw[Af]at h⊢;exact⟨h.1,aI hs h.2⟩
theorem SE{d:Option Nat}{es es2:List (List AV)}(hty:(cx.T ty).d=.slice e)(hz:Nat.beq (cx.T e).zc.length (cx.T e).size=true)(ES:(cx.T e).size=m+1)(hx:∀K' : List (List AV)->Prop,K' es2->Mr h x K')(hr:h r=.tok (m+1) es.length)(hl:Cr (m+1) es2)(hb:(es.length+es2.length)*(cx.T e).bytes<=140737488355328)(hc:es.length+es2.length<=9223372036854775807)(hk:K (.slice (.id r (m+1)) (es++es2)) (A3 h r (.tok (m+1) (es.length+es2.length)))):Jh cx d h ty (.slice (.id r (m+1)) es) x K:=by
 have hq:Nat.beq (m+1) (m+1)=true:=Ds _;unfold Jh;rw[hty];rw[ES]at hz;simp only[ES,hz];refine hx _ ?_;simp only[hr,hq];exact⟨⟨hl,trivial,hb,hc⟩,hk⟩
theorem SD{d:Nat}{es2:List (List AV)}(hty:(cx.T ty).d=.slice e)(hz:Nat.beq (cx.T e).zc.length (cx.T e).size=true)(ES:(cx.T e).size=m+1)(hx:∀K' : List (List AV)->Prop,K' es2->Mr h x K')(hr:h (KZ cx d)=.free)(ha:Hl cx.pl.arr d=none)(hl:Cr (m+1) es2)(hb:es2.length*(cx.T e).bytes<=140737488355328)(hc:es2.length<=9223372036854775807)(hk:K (.slice (.id (KZ cx d) (m+1)) es2) (A3 h (KZ cx d) (.tok (m+1) es2.length))):Jh cx (some d) h ty nzA x K:=by
 unfold Jh;rw[hty];rw[ES]at hz;simp only[ES,hz];refine hx _ ?_;refine⟨⟨ES▸hl,hb,hc⟩,?_⟩;unfold EY;simp only[hr,ha];exact hk
end Go.Eng
namespace Go.Eng
open Go.RowKit
section
variable {P:Program}
theorem NK{f:Nat}{args:List AV}{res:AV}(vals:List Value)(v:Value)(hE:F3 P f)(ha:args=vals.map .v)(nl:∀g w,BU g w FB res v)
  (h:∀w,(∃m,w.cell? ⟨gB,0,none⟩=some (.int .i64 m))->(∀x∈mK,w.cell? ⟨x.1,x.2.1,none⟩=x.2.2)->Calls P f vals.toArray w fun e w'=>e=.returned v/\Below w.heap.size w w'):Jp P f args res:=by
 refine⟨hE,fun g w us hs hv hI=>?_⟩;have hu:us=vals.toArray:=by
  subst ha;rw[A7]at hs;refine PE (by simpa using hs) fun i h1 h2=>?_
  have:=hv i (.v (vals[i]'(by simpa using h2))) us[i] (by rw[AG,AD (by simpa using h2)];rfl) (by rw[A6 h1])
  rw[this.v_eq];simp
 subst hu;refine(h w hI.glob.1.2 fun x hx=>(hI.glob.2 x hx).2).mono ?_
 rintro e w' ⟨rfl,q⟩
 have hK:EO g w g w':=fun b o hb=>by
  have DF:=hI.slt b o hb;exact⟨hb,by simp only[World.cell?,q.block b DF],fun es ck he=>(q.block b DF).trans he⟩
 refine⟨v,res,Ag,g,rfl,⟨rfl,rfl⟩,(nl g _).up _,⟨q.os,q.tape,q.output,q.size,fun b hb _=>q.block b hb,fun b o hs=>BC (hI.slt b o hs) q.size,fun _=>trivial,fun _ _ _ h=>h.elim,fun _ _ h=>h.elim,fun b o hs=>.inl hs,hI.glob.keep hK⟩,⟨.refl _ _,fun _ h=>h,hK⟩⟩
end
end Go.Eng
namespace Go.Eng
def YS:Obj->Bool
 |.cells ..=>false
 |.map ..=>false
 |.mapIter ..=>false
 |.loop r=>!PV [] r.body
 |_=>true
structure fO(n0 x:Nat)(w:World)(g:Gh)(h:Nat->HO)(w' : World)(g' : Gh)(h' : Nat->HO):Prop where
 os:w'.os=w.os
 tape:w'.tape=w.tape
 output:w'.output=w.output
 size:w.heap.size<=w'.heap.size
 frame:∀b,b<n0->b≠x->(∀r,(h r).live->g.own r≠some b)->w'.heap[b]?=w.heap[b]?
 loc:∀r b,(h' r).live->g'.own r=some b->n0<=b\/∃r',(h r').live/\g.own r'=some b
 sg:∀b o,g'.S b o->g.S b o\/n0<=b\/∃r',(h r').live/\g.own r'=some b
 le:Le h g w h' g' w'
section
variable {P:Program}{N:Nat}{ds:List Deferred}{n0 x:Nat}{w w' w1 w2:World}{g g' g1 g2:Gh}{h h' h1 h2:Nat->HO}
theorem fO.trans(a:fO n0 x w g h w1 g1 h1)(b:fO n0 x w1 g1 h1 w2 g2 h2):fO n0 x w g h w2 g2 h2 where
 os:=b.os.trans a.os
 tape:=b.tape.trans a.tape
 output:=b.output.trans a.output
 size:=AK a.size b.size
 frame c hc hx hn:=(b.frame c hc hx fun r hl e=>by
  rcases a.loc r c hl e with h|⟨r',h1,h2⟩
  .omega
  .exact hn r' h1 h2).trans (a.frame c hc hx hn)
 loc r c hl e:=by
  rcases b.loc r c hl e with h|⟨r',h1,h2⟩
  .exact .inl h
  .exact a.loc r' c h1 h2
 sg c o hs:=by
  rcases b.sg c o hs with h|h|⟨r',h1,h2⟩
  .exact a.sg c o h
  .exact .inr (.inl h)
  .rcases a.loc r' c h1 h2 with h|h
   .exact .inr (.inl h)
   .exact .inr (.inr h)
 le:=a.le.trans b.le
theorem fO.of_inv(hI:D3 w g h h' g' w')(hL:Le h g w h' g' w')(hn:n0<=w.heap.size):fO n0 x w g h w' g' h' where
 os:=hI.os
 tape:=hI.tape
 output:=hI.output
 size:=hI.size
 frame c hc _ bw:=hI.frame c ch bw
 loc r c hl e:=by
  rcases(hI.loc r c hl e).2 with h|h
  .exact .inl ch
  .exact .inr h
 sg c o hs:=by
  rcases hI.sg c o hs with h|h|h
  .exact .inl h
  .exact .inr (.inl ch)
  .exact .inr (.inr h)
 le:=hL
theorem D3.base(hI:D3 w g h h' g' w'):D3 w' g' h' h' g' w' where
 os:=rfl
 tape:=rfl
 output:=rfl
 size:=Am _
 frame _ _ _:=rfl
 slt:=hI.slt
 objs:=hI.objs
 inj:=hI.inj
 loc r b hl e:=⟨(hI.loc r b hl e).1,.inr ⟨r,hl,e⟩⟩
 sg _ _ hs:=.inl hs
 glob:=hI.glob
theorem D3.of_seg(hI:D3 w' g' h' h' g' w')(s:fO w.heap.size x w g h w' g' h')(hx:x<w.heap.size->w'.heap[x]?=w.heap[x]?):D3 w g h h' g' w' where
 os:=s.os
 tape:=s.tape
 output:=s.output
 size:=s.size
 frame b hb hn:=by
  by_cases e:b=x
  .subst e;exact hx hb
  .exact s.frame b hb e hn
 slt:=hI.slt
 objs:=hI.objs
 inj:=hI.inj
 loc r b hl e:=⟨(hI.loc r b hl e).1,s.loc r b hl e⟩
 sg:=s.sg
 glob:=hI.glob
theorem QQ{U:Nat->Prop}{r b:Nat}{o:HO}{ob:Obj}(ho:Ez g w U r o)(hl:o.live)(e:g.own r=some b)(hb:w.heap[b]?=some ob)(hd:YS ob=true):False:=by
 cases o with
 |free=>exact hl
 |dead=>exact hl
 |ro cs=>exact hl
 |rom sh Ch=>exact hl
 |cells cs=>
  obtain⟨_,b',E,vs,h1,_,h3,_⟩:=ho;rw[e]at h1;cases h1;rw[hb]at h3;cases h3;cases hd
 |tok sz n=>
  obtain⟨_,_,a,cap,_,(⟨_,h1⟩|⟨_,b',E,vs,off,_,h1,⟨_,h3,_⟩,_⟩)⟩:=ho
  .rw[e]at h1;cases h1
  .rw[e]at h1;cases h1;rw[hb]at h3;cases h3;cases hd
 |vox v=>exact hl
 |hol sz es i c av=>
  obtain⟨_,_,_,b',cap,E,vs,_,h1,_,h3,_⟩:=ho;rw[e]at h1;cases h1;rw[hb]at h3;cases h3;cases hd
 |raw b' gX=>
  obtain⟨_,h1,h2,h3,_⟩:=ho;rw[e]at h1;cases h1;rw[hb]at h2;cases h2;cases ob<;>simp[YS,ya]at hd h3
  rw[hd]at h3;cases h3
 |var sz v n=>
  obtain⟨_,_,a,cap,_,(⟨_,h1⟩|⟨_,b',E,vs,off,_,h1,⟨_,h3,_⟩,_⟩)⟩:=ho
  .rw[e]at h1;cases h1
  .rw[e]at h1;cases h1;rw[hb]at h3;cases h3;cases hd
 |arr sz es=>
  obtain⟨_,_,_,(⟨_,_,h1⟩|⟨b',cap,E,vs,_,h1,_,h3,_⟩)⟩:=ho
  .rw[e]at h1;cases h1
  .rw[e]at h1;cases h1;rw[hb]at h3;cases h3;cases hd
 |map sh Ch=>
  obtain⟨_,b',es,ck,h1,_,h3,_⟩:=ho;rw[e]at h1;cases h1;rw[hb]at h3;cases h3;cases hd
 |mapU sh Ch=>
  obtain⟨_,b',es,ck,h1,_,h3,_⟩:=ho;rw[e]at h1;cases h1;rw[hb]at h3;cases h3;cases hd
 |iter all rem EJ=>
  obtain⟨_,b',mb,Ln,seen,st,es,ck,h1,_,h3,_⟩:=ho;rw[e]at h1;cases h1;rw[hb]at h3;cases h3;cases hd
theorem D3.dullS(hI:D3 w g h h g w)(ho:w'.os=w.os/\w'.tape=w.tape/\w'.output=w.output)(ES:w.heap.size<=w'.heap.size)
  (hb:∀b,b<w.heap.size->w'.heap[b]?=w.heap[b]?\/∃o o',w.heap[b]?=some o/\w'.heap[b]?=some o'/\YS o=true/\YS o'=true)
  (hn:∀b,b<n0->b≠x->w'.heap[b]?=w.heap[b]?):D3 w' g h h g w'/\fO n0 x w g h w' g h:=by
 have hk:EO g w g w':=fun b o hs=>by
  refine⟨hs,?_⟩;rcases hb b (hI.slt b o hs)with e|⟨ob,gX,e1,e2,d1,d2⟩
  .exact⟨by simp only[World.cell?,e],fun es ck he=>e.trans he⟩
  .refine⟨?_,fun es ck he=>?_⟩
   .simp only[World.cell?,e1,e2];cases ob<;>cases gX<;>first|rfl|(cases d1;done)|(cases d2;done)
   .rw[e1]at he;cases he;cases d1
 have Zf:∀r b,(h r).live->g.own r=some b->w'.heap[b]?=w.heap[b]?:=fun r b hl e=>by
  rcases hb b (hI.loc r b hl e).1 with e' | ⟨ob,gX,e1,_,d1,_⟩
  .exact e'
  .exact(QQ (hI.objs r) hl e e1 d1).elim
 refine⟨⟨rfl,rfl,rfl,Am _,fun _ _ _=>rfl,fun b o hs=>BC (hI.slt b o hs) ES,fun r=>?_,hI.inj,fun r b hl e=>⟨BC (hI.loc r b hl e).1 ES,.inr ⟨r,hl,e⟩⟩,fun _ _ hs=>.inl hs,hI.glob.keep hk⟩,⟨ho.1,ho.2.1,ho.2.2,ES,fun b lp hx _=>hn b lp hx,fun r b hl e=>.inr ⟨r,hl,e⟩,fun _ _ hs=>.inl hs,⟨.refl _ _,fun _ h=>h,hk⟩⟩⟩;exact(hI.objs r).same hk (fun _ h=>h) (.refl _ _) rfl rfl rfl rfl fun b hl e=>⟨Zf r b hl e,fun _ h=>h⟩
theorem D3.put(hI:D3 w g h h g w){l:Nat}{o o' : Obj}(hl:w.heap[l]?=some o)(hd:YS o=true)(p6:YS o'=true)(hx:n0<=l\/l=x) :
  D3 (w.putObj l o') g h h g (w.putObj l o')/\fO n0 x w g h (w.putObj l o') g h:=by
 have DF:l<w.heap.size:=(Bv.1 hl).1;refine hI.dullS ⟨rfl,rfl,rfl⟩ (by simp[World.putObj]) (fun b _=>?_) (fun b hb DJ=>?_)
 .by_cases e:b=l
  .subst e;exact .inr ⟨o,o',hl,World.putObj_heap_same DF,hd,p6⟩
  .exact .inl (World.putObj_heap_other e)
 .refine World.putObj_heap_other fun e=>?_;rcases hx with h|h
  .omega
  .exact DJ (e.trans h)
theorem D3.allocS(hI:D3 w g h h g w)(o:Obj)(hn:n0<=w.heap.size):D3 (w.alloc o) g h h g (w.alloc o)/\fO n0 x w g h (w.alloc o) g h:=by
 refine hI.dullS ⟨rfl,rfl,rfl⟩ (by rw[World.size_alloc];omega) (fun b hb=>.inl (heap_alloc_old _ _ hb)) (fun b hb _=>heap_alloc_old _ _ ch)
end
abbrev IZ(fn:FuncId)(tm:Array Value)(ps:Array Tmp)(Hl body:Code)(D:Nat)(s:LoopState):Loop:=
 { state:=s,pending:=none,fn:=fn,tmps:=tm,params:=ps,assign:=Hl,body:=body,defers:=D }
def qM:List Nat->List AV->(Nat->AV)->Nat->AV
 |p::ps,v::vs,e=>qM ps vs (H5 e p v)
 |_,_,e=>e
section
variable {P:Program}{N:Nat}{w:World}{g:Gh}
theorem aQ{U:Nat->Prop}:∀{ps:List Nat} {args:List AV} {vals:List Value} {tm:Array Value} {env:Nat->AV},vals.length=args.length->args.length=ps.length->(∀p∈ps,p<tm.size) ->
  (∀(i:Nat) (av:AV) (x:Value),args[i]?=some av->vals[i]?=some x->BU g w U av x)->(∀i,BU g w U (env i) (tm.getD i undef)) ->
  ((ps.zip vals).foldl (fun t p=>t.setIfInBounds p.1 p.2) tm).size=tm.size/\∀i,BU g w U (qM ps args env i) (((ps.zip vals).foldl (fun t p=>t.setIfInBounds p.1 p.2) tm).getD i undef)
 | [],args,vals,tm,env,_,h2,_,_,he=>by
  have:args=[]:=AQ h2
  subst this;exact⟨rfl,he⟩
 |p::ps,[],vals,tm,env,_,h2,_,_,_=>by cases h2
 |p::ps,a::args,[],tm,env,h1,_,_,_,_=>by cases h1
 |p::ps,a::args,v::vals,tm,env,h1,h2,h3,h4,he=>by
  have hp:=h3 p (Ab ..)
  obtain⟨q1,q2⟩:=aQ (ps:=ps) (args:=args) (vals:=vals) (tm:=tm.setIfInBounds p v) (env:=H5 env p a) (by simpa using h1) (by simpa using h2) (fun q hq=>by simpa using h3 q (Ah _ hq))
   (fun i av x e1 e2=>h4 (i+1) av x (by simpa using e1) (by simpa using e2)) (fun i=>by
    by_cases e:i=p
    .subst e;have e1:H5 env i a i=a:=by simp[H5]
     have e2:(tm.setIfInBounds i v).getD i undef=v:=by simp[Array.getD_eq_getD_getElem?,hp]
     rw[e1,e2];exact h4 0 a v rfl rfl
    .have e1:H5 env p a i=env i:=by simp only[H5,Dd e,Es]
     have e2:(tm.setIfInBounds p v).getD i undef=tm.getD i undef:=by
      simp[Array.getD_eq_getD_getElem?,Array.getElem?_setIfInBounds_ne (Ne.symm e)]
     rw[e1,e2];exact he i)
  exact⟨by simpa using q1,q2⟩
def ab(P:Program)(Y:Gh->World->Prop)(σ:J6)(f:Nat)(args:List AV)(h0:Nat->HO)(Q:AV->(Nat->HO)->Prop):Prop:=
 F3 P f/\∀(g:Gh) (w:World) (vals:Array Value),vals.size=args.length->(∀(i:Nat) (av:AV) (x:Value),args[i]?=some av->vals[i]?=some x->BU g w (AR h0) av x) ->
  D3 w g h0 h0 g w->(∀h' g' w',D3 w g h0 h' g' w'->Le h0 g w h' g' w'->Y (DU σ g') w') ->
  Calls P f vals w fun e w'=>∃v r h' g',e=.returned v/\Q r h'/\BU g' w' (AR h') r v/\D3 w g h0 h' g' w'/\Le h0 g w h' g' w'
theorem nv{Y:Gh->World->Prop}{l:Nat}{f:Nat}{fn:Func}{c:Code}{args:List AV}{H0:List (Nat×HO)}{Q:AV->(Nat->HO)->Prop}(cx:Cx)(σ:J6)(hP:cx.P=P)(hT:CM P cx.T)(hm:P.follows .mixedOrders=true)(hx:cx.ext=true)(hf:P.funcs[f]?=some fn)
  (hn:(fn.name == "runtime.NumGoroutine") = false) (hb:fn.body = some c) (hN:args.length <= fn.ntmps) (hc:ER fn.ntmps c = true) (hσ:(Hv σ && Jw σ H0) = true)
  (hy:cx.yp=fun l' σ' g w=>l'=l->σ'=σ->Y g w)
  (hk:Tw cx c (aM cx fn.results.toList σ Q) ⟨Qh args,As H0 Ag⟩):ab P Y σ f args (As H0 Ag) Q:=
 ⟨⟨fn,hf,hn,by simp[hb]⟩,fun g w vals hs hv hI hp=>bj cx σ hP hT hm hx hf hn hb hN hc hσ hk hs hv hI fun l' σ' h' g' w' _ q1 q2=>by
  rw[hy];intro _ e;subst e;exact hp h' g' w' q1 q2⟩
end
end Go.Eng
