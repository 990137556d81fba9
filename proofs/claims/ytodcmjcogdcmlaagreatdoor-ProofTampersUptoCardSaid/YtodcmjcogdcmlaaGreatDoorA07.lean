/- Lemmas for the claims of this seat, without a condition: part 7 (Tab, EngE, EngF). -/
import Derived.Test.YtodcmjcogdcmlaaGreatDoorA06
import Derived.Test.YtodcmjcogdcmlaaGreatDoorProg
namespace Go.Eng
open Go.Proofs
abbrev dTI : TI := tiNone
def nthL {α : Type} (d : α) : List α → Nat → α
  | [], _ => d
  | a :: r, n => match n with | 0 => a | n + 1 => nthL d r n
def row0 : List TI := [⟨.other, 1, 0, (Go.Value.tuple #[]), true⟩,
  ⟨.func, 1, 8, Go.Value.nilFunc, true⟩,
  ⟨.int .i64, 1, 8, (Go.Value.int Go.IntKind.i64 0), true⟩,
  ⟨.int .i64, 1, 8, (Go.Value.int Go.IntKind.i64 0), true⟩,
  ⟨.bool, 1, 1, (Go.Value.bool Bool.false), true⟩,
  ⟨.int .u8, 1, 1, (Go.Value.int Go.IntKind.u8 0), true⟩,
  ⟨.int .u8, 1, 1, (Go.Value.int Go.IntKind.u8 0), true⟩,
  ⟨.struct [(2, 0), (3, 1), (4, 2), (6, 3)], 4, 24, (Go.Value.agg #[Go.Value.int Go.IntKind.i64 0, Go.Value.int Go.IntKind.i64 0, Go.Value.bool Bool.false, Go.Value.int Go.IntKind.u8 0]), true⟩,
  ⟨.struct [(2, 0), (3, 1), (4, 2), (6, 3)], 4, 24, (Go.Value.agg #[Go.Value.int Go.IntKind.i64 0, Go.Value.int Go.IntKind.i64 0, Go.Value.bool Bool.false, Go.Value.int Go.IntKind.u8 0]), true⟩,
  ⟨.string, 1, 16, (Go.Value.string { data := #[] }), true⟩,
  ⟨.string, 1, 16, (Go.Value.string { data := #[] }), true⟩,
  ⟨.string, 1, 16, (Go.Value.string { data := #[] }), true⟩,
  ⟨.int .u64, 1, 8, (Go.Value.int Go.IntKind.u64 0), true⟩,
  ⟨.struct [(9, 0), (12, 1)], 2, 24, (Go.Value.agg #[Go.Value.string { data := #[] }, Go.Value.int Go.IntKind.u64 0]), false⟩,
  ⟨.struct [(9, 0), (12, 1)], 2, 24, (Go.Value.agg #[Go.Value.string { data := #[] }, Go.Value.int Go.IntKind.u64 0]), false⟩,
  ⟨.ptr 284, 1, 8, (Go.Value.pointer Option.none), true⟩]
def row1 : List TI := [⟨.ptr 287, 1, 8, (Go.Value.pointer Option.none), true⟩,
  ⟨.ptr 296, 1, 8, (Go.Value.pointer Option.none), true⟩,
  ⟨.struct [(17, 0)], 1, 8, (Go.Value.agg #[Go.Value.pointer Option.none]), false⟩,
  ⟨.struct [(17, 0)], 1, 8, (Go.Value.agg #[Go.Value.pointer Option.none]), false⟩,
  ⟨.iface, 1, 16, Go.Value.nilIface, true⟩,
  ⟨.int .i32, 1, 4, (Go.Value.int Go.IntKind.i32 0), true⟩,
  ⟨.slice 89, 1, 24, (Go.Value.slice Option.none 0 0), true⟩,
  ⟨.slice 302, 1, 24, (Go.Value.slice Option.none 0 0), true⟩,
  ⟨.struct [(22, 0), (23, 1)], 2, 48, (Go.Value.agg #[Go.Value.slice Option.none 0 0, Go.Value.slice Option.none 0 0]), true⟩,
  ⟨.struct [(22, 0), (23, 1)], 2, 48, (Go.Value.agg #[Go.Value.slice Option.none 0 0, Go.Value.slice Option.none 0 0]), true⟩,
  ⟨.slice 120, 1, 24, (Go.Value.slice Option.none 0 0), true⟩,
  ⟨.slice 68, 1, 24, (Go.Value.slice Option.none 0 0), true⟩,
  ⟨.func, 1, 8, Go.Value.nilFunc, true⟩,
  ⟨.func, 1, 8, Go.Value.nilFunc, true⟩,
  ⟨.slice 51, 1, 24, (Go.Value.slice Option.none 0 0), true⟩,
  ⟨.int .i64, 1, 8, (Go.Value.int Go.IntKind.i64 0), true⟩]
def row2 : List TI := [⟨.other, 1, 0, (Go.Value.tuple #[Go.Value.slice Option.none 0 0, Go.Value.int Go.IntKind.i64 0]), true⟩,
  ⟨.func, 1, 8, Go.Value.nilFunc, true⟩,
  ⟨.func, 1, 8, Go.Value.nilFunc, true⟩,
  ⟨.func, 1, 8, Go.Value.nilFunc, true⟩,
  ⟨.func, 1, 8, Go.Value.nilFunc, true⟩,
  ⟨.slice 59, 1, 24, (Go.Value.slice Option.none 0 0), true⟩,
  ⟨.slice 72, 1, 24, (Go.Value.slice Option.none 0 0), true⟩,
  ⟨.struct [(4, 0), (37, 1), (27, 2), (38, 3)], 4, 80, (Go.Value.agg #[Go.Value.bool Bool.false, Go.Value.slice Option.none 0 0, Go.Value.slice Option.none 0 0, Go.Value.slice Option.none 0 0]), true⟩,
  ⟨.struct [(4, 0), (37, 1), (27, 2), (38, 3)], 4, 80, (Go.Value.agg #[Go.Value.bool Bool.false, Go.Value.slice Option.none 0 0, Go.Value.slice Option.none 0 0, Go.Value.slice Option.none 0 0]), true⟩,
  ⟨.func, 1, 8, Go.Value.nilFunc, true⟩,
  ⟨.slice 9, 1, 24, (Go.Value.slice Option.none 0 0), true⟩,
  ⟨.other, 1, 0, (Go.Value.tuple #[Go.Value.slice Option.none 0 0, Go.Value.int Go.IntKind.i64 0]), true⟩,
  ⟨.func, 1, 8, Go.Value.nilFunc, true⟩,
  ⟨.func, 1, 8, Go.Value.nilFunc, true⟩,
  ⟨.func, 1, 8, Go.Value.nilFunc, true⟩,
  ⟨.func, 1, 8, Go.Value.nilFunc, true⟩]
def row3 : List TI := [⟨.func, 1, 8, Go.Value.nilFunc, true⟩,
  ⟨.func, 1, 8, Go.Value.nilFunc, true⟩,
  ⟨.slice 107, 1, 24, (Go.Value.slice Option.none 0 0), true⟩,
  ⟨.slice 107, 1, 24, (Go.Value.slice Option.none 0 0), true⟩,
  ⟨.func, 1, 8, Go.Value.nilFunc, true⟩,
  ⟨.func, 1, 8, Go.Value.nilFunc, true⟩,
  ⟨.func, 1, 8, Go.Value.nilFunc, true⟩,
  ⟨.func, 1, 8, Go.Value.nilFunc, true⟩,
  ⟨.struct [(3, 0), (3, 1), (3, 2)], 3, 24, (Go.Value.agg #[Go.Value.int Go.IntKind.i64 0, Go.Value.int Go.IntKind.i64 0, Go.Value.int Go.IntKind.i64 0]), true⟩,
  ⟨.struct [(3, 0), (3, 1), (3, 2)], 3, 24, (Go.Value.agg #[Go.Value.int Go.IntKind.i64 0, Go.Value.int Go.IntKind.i64 0, Go.Value.int Go.IntKind.i64 0]), true⟩,
  ⟨.struct [(9, 0), (57, 1)], 4, 40, (Go.Value.agg #[Go.Value.string { data := #[] }, Go.Value.int Go.IntKind.i64 0, Go.Value.int Go.IntKind.i64 0, Go.Value.int Go.IntKind.i64 0]), true⟩,
  ⟨.struct [(9, 0), (57, 1)], 4, 40, (Go.Value.agg #[Go.Value.string { data := #[] }, Go.Value.int Go.IntKind.i64 0, Go.Value.int Go.IntKind.i64 0, Go.Value.int Go.IntKind.i64 0]), true⟩,
  ⟨.func, 1, 8, Go.Value.nilFunc, true⟩,
  ⟨.func, 1, 8, Go.Value.nilFunc, true⟩,
  ⟨.func, 1, 8, Go.Value.nilFunc, true⟩,
  ⟨.int .u16, 1, 2, (Go.Value.int Go.IntKind.u16 0), true⟩]
def row4 : List TI := [⟨.other, 1, 0, (Go.Value.tuple #[Go.Value.slice Option.none 0 0, Go.Value.bool Bool.false]), true⟩,
  ⟨.func, 1, 8, Go.Value.nilFunc, true⟩,
  ⟨.func, 1, 8, Go.Value.nilFunc, true⟩,
  ⟨.struct [(3, 0), (9, 1), (3, 2), (3, 3), (3, 4), (3, 5)], 6, 56, (Go.Value.agg #[Go.Value.int Go.IntKind.i64 0, Go.Value.string { data := #[] }, Go.Value.int Go.IntKind.i64 0, Go.Value.int Go.IntKind.i64 0, Go.Value.int Go.IntKind.i64 0, Go.Value.int Go.IntKind.i64 0]), true⟩,
  ⟨.struct [(3, 0), (9, 1), (3, 2), (3, 3), (3, 4), (3, 5)], 6, 56, (Go.Value.agg #[Go.Value.int Go.IntKind.i64 0, Go.Value.string { data := #[] }, Go.Value.int Go.IntKind.i64 0, Go.Value.int Go.IntKind.i64 0, Go.Value.int Go.IntKind.i64 0, Go.Value.int Go.IntKind.i64 0]), true⟩,
  ⟨.func, 1, 8, Go.Value.nilFunc, true⟩,
  ⟨.func, 1, 8, Go.Value.nilFunc, true⟩,
  ⟨.struct [(9, 0), (3, 1), (3, 2)], 3, 32, (Go.Value.agg #[Go.Value.string { data := #[] }, Go.Value.int Go.IntKind.i64 0, Go.Value.int Go.IntKind.i64 0]), true⟩,
  ⟨.struct [(9, 0), (3, 1), (3, 2)], 3, 32, (Go.Value.agg #[Go.Value.string { data := #[] }, Go.Value.int Go.IntKind.i64 0, Go.Value.int Go.IntKind.i64 0]), true⟩,
  ⟨.func, 1, 8, Go.Value.nilFunc, true⟩,
  ⟨.func, 1, 8, Go.Value.nilFunc, true⟩,
  ⟨.other, 1, 0, (Go.Value.tuple #[Go.Value.agg #[Go.Value.slice Option.none 0 0, Go.Value.slice Option.none 0 0], Go.Value.slice Option.none 0 0, Go.Value.slice Option.none 0 0]), true⟩,
  ⟨.func, 1, 8, Go.Value.nilFunc, true⟩,
  ⟨.func, 1, 8, Go.Value.nilFunc, true⟩,
  ⟨.func, 1, 8, Go.Value.nilFunc, true⟩,
  ⟨.ptr 83, 1, 8, (Go.Value.pointer Option.none), true⟩]
def row5 : List TI := [⟨.other, 1, 0, (Go.Value.tuple #[Go.Value.pointer Option.none, Go.Value.int Go.IntKind.i64 0]), true⟩,
  ⟨.func, 1, 8, Go.Value.nilFunc, true⟩,
  ⟨.struct [(25, 0), (26, 2), (30, 3)], 4, 96, (Go.Value.agg #[Go.Value.slice Option.none 0 0, Go.Value.slice Option.none 0 0, Go.Value.slice Option.none 0 0, Go.Value.slice Option.none 0 0]), true⟩,
  ⟨.struct [(25, 0), (26, 2), (30, 3)], 4, 96, (Go.Value.agg #[Go.Value.slice Option.none 0 0, Go.Value.slice Option.none 0 0, Go.Value.slice Option.none 0 0, Go.Value.slice Option.none 0 0]), true⟩,
  ⟨.func, 1, 8, Go.Value.nilFunc, true⟩,
  ⟨.func, 1, 8, Go.Value.nilFunc, true⟩,
  ⟨.func, 1, 8, Go.Value.nilFunc, true⟩,
  ⟨.func, 1, 8, Go.Value.nilFunc, true⟩,
  ⟨.struct [(9, 0), (57, 1), (26, 4), (9, 5), (9, 6), (9, 7), (4, 8)], 9, 120, (Go.Value.agg #[Go.Value.string { data := #[] }, Go.Value.int Go.IntKind.i64 0, Go.Value.int Go.IntKind.i64 0, Go.Value.int Go.IntKind.i64 0, Go.Value.slice Option.none 0 0, Go.Value.string { data := #[] }, Go.Value.string { data := #[] }, Go.Value.string { data := #[] }, Go.Value.bool Bool.false]), true⟩,
  ⟨.struct [(9, 0), (57, 1), (26, 4), (9, 5), (9, 6), (9, 7), (4, 8)], 9, 120, (Go.Value.agg #[Go.Value.string { data := #[] }, Go.Value.int Go.IntKind.i64 0, Go.Value.int Go.IntKind.i64 0, Go.Value.int Go.IntKind.i64 0, Go.Value.slice Option.none 0 0, Go.Value.string { data := #[] }, Go.Value.string { data := #[] }, Go.Value.string { data := #[] }, Go.Value.bool Bool.false]), true⟩,
  ⟨.func, 1, 8, Go.Value.nilFunc, true⟩,
  ⟨.other, 1, 0, (Go.Value.tuple #[Go.Value.slice Option.none 0 0, Go.Value.int Go.IntKind.i64 0]), true⟩,
  ⟨.func, 1, 8, Go.Value.nilFunc, true⟩,
  ⟨.func, 1, 8, Go.Value.nilFunc, true⟩,
  ⟨.other, 1, 0, (Go.Value.tuple #[Go.Value.slice Option.none 0 0, Go.Value.bool Bool.false]), true⟩,
  ⟨.func, 1, 8, Go.Value.nilFunc, true⟩]
def row6 : List TI := [⟨.func, 1, 8, Go.Value.nilFunc, true⟩,
  ⟨.func, 1, 8, Go.Value.nilFunc, true⟩,
  ⟨.func, 1, 8, Go.Value.nilFunc, true⟩,
  ⟨.other, 1, 0, (Go.Value.tuple #[Go.Value.agg #[Go.Value.string { data := #[] }, Go.Value.int Go.IntKind.i64 0, Go.Value.int Go.IntKind.i64 0, Go.Value.int Go.IntKind.i64 0, Go.Value.slice Option.none 0 0, Go.Value.string { data := #[] }, Go.Value.string { data := #[] }, Go.Value.string { data := #[] }, Go.Value.bool Bool.false], Go.Value.bool Bool.false]), true⟩,
  ⟨.func, 1, 8, Go.Value.nilFunc, true⟩,
  ⟨.func, 1, 8, Go.Value.nilFunc, true⟩,
  ⟨.func, 1, 8, Go.Value.nilFunc, true⟩,
  ⟨.func, 1, 8, Go.Value.nilFunc, true⟩,
  ⟨.slice 118, 1, 24, (Go.Value.slice Option.none 0 0), true⟩,
  ⟨.slice 118, 1, 24, (Go.Value.slice Option.none 0 0), true⟩,
  ⟨.struct [(9, 0), (4, 1), (105, 2)], 3, 48, (Go.Value.agg #[Go.Value.string { data := #[] }, Go.Value.bool Bool.false, Go.Value.slice Option.none 0 0]), true⟩,
  ⟨.struct [(9, 0), (4, 1), (105, 2)], 3, 48, (Go.Value.agg #[Go.Value.string { data := #[] }, Go.Value.bool Bool.false, Go.Value.slice Option.none 0 0]), true⟩,
  ⟨.other, 1, 0, (Go.Value.tuple #[Go.Value.int Go.IntKind.i64 0, Go.Value.int Go.IntKind.i64 0]), true⟩,
  ⟨.func, 1, 8, Go.Value.nilFunc, true⟩,
  ⟨.map 9 107, 1, 8, (Go.Value.map Option.none), true⟩,
  ⟨.func, 1, 8, Go.Value.nilFunc, true⟩]
def row7 : List TI := [⟨.func, 1, 8, Go.Value.nilFunc, true⟩,
  ⟨.func, 1, 8, Go.Value.nilFunc, true⟩,
  ⟨.func, 1, 8, Go.Value.nilFunc, true⟩,
  ⟨.func, 1, 8, Go.Value.nilFunc, true⟩,
  ⟨.func, 1, 8, Go.Value.nilFunc, true⟩,
  ⟨.struct [(3, 0), (3, 1)], 2, 16, (Go.Value.agg #[Go.Value.int Go.IntKind.i64 0, Go.Value.int Go.IntKind.i64 0]), true⟩,
  ⟨.struct [(3, 0), (3, 1)], 2, 16, (Go.Value.agg #[Go.Value.int Go.IntKind.i64 0, Go.Value.int Go.IntKind.i64 0]), true⟩,
  ⟨.struct [(9, 0), (105, 1)], 2, 40, (Go.Value.agg #[Go.Value.string { data := #[] }, Go.Value.slice Option.none 0 0]), true⟩,
  ⟨.struct [(9, 0), (105, 1)], 2, 40, (Go.Value.agg #[Go.Value.string { data := #[] }, Go.Value.slice Option.none 0 0]), true⟩,
  ⟨.func, 1, 8, Go.Value.nilFunc, true⟩,
  ⟨.func, 1, 8, Go.Value.nilFunc, true⟩,
  ⟨.func, 1, 8, Go.Value.nilFunc, true⟩,
  ⟨.func, 1, 8, Go.Value.nilFunc, true⟩,
  ⟨.func, 1, 8, Go.Value.nilFunc, true⟩,
  ⟨.func, 1, 8, Go.Value.nilFunc, true⟩,
  ⟨.func, 1, 8, Go.Value.nilFunc, true⟩]
def row8 : List TI := [⟨.func, 1, 8, Go.Value.nilFunc, true⟩,
  ⟨.other, 1, 0, (Go.Value.tuple #[Go.Value.slice Option.none 0 0, Go.Value.int Go.IntKind.i64 0]), true⟩,
  ⟨.func, 1, 8, Go.Value.nilFunc, true⟩,
  ⟨.func, 1, 8, Go.Value.nilFunc, true⟩,
  ⟨.func, 1, 8, Go.Value.nilFunc, true⟩,
  ⟨.func, 1, 8, Go.Value.nilFunc, true⟩,
  ⟨.other, 1, 0, (Go.Value.tuple #[Go.Value.string { data := #[] }, Go.Value.bool Bool.false]), true⟩,
  ⟨.func, 1, 8, Go.Value.nilFunc, true⟩,
  ⟨.other, 1, 0, (Go.Value.tuple #[Go.Value.agg #[Go.Value.string { data := #[] }, Go.Value.int Go.IntKind.i64 0, Go.Value.int Go.IntKind.i64 0, Go.Value.int Go.IntKind.i64 0], Go.Value.bool Bool.false]), true⟩,
  ⟨.func, 1, 8, Go.Value.nilFunc, true⟩,
  ⟨.map 59 89, 1, 8, (Go.Value.map Option.none), true⟩,
  ⟨.map 9 22, 1, 8, (Go.Value.map Option.none), true⟩,
  ⟨.struct [(138, 0), (139, 1)], 2, 16, (Go.Value.agg #[Go.Value.map Option.none, Go.Value.map Option.none]), true⟩,
  ⟨.struct [(138, 0), (139, 1)], 2, 16, (Go.Value.agg #[Go.Value.map Option.none, Go.Value.map Option.none]), true⟩,
  ⟨.other, 1, 0, (Go.Value.tuple #[Go.Value.agg #[Go.Value.map Option.none, Go.Value.map Option.none], Go.Value.int Go.IntKind.i64 0]), true⟩,
  ⟨.func, 1, 8, Go.Value.nilFunc, true⟩]
def row9 : List TI := [⟨.other, 1, 0, (Go.Value.tuple #[Go.Value.slice Option.none 0 0, Go.Value.int Go.IntKind.i64 0]), true⟩,
  ⟨.func, 1, 8, Go.Value.nilFunc, true⟩,
  ⟨.map 9 89, 1, 8, (Go.Value.map Option.none), true⟩,
  ⟨.func, 1, 8, Go.Value.nilFunc, true⟩,
  ⟨.func, 1, 8, Go.Value.nilFunc, true⟩,
  ⟨.func, 1, 8, Go.Value.nilFunc, true⟩,
  ⟨.func, 1, 8, Go.Value.nilFunc, true⟩,
  ⟨.map 9 4, 1, 8, (Go.Value.map Option.none), true⟩,
  ⟨.func, 1, 8, Go.Value.nilFunc, true⟩,
  ⟨.func, 1, 8, Go.Value.nilFunc, true⟩,
  ⟨.slice 3, 1, 24, (Go.Value.slice Option.none 0 0), true⟩,
  ⟨.func, 1, 8, Go.Value.nilFunc, true⟩,
  ⟨.func, 1, 8, Go.Value.nilFunc, true⟩,
  ⟨.func, 1, 8, Go.Value.nilFunc, true⟩,
  ⟨.func, 1, 8, Go.Value.nilFunc, true⟩,
  ⟨.func, 1, 8, Go.Value.nilFunc, true⟩]
def row10 : List TI := [⟨.other, 1, 0, (Go.Value.tuple #[Go.Value.agg #[Go.Value.string { data := #[] }, Go.Value.bool Bool.false, Go.Value.slice Option.none 0 0], Go.Value.bool Bool.false]), true⟩,
  ⟨.func, 1, 8, Go.Value.nilFunc, true⟩,
  ⟨.func, 1, 8, Go.Value.nilFunc, true⟩,
  ⟨.func, 1, 8, Go.Value.nilFunc, true⟩,
  ⟨.func, 1, 8, Go.Value.nilFunc, true⟩,
  ⟨.int .u64, 1, 8, (Go.Value.int Go.IntKind.u64 0), true⟩,
  ⟨.func, 1, 8, Go.Value.nilFunc, true⟩,
  ⟨.func, 1, 8, Go.Value.nilFunc, true⟩,
  ⟨.func, 1, 8, Go.Value.nilFunc, true⟩,
  ⟨.ptr 120, 1, 8, (Go.Value.pointer Option.none), true⟩,
  ⟨.func, 1, 8, Go.Value.nilFunc, true⟩,
  ⟨.func, 1, 8, Go.Value.nilFunc, true⟩,
  ⟨.func, 1, 8, Go.Value.nilFunc, true⟩,
  ⟨.struct [(171, 0), (172, 1)], 2, 16, (Go.Value.agg #[Go.Value.nilFunc, Go.Value.nilFunc]), true⟩,
  ⟨.struct [(171, 0), (172, 1)], 2, 16, (Go.Value.agg #[Go.Value.nilFunc, Go.Value.nilFunc]), true⟩,
  ⟨.array 4 174, 8, 64, (Go.Value.agg #[Go.Value.nilFunc, Go.Value.nilFunc, Go.Value.nilFunc, Go.Value.nilFunc, Go.Value.nilFunc, Go.Value.nilFunc, Go.Value.nilFunc, Go.Value.nilFunc]), true⟩]
def row11 : List TI := [⟨.func, 1, 8, Go.Value.nilFunc, true⟩,
  ⟨.func, 1, 8, Go.Value.nilFunc, true⟩,
  ⟨.func, 1, 8, Go.Value.nilFunc, true⟩,
  ⟨.func, 1, 8, Go.Value.nilFunc, true⟩,
  ⟨.func, 1, 8, Go.Value.nilFunc, true⟩,
  ⟨.func, 1, 8, Go.Value.nilFunc, true⟩,
  ⟨.func, 1, 8, Go.Value.nilFunc, true⟩,
  ⟨.func, 1, 8, Go.Value.nilFunc, true⟩,
  ⟨.slice 105, 1, 24, (Go.Value.slice Option.none 0 0), true⟩,
  ⟨.func, 1, 8, Go.Value.nilFunc, true⟩,
  ⟨.func, 1, 8, Go.Value.nilFunc, true⟩,
  ⟨.func, 1, 8, Go.Value.nilFunc, true⟩,
  ⟨.func, 1, 8, Go.Value.nilFunc, true⟩,
  ⟨.func, 1, 8, Go.Value.nilFunc, true⟩,
  ⟨.func, 1, 8, Go.Value.nilFunc, true⟩,
  ⟨.slice 4, 1, 24, (Go.Value.slice Option.none 0 0), true⟩]
def row12 : List TI := [⟨.func, 1, 8, Go.Value.nilFunc, true⟩,
  ⟨.func, 1, 8, Go.Value.nilFunc, true⟩,
  ⟨.func, 1, 8, Go.Value.nilFunc, true⟩,
  ⟨.array 3 3, 3, 24, (Go.Value.agg #[Go.Value.int Go.IntKind.i64 0, Go.Value.int Go.IntKind.i64 0, Go.Value.int Go.IntKind.i64 0]), true⟩,
  ⟨.func, 1, 8, Go.Value.nilFunc, true⟩,
  ⟨.func, 1, 8, Go.Value.nilFunc, true⟩,
  ⟨.func, 1, 8, Go.Value.nilFunc, true⟩,
  ⟨.func, 1, 8, Go.Value.nilFunc, true⟩,
  ⟨.func, 1, 8, Go.Value.nilFunc, true⟩,
  ⟨.func, 1, 8, Go.Value.nilFunc, true⟩,
  ⟨.int .i64, 1, 8, (Go.Value.int Go.IntKind.i64 0), true⟩,
  ⟨.other, 1, 0, (Go.Value.tuple #[Go.Value.int Go.IntKind.i64 0, Go.Value.int Go.IntKind.i64 0]), true⟩,
  ⟨.func, 1, 8, Go.Value.nilFunc, true⟩,
  ⟨.func, 1, 8, Go.Value.nilFunc, true⟩,
  ⟨.func, 1, 8, Go.Value.nilFunc, true⟩,
  ⟨.other, 1, 0, (Go.Value.tuple #[Go.Value.int Go.IntKind.i64 0, Go.Value.bool Bool.false]), true⟩]
def row13 : List TI := [⟨.func, 1, 8, Go.Value.nilFunc, true⟩,
  ⟨.func, 1, 8, Go.Value.nilFunc, true⟩,
  ⟨.int .u32, 1, 4, (Go.Value.int Go.IntKind.u32 0), true⟩,
  ⟨.func, 1, 8, Go.Value.nilFunc, true⟩,
  ⟨.int .u64, 1, 8, (Go.Value.int Go.IntKind.u64 0), true⟩,
  ⟨.other, 1, 0, (Go.Value.tuple #[Go.Value.string { data := #[] }, Go.Value.int Go.IntKind.i64 0, Go.Value.int Go.IntKind.i64 0]), true⟩,
  ⟨.func, 1, 8, Go.Value.nilFunc, true⟩,
  ⟨.func, 1, 8, Go.Value.nilFunc, true⟩,
  ⟨.func, 1, 8, Go.Value.nilFunc, true⟩,
  ⟨.func, 1, 8, Go.Value.nilFunc, true⟩,
  ⟨.func, 1, 8, Go.Value.nilFunc, true⟩,
  ⟨.func, 1, 8, Go.Value.nilFunc, true⟩,
  ⟨.func, 1, 8, Go.Value.nilFunc, true⟩,
  ⟨.func, 1, 8, Go.Value.nilFunc, true⟩,
  ⟨.map 3 3, 1, 8, (Go.Value.map Option.none), true⟩,
  ⟨.func, 1, 8, Go.Value.nilFunc, true⟩]
def row14 : List TI := [⟨.func, 1, 8, Go.Value.nilFunc, true⟩,
  ⟨.int .u64, 1, 8, (Go.Value.int Go.IntKind.u64 0), true⟩,
  ⟨.func, 1, 8, Go.Value.nilFunc, true⟩,
  ⟨.func, 1, 8, Go.Value.nilFunc, true⟩,
  ⟨.func, 1, 8, Go.Value.nilFunc, true⟩,
  ⟨.ptr 3, 1, 8, (Go.Value.pointer Option.none), true⟩,
  ⟨.func, 1, 8, Go.Value.nilFunc, true⟩,
  ⟨.func, 1, 8, Go.Value.nilFunc, true⟩,
  ⟨.func, 1, 8, Go.Value.nilFunc, true⟩,
  ⟨.func, 1, 8, Go.Value.nilFunc, true⟩,
  ⟨.func, 1, 8, Go.Value.nilFunc, true⟩,
  ⟨.func, 1, 8, Go.Value.nilFunc, true⟩,
  ⟨.func, 1, 8, Go.Value.nilFunc, true⟩,
  ⟨.func, 1, 8, Go.Value.nilFunc, true⟩,
  ⟨.func, 1, 8, Go.Value.nilFunc, true⟩,
  ⟨.func, 1, 8, Go.Value.nilFunc, true⟩]
def row15 : List TI := [⟨.func, 1, 8, Go.Value.nilFunc, true⟩,
  ⟨.ptr 225, 1, 8, (Go.Value.pointer Option.none), true⟩,
  ⟨.other, 1, 0, (Go.Value.tuple #[Go.Value.int Go.IntKind.i64 0, Go.Value.int Go.IntKind.i64 0]), true⟩,
  ⟨.func, 1, 8, Go.Value.nilFunc, true⟩,
  ⟨.func, 1, 8, Go.Value.nilFunc, true⟩,
  ⟨.func, 1, 8, Go.Value.nilFunc, true⟩,
  ⟨.func, 1, 8, Go.Value.nilFunc, true⟩,
  ⟨.func, 1, 8, Go.Value.nilFunc, true⟩,
  ⟨.func, 1, 8, Go.Value.nilFunc, true⟩,
  ⟨.func, 1, 8, Go.Value.nilFunc, true⟩,
  ⟨.other, 1, 0, (Go.Value.tuple #[Go.Value.agg #[Go.Value.string { data := #[] }, Go.Value.bool Bool.false, Go.Value.slice Option.none 0 0], Go.Value.slice Option.none 0 0, Go.Value.bool Bool.false]), true⟩,
  ⟨.func, 1, 8, Go.Value.nilFunc, true⟩,
  ⟨.func, 1, 8, Go.Value.nilFunc, true⟩,
  ⟨.func, 1, 8, Go.Value.nilFunc, true⟩,
  ⟨.func, 1, 8, Go.Value.nilFunc, true⟩,
  ⟨.func, 1, 8, Go.Value.nilFunc, true⟩]
def row16 : List TI := [⟨.func, 1, 8, Go.Value.nilFunc, true⟩,
  ⟨.func, 1, 8, Go.Value.nilFunc, true⟩,
  ⟨.func, 1, 8, Go.Value.nilFunc, true⟩,
  ⟨.func, 1, 8, Go.Value.nilFunc, true⟩,
  ⟨.func, 1, 8, Go.Value.nilFunc, true⟩,
  ⟨.func, 1, 8, Go.Value.nilFunc, true⟩,
  ⟨.func, 1, 8, Go.Value.nilFunc, true⟩,
  ⟨.other, 1, 0, (Go.Value.tuple #[Go.Value.int Go.IntKind.u32 0, Go.Value.int Go.IntKind.u32 0]), true⟩,
  ⟨.func, 1, 8, Go.Value.nilFunc, true⟩,
  ⟨.func, 1, 8, Go.Value.nilFunc, true⟩,
  ⟨.slice 5, 1, 24, (Go.Value.slice Option.none 0 0), true⟩,
  ⟨.func, 1, 8, Go.Value.nilFunc, true⟩,
  ⟨.func, 1, 8, Go.Value.nilFunc, true⟩,
  ⟨.func, 1, 8, Go.Value.nilFunc, true⟩,
  ⟨.func, 1, 8, Go.Value.nilFunc, true⟩,
  ⟨.func, 1, 8, Go.Value.nilFunc, true⟩]
def row17 : List TI := [⟨.func, 1, 8, Go.Value.nilFunc, true⟩,
  ⟨.func, 1, 8, Go.Value.nilFunc, true⟩,
  ⟨.func, 1, 8, Go.Value.nilFunc, true⟩,
  ⟨.other, 1, 0, (Go.Value.tuple #[Go.Value.int Go.IntKind.i32 0, Go.Value.int Go.IntKind.i64 0]), true⟩,
  ⟨.func, 1, 8, Go.Value.nilFunc, true⟩,
  ⟨.func, 1, 8, Go.Value.nilFunc, true⟩,
  ⟨.array 256 5, 256, 256, (Go.Value.agg (([Go.Value.int Go.IntKind.u8 0, Go.Value.int Go.IntKind.u8 0, Go.Value.int Go.IntKind.u8 0, Go.Value.int Go.IntKind.u8 0, Go.Value.int Go.IntKind.u8 0, Go.Value.int Go.IntKind.u8 0, Go.Value.int Go.IntKind.u8 0, Go.Value.int Go.IntKind.u8 0, Go.Value.int Go.IntKind.u8 0, Go.Value.int Go.IntKind.u8 0, Go.Value.int Go.IntKind.u8 0, Go.Value.int Go.IntKind.u8 0, Go.Value.int Go.IntKind.u8 0, Go.Value.int Go.IntKind.u8 0, Go.Value.int Go.IntKind.u8 0, Go.Value.int Go.IntKind.u8 0, Go.Value.int Go.IntKind.u8 0, Go.Value.int Go.IntKind.u8 0, Go.Value.int Go.IntKind.u8 0, Go.Value.int Go.IntKind.u8 0, Go.Value.int Go.IntKind.u8 0, Go.Value.int Go.IntKind.u8 0, Go.Value.int Go.IntKind.u8 0, Go.Value.int Go.IntKind.u8 0, Go.Value.int Go.IntKind.u8 0, Go.Value.int Go.IntKind.u8 0, Go.Value.int Go.IntKind.u8 0, Go.Value.int Go.IntKind.u8 0, Go.Value.int Go.IntKind.u8 0, Go.Value.int Go.IntKind.u8 0, Go.Value.int Go.IntKind.u8 0, Go.Value.int Go.IntKind.u8 0, Go.Value.int Go.IntKind.u8 0, Go.Value.int Go.IntKind.u8 0, Go.Value.int Go.IntKind.u8 0, Go.Value.int Go.IntKind.u8 0, Go.Value.int Go.IntKind.u8 0, Go.Value.int Go.IntKind.u8 0, Go.Value.int Go.IntKind.u8 0, Go.Value.int Go.IntKind.u8 0, Go.Value.int Go.IntKind.u8 0, Go.Value.int Go.IntKind.u8 0, Go.Value.int Go.IntKind.u8 0, Go.Value.int Go.IntKind.u8 0, Go.Value.int Go.IntKind.u8 0, Go.Value.int Go.IntKind.u8 0, Go.Value.int Go.IntKind.u8 0, Go.Value.int Go.IntKind.u8 0, Go.Value.int Go.IntKind.u8 0, Go.Value.int Go.IntKind.u8 0, Go.Value.int Go.IntKind.u8 0, Go.Value.int Go.IntKind.u8 0, Go.Value.int Go.IntKind.u8 0, Go.Value.int Go.IntKind.u8 0, Go.Value.int Go.IntKind.u8 0, Go.Value.int Go.IntKind.u8 0, Go.Value.int Go.IntKind.u8 0, Go.Value.int Go.IntKind.u8 0, Go.Value.int Go.IntKind.u8 0, Go.Value.int Go.IntKind.u8 0, Go.Value.int Go.IntKind.u8 0, Go.Value.int Go.IntKind.u8 0, Go.Value.int Go.IntKind.u8 0, Go.Value.int Go.IntKind.u8 0].append [Go.Value.int Go.IntKind.u8 0, Go.Value.int Go.IntKind.u8 0, Go.Value.int Go.IntKind.u8 0, Go.Value.int Go.IntKind.u8 0, Go.Value.int Go.IntKind.u8 0, Go.Value.int Go.IntKind.u8 0, Go.Value.int Go.IntKind.u8 0, Go.Value.int Go.IntKind.u8 0, Go.Value.int Go.IntKind.u8 0, Go.Value.int Go.IntKind.u8 0, Go.Value.int Go.IntKind.u8 0, Go.Value.int Go.IntKind.u8 0, Go.Value.int Go.IntKind.u8 0, Go.Value.int Go.IntKind.u8 0, Go.Value.int Go.IntKind.u8 0, Go.Value.int Go.IntKind.u8 0, Go.Value.int Go.IntKind.u8 0, Go.Value.int Go.IntKind.u8 0, Go.Value.int Go.IntKind.u8 0, Go.Value.int Go.IntKind.u8 0, Go.Value.int Go.IntKind.u8 0, Go.Value.int Go.IntKind.u8 0, Go.Value.int Go.IntKind.u8 0, Go.Value.int Go.IntKind.u8 0, Go.Value.int Go.IntKind.u8 0, Go.Value.int Go.IntKind.u8 0, Go.Value.int Go.IntKind.u8 0, Go.Value.int Go.IntKind.u8 0, Go.Value.int Go.IntKind.u8 0, Go.Value.int Go.IntKind.u8 0, Go.Value.int Go.IntKind.u8 0, Go.Value.int Go.IntKind.u8 0, Go.Value.int Go.IntKind.u8 0, Go.Value.int Go.IntKind.u8 0, Go.Value.int Go.IntKind.u8 0, Go.Value.int Go.IntKind.u8 0, Go.Value.int Go.IntKind.u8 0, Go.Value.int Go.IntKind.u8 0, Go.Value.int Go.IntKind.u8 0, Go.Value.int Go.IntKind.u8 0, Go.Value.int Go.IntKind.u8 0, Go.Value.int Go.IntKind.u8 0, Go.Value.int Go.IntKind.u8 0, Go.Value.int Go.IntKind.u8 0, Go.Value.int Go.IntKind.u8 0, Go.Value.int Go.IntKind.u8 0, Go.Value.int Go.IntKind.u8 0, Go.Value.int Go.IntKind.u8 0, Go.Value.int Go.IntKind.u8 0, Go.Value.int Go.IntKind.u8 0, Go.Value.int Go.IntKind.u8 0, Go.Value.int Go.IntKind.u8 0, Go.Value.int Go.IntKind.u8 0, Go.Value.int Go.IntKind.u8 0, Go.Value.int Go.IntKind.u8 0, Go.Value.int Go.IntKind.u8 0, Go.Value.int Go.IntKind.u8 0, Go.Value.int Go.IntKind.u8 0, Go.Value.int Go.IntKind.u8 0, Go.Value.int Go.IntKind.u8 0, Go.Value.int Go.IntKind.u8 0, Go.Value.int Go.IntKind.u8 0, Go.Value.int Go.IntKind.u8 0, Go.Value.int Go.IntKind.u8 0]).append ([Go.Value.int Go.IntKind.u8 0, Go.Value.int Go.IntKind.u8 0, Go.Value.int Go.IntKind.u8 0, Go.Value.int Go.IntKind.u8 0, Go.Value.int Go.IntKind.u8 0, Go.Value.int Go.IntKind.u8 0, Go.Value.int Go.IntKind.u8 0, Go.Value.int Go.IntKind.u8 0, Go.Value.int Go.IntKind.u8 0, Go.Value.int Go.IntKind.u8 0, Go.Value.int Go.IntKind.u8 0, Go.Value.int Go.IntKind.u8 0, Go.Value.int Go.IntKind.u8 0, Go.Value.int Go.IntKind.u8 0, Go.Value.int Go.IntKind.u8 0, Go.Value.int Go.IntKind.u8 0, Go.Value.int Go.IntKind.u8 0, Go.Value.int Go.IntKind.u8 0, Go.Value.int Go.IntKind.u8 0, Go.Value.int Go.IntKind.u8 0, Go.Value.int Go.IntKind.u8 0, Go.Value.int Go.IntKind.u8 0, Go.Value.int Go.IntKind.u8 0, Go.Value.int Go.IntKind.u8 0, Go.Value.int Go.IntKind.u8 0, Go.Value.int Go.IntKind.u8 0, Go.Value.int Go.IntKind.u8 0, Go.Value.int Go.IntKind.u8 0, Go.Value.int Go.IntKind.u8 0, Go.Value.int Go.IntKind.u8 0, Go.Value.int Go.IntKind.u8 0, Go.Value.int Go.IntKind.u8 0, Go.Value.int Go.IntKind.u8 0, Go.Value.int Go.IntKind.u8 0, Go.Value.int Go.IntKind.u8 0, Go.Value.int Go.IntKind.u8 0, Go.Value.int Go.IntKind.u8 0, Go.Value.int Go.IntKind.u8 0, Go.Value.int Go.IntKind.u8 0, Go.Value.int Go.IntKind.u8 0, Go.Value.int Go.IntKind.u8 0, Go.Value.int Go.IntKind.u8 0, Go.Value.int Go.IntKind.u8 0, Go.Value.int Go.IntKind.u8 0, Go.Value.int Go.IntKind.u8 0, Go.Value.int Go.IntKind.u8 0, Go.Value.int Go.IntKind.u8 0, Go.Value.int Go.IntKind.u8 0, Go.Value.int Go.IntKind.u8 0, Go.Value.int Go.IntKind.u8 0, Go.Value.int Go.IntKind.u8 0, Go.Value.int Go.IntKind.u8 0, Go.Value.int Go.IntKind.u8 0, Go.Value.int Go.IntKind.u8 0, Go.Value.int Go.IntKind.u8 0, Go.Value.int Go.IntKind.u8 0, Go.Value.int Go.IntKind.u8 0, Go.Value.int Go.IntKind.u8 0, Go.Value.int Go.IntKind.u8 0, Go.Value.int Go.IntKind.u8 0, Go.Value.int Go.IntKind.u8 0, Go.Value.int Go.IntKind.u8 0, Go.Value.int Go.IntKind.u8 0, Go.Value.int Go.IntKind.u8 0].append [Go.Value.int Go.IntKind.u8 0, Go.Value.int Go.IntKind.u8 0, Go.Value.int Go.IntKind.u8 0, Go.Value.int Go.IntKind.u8 0, Go.Value.int Go.IntKind.u8 0, Go.Value.int Go.IntKind.u8 0, Go.Value.int Go.IntKind.u8 0, Go.Value.int Go.IntKind.u8 0, Go.Value.int Go.IntKind.u8 0, Go.Value.int Go.IntKind.u8 0, Go.Value.int Go.IntKind.u8 0, Go.Value.int Go.IntKind.u8 0, Go.Value.int Go.IntKind.u8 0, Go.Value.int Go.IntKind.u8 0, Go.Value.int Go.IntKind.u8 0, Go.Value.int Go.IntKind.u8 0, Go.Value.int Go.IntKind.u8 0, Go.Value.int Go.IntKind.u8 0, Go.Value.int Go.IntKind.u8 0, Go.Value.int Go.IntKind.u8 0, Go.Value.int Go.IntKind.u8 0, Go.Value.int Go.IntKind.u8 0, Go.Value.int Go.IntKind.u8 0, Go.Value.int Go.IntKind.u8 0, Go.Value.int Go.IntKind.u8 0, Go.Value.int Go.IntKind.u8 0, Go.Value.int Go.IntKind.u8 0, Go.Value.int Go.IntKind.u8 0, Go.Value.int Go.IntKind.u8 0, Go.Value.int Go.IntKind.u8 0, Go.Value.int Go.IntKind.u8 0, Go.Value.int Go.IntKind.u8 0, Go.Value.int Go.IntKind.u8 0, Go.Value.int Go.IntKind.u8 0, Go.Value.int Go.IntKind.u8 0, Go.Value.int Go.IntKind.u8 0, Go.Value.int Go.IntKind.u8 0, Go.Value.int Go.IntKind.u8 0, Go.Value.int Go.IntKind.u8 0, Go.Value.int Go.IntKind.u8 0, Go.Value.int Go.IntKind.u8 0, Go.Value.int Go.IntKind.u8 0, Go.Value.int Go.IntKind.u8 0, Go.Value.int Go.IntKind.u8 0, Go.Value.int Go.IntKind.u8 0, Go.Value.int Go.IntKind.u8 0, Go.Value.int Go.IntKind.u8 0, Go.Value.int Go.IntKind.u8 0, Go.Value.int Go.IntKind.u8 0, Go.Value.int Go.IntKind.u8 0, Go.Value.int Go.IntKind.u8 0, Go.Value.int Go.IntKind.u8 0, Go.Value.int Go.IntKind.u8 0, Go.Value.int Go.IntKind.u8 0, Go.Value.int Go.IntKind.u8 0, Go.Value.int Go.IntKind.u8 0, Go.Value.int Go.IntKind.u8 0, Go.Value.int Go.IntKind.u8 0, Go.Value.int Go.IntKind.u8 0, Go.Value.int Go.IntKind.u8 0, Go.Value.int Go.IntKind.u8 0, Go.Value.int Go.IntKind.u8 0, Go.Value.int Go.IntKind.u8 0, Go.Value.int Go.IntKind.u8 0])).toArray), true⟩,
  ⟨.struct [(5, 0), (5, 1)], 2, 2, (Go.Value.agg #[Go.Value.int Go.IntKind.u8 0, Go.Value.int Go.IntKind.u8 0]), true⟩,
  ⟨.struct [(5, 0), (5, 1)], 2, 2, (Go.Value.agg #[Go.Value.int Go.IntKind.u8 0, Go.Value.int Go.IntKind.u8 0]), true⟩,
  ⟨.array 16 280, 32, 32, (Go.Value.agg #[Go.Value.int Go.IntKind.u8 0, Go.Value.int Go.IntKind.u8 0, Go.Value.int Go.IntKind.u8 0, Go.Value.int Go.IntKind.u8 0, Go.Value.int Go.IntKind.u8 0, Go.Value.int Go.IntKind.u8 0, Go.Value.int Go.IntKind.u8 0, Go.Value.int Go.IntKind.u8 0, Go.Value.int Go.IntKind.u8 0, Go.Value.int Go.IntKind.u8 0, Go.Value.int Go.IntKind.u8 0, Go.Value.int Go.IntKind.u8 0, Go.Value.int Go.IntKind.u8 0, Go.Value.int Go.IntKind.u8 0, Go.Value.int Go.IntKind.u8 0, Go.Value.int Go.IntKind.u8 0, Go.Value.int Go.IntKind.u8 0, Go.Value.int Go.IntKind.u8 0, Go.Value.int Go.IntKind.u8 0, Go.Value.int Go.IntKind.u8 0, Go.Value.int Go.IntKind.u8 0, Go.Value.int Go.IntKind.u8 0, Go.Value.int Go.IntKind.u8 0, Go.Value.int Go.IntKind.u8 0, Go.Value.int Go.IntKind.u8 0, Go.Value.int Go.IntKind.u8 0, Go.Value.int Go.IntKind.u8 0, Go.Value.int Go.IntKind.u8 0, Go.Value.int Go.IntKind.u8 0, Go.Value.int Go.IntKind.u8 0, Go.Value.int Go.IntKind.u8 0, Go.Value.int Go.IntKind.u8 0]), true⟩,
  ⟨.func, 1, 8, Go.Value.nilFunc, true⟩,
  ⟨.struct [(17, 0), (17, 1), (17, 2), (9, 3)], 4, 40, (Go.Value.agg #[Go.Value.pointer Option.none, Go.Value.pointer Option.none, Go.Value.pointer Option.none, Go.Value.string { data := #[] }]), false⟩,
  ⟨.struct [(17, 0), (17, 1), (17, 2), (9, 3)], 4, 40, (Go.Value.agg #[Go.Value.pointer Option.none, Go.Value.pointer Option.none, Go.Value.pointer Option.none, Go.Value.string { data := #[] }]), false⟩,
  ⟨.array 0 16, 0, 0, (Go.Value.agg #[]), true⟩,
  ⟨.other, 0, 0, (Go.Value.agg #[]), false⟩,
  ⟨.other, 0, 0, (Go.Value.agg #[]), false⟩]
def row18 : List TI := [⟨.func, 1, 8, Go.Value.nilFunc, true⟩,
  ⟨.int .u8, 1, 1, (Go.Value.int Go.IntKind.u8 0), true⟩,
  ⟨.int .u8, 1, 1, (Go.Value.int Go.IntKind.u8 0), true⟩,
  ⟨.func, 1, 8, Go.Value.nilFunc, true⟩,
  ⟨.ptr 5, 1, 8, (Go.Value.pointer Option.none), true⟩,
  ⟨.int .i32, 1, 4, (Go.Value.int Go.IntKind.i32 0), true⟩,
  ⟨.int .i32, 1, 4, (Go.Value.int Go.IntKind.i32 0), true⟩,
  ⟨.struct [(12, 0), (12, 1), (210, 2), (289, 3), (5, 4), (5, 5), (290, 6), (291, 7), (292, 8), (293, 9), (294, 10)], 11, 48, (Go.Value.agg #[Go.Value.int Go.IntKind.u64 0, Go.Value.int Go.IntKind.u64 0, Go.Value.int Go.IntKind.u32 0, Go.Value.int Go.IntKind.u8 0, Go.Value.int Go.IntKind.u8 0, Go.Value.int Go.IntKind.u8 0, Go.Value.int Go.IntKind.u8 0, Go.Value.nilFunc, Go.Value.pointer Option.none, Go.Value.int Go.IntKind.i32 0, Go.Value.int Go.IntKind.i32 0]), false⟩,
  ⟨.struct [(12, 0), (12, 1), (210, 2), (289, 3), (5, 4), (5, 5), (290, 6), (291, 7), (292, 8), (293, 9), (294, 10)], 11, 48, (Go.Value.agg #[Go.Value.int Go.IntKind.u64 0, Go.Value.int Go.IntKind.u64 0, Go.Value.int Go.IntKind.u32 0, Go.Value.int Go.IntKind.u8 0, Go.Value.int Go.IntKind.u8 0, Go.Value.int Go.IntKind.u8 0, Go.Value.int Go.IntKind.u8 0, Go.Value.nilFunc, Go.Value.pointer Option.none, Go.Value.int Go.IntKind.i32 0, Go.Value.int Go.IntKind.i32 0]), false⟩,
  ⟨.slice 310, 1, 24, (Go.Value.slice Option.none 0 0), true⟩,
  ⟨.slice 312, 1, 24, (Go.Value.slice Option.none 0 0), true⟩,
  ⟨.slice 314, 1, 24, (Go.Value.slice Option.none 0 0), true⟩,
  ⟨.slice 316, 1, 24, (Go.Value.slice Option.none 0 0), true⟩,
  ⟨.struct [(9, 0), (297, 1), (298, 2), (299, 3), (300, 4)], 5, 112, (Go.Value.agg #[Go.Value.string { data := #[] }, Go.Value.slice Option.none 0 0, Go.Value.slice Option.none 0 0, Go.Value.slice Option.none 0 0, Go.Value.slice Option.none 0 0]), true⟩,
  ⟨.struct [(9, 0), (297, 1), (298, 2), (299, 3), (300, 4)], 5, 112, (Go.Value.agg #[Go.Value.string { data := #[] }, Go.Value.slice Option.none 0 0, Go.Value.slice Option.none 0 0, Go.Value.slice Option.none 0 0, Go.Value.slice Option.none 0 0]), true⟩,
  ⟨.other, 1, 8, (Go.Value.pointer Option.none), true⟩]
def row19 : List TI := [⟨.slice 318, 1, 24, (Go.Value.slice Option.none 0 0), true⟩,
  ⟨.slice 308, 1, 24, (Go.Value.slice Option.none 0 0), true⟩,
  ⟨.slice 320, 1, 24, (Go.Value.slice Option.none 0 0), true⟩,
  ⟨.struct [(3, 0), (9, 1), (9, 2), (305, 3), (306, 4)], 5, 88, (Go.Value.agg #[Go.Value.int Go.IntKind.i64 0, Go.Value.string { data := #[] }, Go.Value.string { data := #[] }, Go.Value.slice Option.none 0 0, Go.Value.slice Option.none 0 0]), true⟩,
  ⟨.struct [(3, 0), (9, 1), (9, 2), (305, 3), (306, 4)], 5, 88, (Go.Value.agg #[Go.Value.int Go.IntKind.i64 0, Go.Value.string { data := #[] }, Go.Value.string { data := #[] }, Go.Value.slice Option.none 0 0, Go.Value.slice Option.none 0 0]), true⟩,
  ⟨.struct [(9, 0), (304, 1), (308, 2), (308, 7)], 12, 216, (Go.Value.agg #[Go.Value.string { data := #[] }, Go.Value.slice Option.none 0 0, Go.Value.int Go.IntKind.i64 0, Go.Value.string { data := #[] }, Go.Value.string { data := #[] }, Go.Value.slice Option.none 0 0, Go.Value.slice Option.none 0 0, Go.Value.int Go.IntKind.i64 0, Go.Value.string { data := #[] }, Go.Value.string { data := #[] }, Go.Value.slice Option.none 0 0, Go.Value.slice Option.none 0 0]), true⟩,
  ⟨.struct [(9, 0), (304, 1), (308, 2), (308, 7)], 12, 216, (Go.Value.agg #[Go.Value.string { data := #[] }, Go.Value.slice Option.none 0 0, Go.Value.int Go.IntKind.i64 0, Go.Value.string { data := #[] }, Go.Value.string { data := #[] }, Go.Value.slice Option.none 0 0, Go.Value.slice Option.none 0 0, Go.Value.int Go.IntKind.i64 0, Go.Value.string { data := #[] }, Go.Value.string { data := #[] }, Go.Value.slice Option.none 0 0, Go.Value.slice Option.none 0 0]), true⟩,
  ⟨.struct [(9, 0), (304, 1), (308, 2)], 7, 128, (Go.Value.agg #[Go.Value.string { data := #[] }, Go.Value.slice Option.none 0 0, Go.Value.int Go.IntKind.i64 0, Go.Value.string { data := #[] }, Go.Value.string { data := #[] }, Go.Value.slice Option.none 0 0, Go.Value.slice Option.none 0 0]), true⟩,
  ⟨.struct [(9, 0), (304, 1), (308, 2)], 7, 128, (Go.Value.agg #[Go.Value.string { data := #[] }, Go.Value.slice Option.none 0 0, Go.Value.int Go.IntKind.i64 0, Go.Value.string { data := #[] }, Go.Value.string { data := #[] }, Go.Value.slice Option.none 0 0, Go.Value.slice Option.none 0 0]), true⟩,
  ⟨.struct [(9, 0), (9, 1), (9, 2)], 3, 48, (Go.Value.agg #[Go.Value.string { data := #[] }, Go.Value.string { data := #[] }, Go.Value.string { data := #[] }]), true⟩,
  ⟨.struct [(9, 0), (9, 1), (9, 2)], 3, 48, (Go.Value.agg #[Go.Value.string { data := #[] }, Go.Value.string { data := #[] }, Go.Value.string { data := #[] }]), true⟩,
  ⟨.struct [(9, 0), (9, 1)], 2, 32, (Go.Value.agg #[Go.Value.string { data := #[] }, Go.Value.string { data := #[] }]), true⟩,
  ⟨.struct [(9, 0), (9, 1)], 2, 32, (Go.Value.agg #[Go.Value.string { data := #[] }, Go.Value.string { data := #[] }]), true⟩,
  ⟨.struct [(9, 0), (3, 1), (308, 2)], 7, 112, (Go.Value.agg #[Go.Value.string { data := #[] }, Go.Value.int Go.IntKind.i64 0, Go.Value.int Go.IntKind.i64 0, Go.Value.string { data := #[] }, Go.Value.string { data := #[] }, Go.Value.slice Option.none 0 0, Go.Value.slice Option.none 0 0]), true⟩,
  ⟨.struct [(9, 0), (3, 1), (308, 2)], 7, 112, (Go.Value.agg #[Go.Value.string { data := #[] }, Go.Value.int Go.IntKind.i64 0, Go.Value.int Go.IntKind.i64 0, Go.Value.string { data := #[] }, Go.Value.string { data := #[] }, Go.Value.slice Option.none 0 0, Go.Value.slice Option.none 0 0]), true⟩,
  ⟨.struct [(9, 0), (308, 1), (4, 6)], 7, 112, (Go.Value.agg #[Go.Value.string { data := #[] }, Go.Value.int Go.IntKind.i64 0, Go.Value.string { data := #[] }, Go.Value.string { data := #[] }, Go.Value.slice Option.none 0 0, Go.Value.slice Option.none 0 0, Go.Value.bool Bool.false]), true⟩]
def row20 : List TI := [⟨.struct [(9, 0), (308, 1), (4, 6)], 7, 112, (Go.Value.agg #[Go.Value.string { data := #[] }, Go.Value.int Go.IntKind.i64 0, Go.Value.string { data := #[] }, Go.Value.string { data := #[] }, Go.Value.slice Option.none 0 0, Go.Value.slice Option.none 0 0, Go.Value.bool Bool.false]), true⟩]
def tbl : List (List TI) := [row0, row1, row2, row3, row4, row5, row6, row7, row8, row9, row10, row11, row12, row13, row14, row15, row16, row17, row18, row19, row20]
def tab : Tab := fun t => nthL dTI (nthL [] tbl (t / 16)) (t % 16)
theorem tab_rows : (List.range 336).map tab = (List.range 336).map (tiOf Tryz.prog) := by kernel_rfl
theorem nthL_ge {α : Type} (d : α) : ∀ (l : List α) (n : Nat), l.length ≤ n → nthL d l n = d
  | [], _, _ => rfl
  | _ :: _, 0, h => by simp at h
  | _ :: r, n + 1, h => nthL_ge d r n (by simpa using h)
theorem tab_ok : TabOk Tryz.prog tab := by
  intro t
  by_cases h : t < 336
  · have := congrArg (fun l => l[t]?) tab_rows
    rw [List.getElem?_map, List.getElem?_map, List.getElem?_range h, Option.map_some, Option.map_some] at this
    exact .inr (Option.some.inj this)
  · have h1 : nthL ([] : List TI) tbl (t / 16) = [] := nthL_ge _ _ _ (by show 21 ≤ t / 16; omega)
    have h2 : tab t = dTI := by unfold tab; rw [h1]; rfl
    exact .inl h2
end Go.Eng

namespace Go.Eng

def seg {α : Type} (l : List α) (o k : Nat) : List α := (l.drop o).take k

theorem ksL_len : ∀ {l : List KS} {vs : List Value}, ksL l vs = true → vs.length = l.length
  | [], [], _ => rfl
  | k :: r, v :: s, h => by
    unfold ksL at h; split at h
    · simp [ksL_len h]
    · cases h
theorem ksL_app : ∀ {a b : List KS} {vs : List Value}, ksL (a ++ b) vs = true → ksL a (vs.take a.length) = true ∧ ksL b (vs.drop a.length) = true
  | [], b, vs, h => ⟨by cases vs <;> rfl, by simpa using h⟩
  | k :: a, b, [], h => by simp [ksL] at h
  | k :: a, b, v :: vs, h => by
    simp only [List.cons_append, ksL] at h
    split at h
    · rename_i hk
      obtain ⟨h1, h2⟩ := ksL_app h
      simp only [List.length_cons, List.take_succ_cons, List.drop_succ_cons, ksL, hk]
      exact ⟨h1, h2⟩
    · cases h
theorem seg_seg {α : Type} (l : List α) (o k a b : Nat) (h : a + b ≤ k) : seg (seg l o k) a b = seg l (o + a) b := by
  unfold seg
  rw [List.drop_take, List.drop_drop, List.take_take]
  congr 1
  omega
theorem seg_len {α : Type} (l : List α) (o k : Nat) : (seg l o k).length = min k (l.length - o) := by simp [seg]
theorem seg_take {α : Type} (l : List α) (o k a : Nat) (h : a ≤ k) : (seg l o k).take a = seg l o a := by
  unfold seg; rw [List.take_take]; congr 1; omega
theorem seg_drop {α : Type} (l : List α) (o k a : Nat) : (seg l o k).drop a = seg l (o + a) (k - a) := by
  unfold seg; rw [List.drop_take, List.drop_drop]
theorem seg_split {α : Type} (l m : List α) (o a b : Nat) : (seg l o (a + b) = seg m o (a + b)) ↔ (seg l o a = seg m o a ∧ seg l (o + a) b = seg m (o + a) b) := by
  constructor
  · intro h
    constructor
    · rw [← seg_take l o (a + b) a (by omega), h, seg_take m o (a + b) a (by omega)]
    · have h1 := congrArg (List.drop a) h
      rw [seg_drop, seg_drop, Nat.add_sub_cancel_left] at h1
      exact h1
  · rintro ⟨h1, h2⟩
    have e : ∀ x : List α, seg x o (a + b) = seg x o a ++ seg x (o + a) b := fun x => by
      unfold seg; rw [List.take_add, List.drop_drop]
    rw [e, e, h1, h2]

section
variable {P : Program} {T : Tab} (hT : TabOk P T)
include hT

theorem run_part_scalar (w : World) {t : Nat} (hd : (T t).d ≠ .other) (hs : aggT (T t).d = false) (xs : Array Value) (o : Nat) (x : Value) (h : xs[o]? = some x) :
    (part t xs o).run P w = .ok x w := by
  unfold part
  simp [Sem.run_bind, hT.isAgg w hd, hs, h]
theorem run_part_agg (w : World) {t : Nat} (hd : (T t).d ≠ .other) (hs : aggT (T t).d = true) (xs : Array Value) (o : Nat) :
    (part t xs o).run P w = .ok (.agg (xs.extract o (o + (T t).size))) w := by
  unfold part
  simp [Sem.run_bind, hT.isAgg w hd, hs, hT.size w hd]

def EqSem (P : Program) (w : World) (d t : Nat) (xs ys : Array Value) (o k : Nat) : Prop :=
  ∃ b : Bool, (do let a ← part t xs o; let b ← part t ys o; Op.equalIn d t a b).run P w = .ok b w ∧ (b = true ↔ seg xs.toList o k = seg ys.toList o k)

omit hT in
theorem seg_one {xs : Array Value} {o : Nat} {k : KS} (h : ksL [k] (seg xs.toList o 1) = true) : ∃ x, xs[o]? = some x ∧ ksB k x = true ∧ seg xs.toList o 1 = [x] := by
  have hl := ksL_len h
  rw [seg_len] at hl
  simp at hl
  have hlt : o < xs.size := by omega
  have e : seg xs.toList o 1 = [xs[o]] := by
    unfold seg
    rw [List.drop_eq_getElem_cons (by simpa using hlt)]
    simp
  rw [e] at h
  refine ⟨xs[o], by simp [hlt], ?_, e⟩
  unfold ksL at h
  split at h
  · assumption
  · cases h

omit hT in
theorem flatGo_fields {f : Nat → Option (List KS)} : ∀ {fs : List (Nat × Nat)} {n : Nat} {l : List KS}, flatGo f n fs = some l →
    match fs with | [] => l = [] | (t, o) :: r => o = n ∧ ∃ a b, f t = some a ∧ flatGo f (n + a.length) r = some b ∧ l = a ++ b
  | [], n, l, h => by cases h; rfl
  | (t, o) :: r, n, l, h => by
    unfold flatGo at h
    split at h
    · rename_i ho
      split at h
      · rename_i a ha
        split at h
        · rename_i b hb
          cases h
          exact ⟨Nat.eq_of_beq_eq_true ho, a, b, ha, hb, rfl⟩
        · cases h
      · cases h
    · cases h

omit hT in
theorem eqFields_flat (w : World) (n d : Nat) (hB : ∀ t l, flatT T n t = some l → ∀ xs ys o, ksL l (seg xs.toList o l.length) = true → ksL l (seg ys.toList o l.length) = true → EqSem P w d t xs ys o l.length) :
    ∀ (fa : List Field) (m : Nat) (l : List KS), (∀ f ∈ fa, f.name ≠ "_") → flatGo (flatT T n) m (fa.map fun f => (f.type, f.offset)) = some l →
      ∀ xs ys : Array Value, ksL l (seg xs.toList m l.length) = true → ksL l (seg ys.toList m l.length) = true →
        ∃ b : Bool, (Op.eqFields d xs ys fa).run P w = .ok b w ∧ (b = true ↔ seg xs.toList m l.length = seg ys.toList m l.length)
  | [], m, l, _, h, xs, ys, _, _ => by
    cases h
    exact ⟨true, rfl, by simp [seg]⟩
  | f :: fa, m, l, hn, h, xs, ys, hx, hy => by
    obtain ⟨ho, a, b, ha, hb, rfl⟩ := flatGo_fields h
    rw [List.length_append] at hx hy ⊢
    obtain ⟨x1, x2⟩ := ksL_app hx
    obtain ⟨y1, y2⟩ := ksL_app hy
    rw [seg_take _ _ _ _ (by omega)] at x1 y1
    rw [seg_drop, Nat.add_sub_cancel_left] at x2 y2
    obtain ⟨c, c1, c2⟩ := hB _ _ ha xs ys m x1 y1
    obtain ⟨e, e1, e2⟩ := eqFields_flat w n d hB fa (m + a.length) b (fun f hf => hn f (List.mem_cons_of_mem _ hf)) hb xs ys x2 y2
    have hne := hn f (List.mem_cons_self ..)
    have c1' : (do let x ← part f.type xs f.offset; let y ← part f.type ys f.offset; Op.equalIn d f.type x y).run P w = .ok c w := by rw [ho]; exact c1
    have hrun : (Op.eqFields d xs ys (f :: fa)).run P w = .ok (if c = true then e else false) w := by
      unfold Op.eqFields
      rw [if_pos hne]
      simp only [Sem.run_bind] at c1' ⊢
      generalize (part f.type xs f.offset).run P w = r1 at c1' ⊢
      cases r1 with
      | halt x w1 => cases c1'
      | ok u w1 =>
        simp only [Result.andThen_ok] at c1' ⊢
        generalize (part f.type ys f.offset).run P w1 = r2 at c1' ⊢
        cases r2 with
        | halt x w1 => cases c1'
        | ok u2 w2 =>
          simp only [Result.andThen_ok] at c1' ⊢
          rw [c1']
          simp only [Result.andThen_ok]
          cases c <;> simp [e1]
    refine ⟨_, hrun, ?_⟩
    rw [seg_split]
    cases c <;> cases e <;> simp_all

theorem eq_flat (w : World) : ∀ (n t : Nat) (l : List KS), flatT T n t = some l → ∀ d, n ≤ d → ∀ (xs ys : Array Value) (o : Nat), ksL l (seg xs.toList o l.length) = true → ksL l (seg ys.toList o l.length) = true →
    EqSem P w d t xs ys o l.length
  | 0, t, l, h => by simp [flatT] at h
  | n + 1, t, l, h => by
    intro d hd xs ys o hx hy
    obtain ⟨d, rfl⟩ : ∃ d', d = d' + 1 := ⟨d - 1, by omega⟩
    unfold flatT at h
    split at h
    · rename_i k hk
      split at h
      · cases h
        obtain ⟨x, x1, x2, x3⟩ := seg_one hx
        obtain ⟨y, y1, y2, y3⟩ := seg_one hy
        have hdd : (T t).d ≠ .other := by rw [hk]; simp
        have hs : aggT (T t).d = false := by rw [hk]; rfl
        cases x <;> simp [ksB] at x2
        cases y <;> simp [ksB] at y2
        rename_i k1 n1 k2 n2
        obtain rfl := ikB_eq x2
        obtain rfl := ikB_eq y2
        refine ⟨n1 == n2, ?_, ?_⟩
        · simp [Sem.run_bind, run_part_scalar hT w hdd hs xs o _ x1, run_part_scalar hT w hdd hs ys o _ y1, run_equalIn_int w d t k k n1 n2 (hT.int hk)]
        · simp only [List.length_singleton]; rw [x3, y3]; simp
      · cases h
    · rename_i hk
      split at h
      · cases h
        obtain ⟨x, x1, x2, x3⟩ := seg_one hx
        obtain ⟨y, y1, y2, y3⟩ := seg_one hy
        have hdd : (T t).d ≠ .other := by rw [hk]; simp
        have hs : aggT (T t).d = false := by rw [hk]; rfl
        cases x <;> simp [ksB] at x2
        cases y <;> simp [ksB] at y2
        rename_i s1 s2
        refine ⟨s1.toList == s2.toList, ?_, ?_⟩
        · simp [Sem.run_bind, run_part_scalar hT w hdd hs xs o _ x1, run_part_scalar hT w hdd hs ys o _ y1, run_equalIn_string w d t s1 s2 (hT.string hk)]
        · simp only [List.length_singleton]; rw [x3, y3, toList_beq]; simp
      · cases h
    · rename_i hk
      split at h
      · cases h
        obtain ⟨x, x1, x2, x3⟩ := seg_one hx
        obtain ⟨y, y1, y2, y3⟩ := seg_one hy
        have hdd : (T t).d ≠ .other := by rw [hk]; simp
        have hs : aggT (T t).d = false := by rw [hk]; rfl
        cases x <;> simp [ksB] at x2
        cases y <;> simp [ksB] at y2
        rename_i s1 s2
        refine ⟨s1 == s2, ?_, ?_⟩
        · simp [Sem.run_bind, run_part_scalar hT w hdd hs xs o _ x1, run_part_scalar hT w hdd hs ys o _ y1, run_equalIn_bool' w d t s1 s2 (hT.bool hk)]
        · simp only [List.length_singleton]; rw [x3, y3]; simp
      · cases h
    · rename_i fs hk
      split at h
      · rename_i hok
        split at h
        · rename_i l' hgo
          split at h
          · rename_i hlen
            cases h
            have hlen := Nat.eq_of_beq_eq_true hlen
            have hdd : (T t).d ≠ .other := by rw [hk]; simp
            have hs : aggT (T t).d = true := by rw [hk]; rfl
            obtain ⟨fa, u1, u2, u3⟩ := hT.struct hk
            obtain ⟨_, _, _, _, _, _, _, _, _, _, hq⟩ := hT.get hdd
            obtain ⟨q1, q2⟩ := hq hok
            rw [u2] at hgo
            have hf : P.fieldsOf t = fa := by simp [Program.fieldsOf, u1]
            have ex : ∀ zs : Array Value, (zs.extract o (o + (T t).size)).toList = seg zs.toList o l.length := fun zs => by
              rw [← hlen]; simp [seg]
            have s0 : ∀ zs : Array Value, seg (seg zs.toList o l.length) 0 l.length = seg zs.toList o l.length := fun zs => by
              rw [seg_seg _ _ _ _ _ (by omega)]; rfl
            obtain ⟨b, b1, b2⟩ := eqFields_flat w n d (fun t l h xs ys o hx hy => eq_flat w n t l h d (by omega) xs ys o hx hy) fa.toList 0 l u3 hgo (xs.extract o (o + (T t).size)) (ys.extract o (o + (T t).size))
              (by rw [ex, s0]; exact hx) (by rw [ex, s0]; exact hy)
            rw [ex, ex, s0, s0] at b2
            refine ⟨b, ?_, b2⟩
            simp only [Sem.run_bind, run_part_agg hT w hdd hs, Result.andThen_ok]
            rw [run_equalIn_struct w d t _ _ (by rw [hf]; exact u1) q1, hf]
            exact b1
          · cases h
        · cases h
      · cases h
    · cases h

end
end Go.Eng

namespace Go.Eng

theorem ksAV_vals : ∀ {l : List KS} {xs : List AV}, ksAV l xs = true → ∃ vs : List Value, xs = vs.map .v ∧ ksL l vs = true
  | [], [], _ => ⟨[], rfl, rfl⟩
  | k :: r, a :: s, h => by
    cases a with
    | v x =>
      simp only [ksAV] at h
      split at h
      · rename_i h1
        obtain ⟨vs, rfl, h3⟩ := ksAV_vals h
        exact ⟨x :: vs, rfl, by simp [ksL, h1, h3]⟩
      · cases h
    | _ => simp [ksAV] at h
  | [], _ :: _, h => by simp [ksAV] at h
  | _ :: _, [], h => by simp [ksAV] at h
theorem eqL_vals : ∀ {l : List KS} {vs us : List Value}, ksL l vs = true → ksL l us = true → (eqL (vs.map .v) (us.map .v) ↔ vs = us)
  | [], [], [], _, _ => by simp [eqL]
  | k :: r, v :: vs, u :: us, h1, h2 => by
    simp only [ksL] at h1 h2
    split at h1
    · rename_i e1
      split at h2
      · rename_i e2
        have ih := eqL_vals h1 h2
        cases k <;> cases v <;> simp [ksB] at e1 <;> cases u <;> simp [ksB] at e2 <;> simp only [List.map_cons, eqL, ih, List.cons.injEq]
        · rename_i k1 n1 k2 n2
          obtain rfl := ikB_eq e1
          obtain rfl := ikB_eq e2
          simp
        · simp
        · simp
      · cases h2
    · cases h1
  | [], _ :: _, _, h, _ => by simp [ksL] at h
  | _ :: _, [], _, h, _ => by simp [ksL] at h
  | [], [], _ :: _, _, h => by simp [ksL] at h
  | _ :: _, _ :: _, [], _, h => by simp [ksL] at h
theorem Rep.v_eq {g : Gh} {w : World} {U : Nat → Prop} {a x : Value} (h : Rep g w U (.v a) x) : x = a := by cases h; rfl
theorem Rep.agg_vals {g : Gh} {w : World} {U : Nat → Prop} {vs : List Value} {x : Value} (h : Rep g w U (.agg (vs.map .v)) x) : x = .agg vs.toArray := by
  cases h with
  | agg _ _ us hs h1 hr =>
    congr 1
    apply Array.ext'
    apply List.ext_getElem?
    intro i
    simp only [List.length_map] at hs
    by_cases hi : i < vs.length
    · have hi' : i < us.size := by omega
      have := hr i (.v vs[i]) us[i] (by simp [hi]) (by simp [hi'])
      have := this.v_eq
      simp [hi, hi', this]
    · rw [List.getElem?_eq_none (by simp; omega), List.getElem?_eq_none (by simpa using hi)]

theorem run_equal_slice_nil {P : Program} (w : World) {t e : Nat} (hu : P.underlying t = some (.slice e)) (a : Option Addr) (n c : Nat) :
    (Op.equal t (.slice a n c) (.slice none 0 0)).run P w = .ok a.isNone w := by
  have key : ∀ d, (Op.equalIn (d + 1) t (.slice a n c) (.slice none 0 0)).run P w = .ok a.isNone w := fun d => by
    cases a <;> simp [Op.equalIn, run_underlying hu]
  exact key 9999
theorem run_equal_ptr_nil {P : Program} (w : World) {t e : Nat} (hu : P.underlying t = some (.pointer e)) (a : Option Addr) :
    (Op.equal t (.pointer a) (.pointer none)).run P w = .ok a.isNone w := by
  have key : ∀ d, (Op.equalIn (d + 1) t (.pointer a) (.pointer none)).run P w = .ok a.isNone w := fun d => by
    cases a <;> simp [Op.equalIn, run_underlying hu]
  exact key 9999

section
variable {P : Program} {T : Tab} {h : Nat → HO} {g : Gh} {w : World} {K : AV → Prop}

theorem binK_int {op : BinOp} {t : Nat} {X Y : Operand} {k k' : IntKind} {a b : Int} (hk : binK T op t (.v (.int k a)) (.v (.int k' b)) K) :
    Gives P h g w (do eqGuard op t X Y (.int k a) (.int k' b); binOp op t (.int k a) (.int k' b)) K := by
  unfold binK at hk
  dsimp only at hk
  split at hk
  · exact hk.elim
  · rename_i e
    obtain rfl := ikB_eq e
    cases op <;> dsimp only at hk
    case eql => exact Gives.bool (b := a == b) (by simp [eqGuard, binOp, Op.intCmp]) (by simp) hk
    case neq => exact Gives.bool (b := a != b) (by simp [eqGuard, binOp, Op.intCmp]) (by simp) hk
    case lss => exact Gives.bool (b := decide (a < b)) (by simp [eqGuard, binOp, Op.intCmp]) (by simp) hk
    case leq => exact Gives.bool (b := decide (a ≤ b)) (by simp [eqGuard, binOp, Op.intCmp]) (by simp) hk
    case gtr => exact Gives.bool (b := decide (b < a)) (by simp [eqGuard, binOp, Op.intCmp]) (by simp) hk
    case geq => exact Gives.bool (b := decide (b ≤ a)) (by simp [eqGuard, binOp, Op.intCmp]) (by simp) hk
    all_goals exact arithK_ok hk

theorem binK_str {op : BinOp} {t : Nat} {X Y : Operand} {a b : ByteArray} (hk : binK T op t (.v (.string a)) (.v (.string b)) K) :
    Gives P h g w (do eqGuard op t X Y (.string a) (.string b); binOp op t (.string a) (.string b)) K := by
  unfold binK at hk
  have tri := bytesLess_tri a.toList b.toList
  have tri' := bytesLess_tri b.toList a.toList
  cases op <;> dsimp only at hk
  case eql => exact Gives.bool (b := a.toList == b.toList) (by simp [eqGuard, binOp, Op.stringOp]) (toList_beq a b) hk
  case neq => exact Gives.bool (b := !(a.toList == b.toList)) (by simp [eqGuard, binOp, Op.stringOp]) (by
    have := toList_beq a b
    cases hq : a.toList == b.toList <;> simp_all) hk
  case lss => exact Gives.bool (b := Op.bytesLess a.toList b.toList) (by simp [eqGuard, binOp, Op.stringOp]) (by simp) hk
  case leq => exact Gives.bool (b := Op.bytesLess a.toList b.toList || a.toList == b.toList) (by simp [eqGuard, binOp, Op.stringOp]) (by rw [tri]; simp) hk
  case gtr => exact Gives.bool (b := !(Op.bytesLess a.toList b.toList || a.toList == b.toList)) (by simp [eqGuard, binOp, Op.stringOp]) (by rw [tri]; simp) hk
  case geq => exact Gives.bool (b := !Op.bytesLess a.toList b.toList) (by simp [eqGuard, binOp, Op.stringOp]) (by simp) hk
  case add =>
    refine Gives.val (x := .string (a ++ b)) ?_ hk.2
    have h1 : ¬ ((a.size : Int) + (b.size : Int) > IntKind.i64.max) := by have := hk.1; simp [IntKind.max, IntKind.bits, IntKind.signed]; omega
    simp [eqGuard, binOp, Op.stringOp]
    omega
  all_goals exact hk.elim

theorem notK_bool {b : Bool} {K : AV → Prop} (hk : notK K (.v (.bool b))) : K (.v (.bool (!b))) := by cases b <;> exact hk

theorem eqK_ok (hT : TabOk P T) {t : Nat} {x y : AV} {vx vy : Value} (hx : Rep g w (used h) x vx) (hy : Rep g w (used h) y vy) {K : AV → Prop} (hk : eqK T t x y K) :
    ∃ b : Bool, (Op.equal t vx vy).run P w = .ok b w ∧ K (.v (.bool b)) ∧ (∀ op X Y, (op = .eql ∨ op = .neq) → (eqGuard op t X Y vx vy).run P w = .ok () w) ∧
      binOp .eql t vx vy = (do pure (.bool (← Op.equal t vx vy))) ∧ binOp .neq t vx vy = (do pure (.bool (!(← Op.equal t vx vy)))) := by
  unfold eqK at hk
  split at hk
  · rename_i ht
    split at hk
    · obtain rfl := hx.v_eq
      obtain rfl := hy.v_eq
      refine ⟨_, ?_, hk, fun op X Y _ => by rcases ‹op = _ ∨ op = _› with rfl | rfl <;> simp [eqGuard], rfl, rfl⟩
      rw [Op.equal, Op.maxDepth]
      exact run_equalIn_bool' w 9999 t _ _ (hT.bool ht)
    · exact hk.elim
  · rename_i fs ht
    split at hk
    · split at hk
      · rename_i l hl
        split at hk
        · rename_i k1
          split at hk
          · rename_i k2
            obtain ⟨vs, rfl, s1⟩ := ksAV_vals k1
            obtain ⟨us, rfl, s2⟩ := ksAV_vals k2
            obtain rfl := hx.agg_vals
            obtain rfl := hy.agg_vals
            have hne : (T t).d ≠ .other := by rw [ht]; simp
            obtain ⟨_, _, _, _, _, _, _, _, _, _, hq⟩ := hT.get hne
            have hag : aggT (T t).d = true := by rw [ht]; rfl
            have hfl := hl
            unfold flatT at hfl
            rw [ht] at hfl
            dsimp only at hfl
            split at hfl
            · rename_i hok
              split at hfl
              · split at hfl
                · rename_i hlen
                  cases hfl
                  have hlen := Nat.eq_of_beq_eq_true hlen
                  have e1 : ∀ zs : List Value, ksL l zs = true → seg zs.toArray.toList 0 l.length = zs := fun zs hz => by
                    have := ksL_len hz
                    simp [seg, ← this]
                  obtain ⟨b, b1, b2⟩ := eq_flat hT w 8 t l hl 10000 (by omega) vs.toArray us.toArray 0 (by rw [e1 _ s1]; exact s1) (by rw [e1 _ s2]; exact s2)
                  rw [e1 _ s1, e1 _ s2] at b2
                  have ex : ∀ zs : List Value, ksL l zs = true → zs.toArray.extract 0 (0 + (T t).size) = zs.toArray := fun zs hz => by
                    have := ksL_len hz
                    rw [← hlen, ← this]; simp
                  simp only [Sem.run_bind, run_part_agg hT w hne hag, Result.andThen_ok, ex _ s1, ex _ s2] at b1
                  refine ⟨b, b1, boolK_spec hk (by rw [b2, eqL_vals s1 s2]), fun op X Y _ => run_eqGuard_agg w op t X Y _ _ (hq hok).2, rfl, rfl⟩
                · cases hfl
              · cases hfl
            · cases hfl
          · exact hk.elim
        · exact hk.elim
      · exact hk.elim
    · exact hk.elim
  · rename_i e ht
    have hu := hT.slice ht
    split at hk
    · rename_i tk es
      obtain rfl := hy.v_eq
      obtain ⟨a, n, c, rfl, hn⟩ : ∃ a n c, vx = .slice a n c ∧ (es ≠ [] → a.isNone = false) := by
        have := hx.slice_none
        cases this with
        | snil _ a c => exact ⟨_, _, _, rfl, fun h => absurd rfl h⟩
        | slice _ _ b off sz cap val => exact ⟨_, _, _, rfl, fun _ => rfl⟩
      refine ⟨a.isNone, ?_, ?_, fun op X Y _ => by rcases ‹op = _ ∨ op = _› with rfl | rfl <;> simp [eqGuard], rfl, rfl⟩
      · exact run_equal_slice_nil w hu _ _ _
      · by_cases he : es = []
        · cases a.isNone
          · exact (hk.2 he).2
          · exact (hk.2 he).1
        · rw [hn he]; exact hk.1 he
    · obtain rfl := hx.v_eq
      obtain rfl := hy.v_eq
      refine ⟨true, ?_, hk, fun op X Y _ => by rcases ‹op = _ ∨ op = _› with rfl | rfl <;> simp [eqGuard], rfl, rfl⟩
      exact run_equal_slice_nil w hu _ _ _
    · exact hk.elim
  · rename_i e ht
    have hu := hT.ptr ht
    have key : ∀ a : Addr, vx = .pointer (some a) → vy = .pointer none → K (.v (.bool false)) → ∃ b : Bool, (Op.equal t vx vy).run P w = .ok b w ∧ K (.v (.bool b)) ∧ (∀ op X Y, (op = .eql ∨ op = .neq) → (eqGuard op t X Y vx vy).run P w = .ok () w) ∧
      binOp .eql t vx vy = (do pure (.bool (← Op.equal t vx vy))) ∧ binOp .neq t vx vy = (do pure (.bool (!(← Op.equal t vx vy)))) := by
      rintro a rfl rfl hk
      refine ⟨false, ?_, hk, fun op X Y _ => by rcases ‹op = _ ∨ op = _› with rfl | rfl <;> simp [eqGuard], rfl, rfl⟩
      exact run_equal_ptr_nil w hu _
    split at hk
    · obtain rfl := hx.v_eq
      obtain rfl := hy.v_eq
      refine ⟨true, ?_, hk, fun op X Y _ => by rcases ‹op = _ ∨ op = _› with rfl | rfl <;> simp [eqGuard], rfl, rfl⟩
      exact run_equal_ptr_nil w hu _
    · cases hx; exact key _ rfl hy.v_eq hk
    · cases hx; exact key _ rfl hy.v_eq hk
    · cases hx; exact key _ rfl hy.v_eq hk
    · exact hk.elim
  · exact hk.elim

theorem binK_ok (hT : TabOk P T) {op : BinOp} {t : Nat} {X Y : Operand} {x y : AV} {vx vy : Value} (hx : Rep g w (used h) x vx) (hy : Rep g w (used h) y vy) (hk : binK T op t x y K) :
    Gives P h g w (do eqGuard op t X Y vx vy; binOp op t vx vy) K := by
  unfold binK at hk
  split at hk
  · obtain rfl := hx.v_eq
    obtain rfl := hy.v_eq
    exact binK_int (T := T) (by unfold binK; exact hk)
  · obtain rfl := hx.v_eq
    obtain rfl := hy.v_eq
    exact binK_str (T := T) (by unfold binK; exact hk)
  · split at hk
    · obtain ⟨b, b1, b2, b3, b4, b5⟩ := eqK_ok hT hx hy hk
      refine ⟨_, _, ?_, b2, .v _ _⟩
      simp [Sem.run_bind, b3 .eql X Y (.inl rfl), b4, b1]
    · obtain ⟨b, b1, b2, b3, b4, b5⟩ := eqK_ok hT hx hy hk
      refine ⟨_, _, ?_, notK_bool b2, .v _ _⟩
      simp [Sem.run_bind, b3 .neq X Y (.inr rfl), b5, b1]
    · exact hk.elim
end
end Go.Eng
