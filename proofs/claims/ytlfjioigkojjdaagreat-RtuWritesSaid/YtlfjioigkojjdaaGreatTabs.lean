/- Closed facts on the types and functions of the translation, printed by a program of this repository (tabs.py): where fields lie, what a slice is made of, zero values. No condition. -/
import Derived.Test.YtlfjioigkojjdaaGreatProg
import Derived.Test.YtlfjioigkojjdaaGreatEng
import Derived.KernelRfl
set_option maxRecDepth 100000
namespace Go.Bus
open Go Go.Proofs
noncomputable abbrev PG : Program := Tryz.prog
theorem z1 : ZeroOf PG 1 [.nilFunc] := ⟨.nilFunc, fun _ => by kernel_rfl, rfl⟩
theorem c1 : Cells PG 1 1 := fun _ => by kernel_rfl
theorem z2 : ZeroOf PG 2 [.int .i64 0] := ⟨.int .i64 0, fun _ => by kernel_rfl, rfl⟩
theorem c2 : Cells PG 2 1 := fun _ => by kernel_rfl
theorem z3 : ZeroOf PG 3 [.int .i64 0] := ⟨.int .i64 0, fun _ => by kernel_rfl, rfl⟩
theorem c3 : Cells PG 3 1 := fun _ => by kernel_rfl
theorem z4 : ZeroOf PG 4 [.bool false] := ⟨.bool false, fun _ => by kernel_rfl, rfl⟩
theorem c4 : Cells PG 4 1 := fun _ => by kernel_rfl
theorem z5 : ZeroOf PG 5 [.int .u8 0] := ⟨.int .u8 0, fun _ => by kernel_rfl, rfl⟩
theorem c5 : Cells PG 5 1 := fun _ => by kernel_rfl
theorem z7 : ZeroOf PG 7 [.int .i64 0, .int .i64 0, .bool false, .int .u8 0] := ⟨.agg #[.int .i64 0, .int .i64 0, .bool false, .int .u8 0], fun _ => by kernel_rfl, rfl⟩
theorem c7 : Cells PG 7 4 := fun _ => by kernel_rfl
theorem a7 : Agg PG 7 4 := fun _ => ⟨by kernel_rfl, by kernel_rfl⟩
theorem fa7_0 : FA PG 7 0 0 := fun _ _ => by kernel_rfl
theorem fa7_1 : FA PG 7 1 1 := fun _ _ => by kernel_rfl
theorem fa7_2 : FA PG 7 2 2 := fun _ _ => by kernel_rfl
theorem fa7_3 : FA PG 7 3 3 := fun _ _ => by kernel_rfl
theorem l7 : Lay PG 7 [(0, 1), (1, 1), (2, 1), (3, 1)] := fun _ => ⟨_, Tryz.underlying7, by kernel_rfl⟩
theorem z9 : ZeroOf PG 9 [.string ⟨#[]⟩] := ⟨.string ⟨#[]⟩, fun _ => by kernel_rfl, rfl⟩
theorem c9 : Cells PG 9 1 := fun _ => by kernel_rfl
theorem z12 : ZeroOf PG 12 [.int .u64 0] := ⟨.int .u64 0, fun _ => by kernel_rfl, rfl⟩
theorem c12 : Cells PG 12 1 := fun _ => by kernel_rfl
theorem z13 : ZeroOf PG 13 [.string ⟨#[]⟩, .int .u64 0] := ⟨.agg #[.string ⟨#[]⟩, .int .u64 0], fun _ => by kernel_rfl, rfl⟩
theorem c13 : Cells PG 13 2 := fun _ => by kernel_rfl
theorem a13 : Agg PG 13 2 := fun _ => ⟨by kernel_rfl, by kernel_rfl⟩
theorem fa13_0 : FA PG 13 0 0 := fun _ _ => by kernel_rfl
theorem fa13_1 : FA PG 13 1 1 := fun _ _ => by kernel_rfl
theorem l13 : Lay PG 13 [(0, 1), (1, 1)] := fun _ => ⟨_, Tryz.underlying13, by kernel_rfl⟩
theorem z15 : ZeroOf PG 15 [.pointer none] := ⟨.pointer none, fun _ => by kernel_rfl, rfl⟩
theorem c15 : Cells PG 15 1 := fun _ => by kernel_rfl
theorem z16 : ZeroOf PG 16 [.pointer none] := ⟨.pointer none, fun _ => by kernel_rfl, rfl⟩
theorem c16 : Cells PG 16 1 := fun _ => by kernel_rfl
theorem z17 : ZeroOf PG 17 [.pointer none] := ⟨.pointer none, fun _ => by kernel_rfl, rfl⟩
theorem c17 : Cells PG 17 1 := fun _ => by kernel_rfl
theorem z18 : ZeroOf PG 18 [.pointer none] := ⟨.agg #[.pointer none], fun _ => by kernel_rfl, rfl⟩
theorem c18 : Cells PG 18 1 := fun _ => by kernel_rfl
theorem a18 : Agg PG 18 1 := fun _ => ⟨by kernel_rfl, by kernel_rfl⟩
theorem fa18_0 : FA PG 18 0 0 := fun _ _ => by kernel_rfl
theorem l18 : Lay PG 18 [(0, 1)] := fun _ => ⟨_, Tryz.underlying18, by kernel_rfl⟩
theorem z20 : ZeroOf PG 20 [.nilIface] := ⟨.nilIface, fun _ => by kernel_rfl, rfl⟩
theorem c20 : Cells PG 20 1 := fun _ => by kernel_rfl
theorem z21 : ZeroOf PG 21 [.int .i32 0] := ⟨.int .i32 0, fun _ => by kernel_rfl, rfl⟩
theorem c21 : Cells PG 21 1 := fun _ => by kernel_rfl
theorem z22 : ZeroOf PG 22 [.slice none 0 0] := ⟨.slice none 0 0, fun _ => by kernel_rfl, rfl⟩
theorem c22 : Cells PG 22 1 := fun _ => by kernel_rfl
theorem el22 : El PG 22 5 1 1 := el_of (z := .int .u8 0) Tryz.underlying22 (by kernel_rfl) rfl (by decide)
theorem z23 : ZeroOf PG 23 [.nilFunc] := ⟨.nilFunc, fun _ => by kernel_rfl, rfl⟩
theorem c23 : Cells PG 23 1 := fun _ => by kernel_rfl
theorem z24 : ZeroOf PG 24 [.int .u16 0] := ⟨.int .u16 0, fun _ => by kernel_rfl, rfl⟩
theorem c24 : Cells PG 24 1 := fun _ => by kernel_rfl
theorem z25 : ZeroOf PG 25 [.slice none 0 0] := ⟨.slice none 0 0, fun _ => by kernel_rfl, rfl⟩
theorem c25 : Cells PG 25 1 := fun _ => by kernel_rfl
theorem el25 : El PG 25 24 1 2 := el_of (z := .int .u16 0) Tryz.underlying25 (by kernel_rfl) rfl (by decide)
theorem z26 : ZeroOf PG 26 [.slice none 0 0] := ⟨.slice none 0 0, fun _ => by kernel_rfl, rfl⟩
theorem c26 : Cells PG 26 1 := fun _ => by kernel_rfl
theorem el26 : El PG 26 4 1 1 := el_of (z := .bool false) Tryz.underlying26 (by kernel_rfl) rfl (by decide)
theorem z27 : ZeroOf PG 27 [.slice none 0 0] := ⟨.slice none 0 0, fun _ => by kernel_rfl, rfl⟩
theorem c27 : Cells PG 27 1 := fun _ => by kernel_rfl
theorem el27 : El PG 27 76 4 32 := el_of (z := .agg #[.int .u16 0, .int .u16 0, .int .u16 0, .slice none 0 0]) Tryz.underlying27 (by kernel_rfl) rfl (by decide)
theorem z28 : ZeroOf PG 28 [.slice none 0 0] := ⟨.slice none 0 0, fun _ => by kernel_rfl, rfl⟩
theorem c28 : Cells PG 28 1 := fun _ => by kernel_rfl
theorem el28 : El PG 28 78 2 32 := el_of (z := .agg #[.int .u8 0, .slice none 0 0]) Tryz.underlying28 (by kernel_rfl) rfl (by decide)
theorem z29 : ZeroOf PG 29 [.int .u8 0, .int .u8 0, .int .u16 0, .int .u16 0, .int .u16 0, .int .u16 0, .int .u16 0, .int .u16 0, .int .u16 0, .int .u16 0, .int .u16 0, .int .u16 0, .slice none 0 0, .slice none 0 0, .slice none 0 0, .slice none 0 0, .int .u8 0, .int .u8 0, .int .u8 0, .int .u8 0, .int .u8 0, .slice none 0 0] := ⟨.agg #[.int .u8 0, .int .u8 0, .int .u16 0, .int .u16 0, .int .u16 0, .int .u16 0, .int .u16 0, .int .u16 0, .int .u16 0, .int .u16 0, .int .u16 0, .int .u16 0, .slice none 0 0, .slice none 0 0, .slice none 0 0, .slice none 0 0, .int .u8 0, .int .u8 0, .int .u8 0, .int .u8 0, .int .u8 0, .slice none 0 0], fun _ => by kernel_rfl, rfl⟩
theorem c29 : Cells PG 29 22 := fun _ => by kernel_rfl
theorem a29 : Agg PG 29 22 := fun _ => ⟨by kernel_rfl, by kernel_rfl⟩
theorem fa29_0 : FA PG 29 0 0 := fun _ _ => by kernel_rfl
theorem fa29_1 : FA PG 29 1 1 := fun _ _ => by kernel_rfl
theorem fa29_2 : FA PG 29 2 2 := fun _ _ => by kernel_rfl
theorem fa29_3 : FA PG 29 3 3 := fun _ _ => by kernel_rfl
theorem fa29_4 : FA PG 29 4 4 := fun _ _ => by kernel_rfl
theorem fa29_5 : FA PG 29 5 5 := fun _ _ => by kernel_rfl
theorem fa29_6 : FA PG 29 6 6 := fun _ _ => by kernel_rfl
theorem fa29_7 : FA PG 29 7 7 := fun _ _ => by kernel_rfl
theorem fa29_8 : FA PG 29 8 8 := fun _ _ => by kernel_rfl
theorem fa29_9 : FA PG 29 9 9 := fun _ _ => by kernel_rfl
theorem fa29_10 : FA PG 29 10 10 := fun _ _ => by kernel_rfl
theorem fa29_11 : FA PG 29 11 11 := fun _ _ => by kernel_rfl
theorem fa29_12 : FA PG 29 12 12 := fun _ _ => by kernel_rfl
theorem fa29_13 : FA PG 29 13 13 := fun _ _ => by kernel_rfl
theorem fa29_14 : FA PG 29 14 14 := fun _ _ => by kernel_rfl
theorem fa29_15 : FA PG 29 15 15 := fun _ _ => by kernel_rfl
theorem fa29_16 : FA PG 29 16 16 := fun _ _ => by kernel_rfl
theorem fa29_17 : FA PG 29 17 17 := fun _ _ => by kernel_rfl
theorem fa29_18 : FA PG 29 18 18 := fun _ _ => by kernel_rfl
theorem fa29_19 : FA PG 29 19 19 := fun _ _ => by kernel_rfl
theorem fa29_20 : FA PG 29 20 20 := fun _ _ => by kernel_rfl
theorem fa29_21 : FA PG 29 21 21 := fun _ _ => by kernel_rfl
theorem l29 : Lay PG 29 [(0, 1), (1, 1), (2, 1), (3, 1), (4, 1), (5, 1), (6, 1), (7, 1), (8, 1), (9, 1), (10, 1), (11, 1), (12, 1), (13, 1), (14, 1), (15, 1), (16, 1), (17, 1), (18, 1), (19, 1), (20, 1), (21, 1)] := fun _ => ⟨_, Tryz.underlying29, by kernel_rfl⟩
theorem z30 : ZeroOf PG 30 [.int .u8 0, .int .u8 0, .int .u16 0, .int .u16 0, .int .u16 0, .int .u16 0, .int .u16 0, .int .u16 0, .int .u16 0, .int .u16 0, .int .u16 0, .int .u16 0, .slice none 0 0, .slice none 0 0, .slice none 0 0, .slice none 0 0, .int .u8 0, .int .u8 0, .int .u8 0, .int .u8 0, .int .u8 0, .slice none 0 0] := ⟨.agg #[.int .u8 0, .int .u8 0, .int .u16 0, .int .u16 0, .int .u16 0, .int .u16 0, .int .u16 0, .int .u16 0, .int .u16 0, .int .u16 0, .int .u16 0, .int .u16 0, .slice none 0 0, .slice none 0 0, .slice none 0 0, .slice none 0 0, .int .u8 0, .int .u8 0, .int .u8 0, .int .u8 0, .int .u8 0, .slice none 0 0], fun _ => by kernel_rfl, rfl⟩
theorem c30 : Cells PG 30 22 := fun _ => by kernel_rfl
theorem a30 : Agg PG 30 22 := fun _ => ⟨by kernel_rfl, by kernel_rfl⟩
theorem fa30_0 : FA PG 30 0 0 := fun _ _ => by kernel_rfl
theorem fa30_1 : FA PG 30 1 1 := fun _ _ => by kernel_rfl
theorem fa30_2 : FA PG 30 2 2 := fun _ _ => by kernel_rfl
theorem fa30_3 : FA PG 30 3 3 := fun _ _ => by kernel_rfl
theorem fa30_4 : FA PG 30 4 4 := fun _ _ => by kernel_rfl
theorem fa30_5 : FA PG 30 5 5 := fun _ _ => by kernel_rfl
theorem fa30_6 : FA PG 30 6 6 := fun _ _ => by kernel_rfl
theorem fa30_7 : FA PG 30 7 7 := fun _ _ => by kernel_rfl
theorem fa30_8 : FA PG 30 8 8 := fun _ _ => by kernel_rfl
theorem fa30_9 : FA PG 30 9 9 := fun _ _ => by kernel_rfl
theorem fa30_10 : FA PG 30 10 10 := fun _ _ => by kernel_rfl
theorem fa30_11 : FA PG 30 11 11 := fun _ _ => by kernel_rfl
theorem fa30_12 : FA PG 30 12 12 := fun _ _ => by kernel_rfl
theorem fa30_13 : FA PG 30 13 13 := fun _ _ => by kernel_rfl
theorem fa30_14 : FA PG 30 14 14 := fun _ _ => by kernel_rfl
theorem fa30_15 : FA PG 30 15 15 := fun _ _ => by kernel_rfl
theorem fa30_16 : FA PG 30 16 16 := fun _ _ => by kernel_rfl
theorem fa30_17 : FA PG 30 17 17 := fun _ _ => by kernel_rfl
theorem fa30_18 : FA PG 30 18 18 := fun _ _ => by kernel_rfl
theorem fa30_19 : FA PG 30 19 19 := fun _ _ => by kernel_rfl
theorem fa30_20 : FA PG 30 20 20 := fun _ _ => by kernel_rfl
theorem fa30_21 : FA PG 30 21 21 := fun _ _ => by kernel_rfl
theorem l30 : Lay PG 30 [(0, 1), (1, 1), (2, 1), (3, 1), (4, 1), (5, 1), (6, 1), (7, 1), (8, 1), (9, 1), (10, 1), (11, 1), (12, 1), (13, 1), (14, 1), (15, 1), (16, 1), (17, 1), (18, 1), (19, 1), (20, 1), (21, 1)] := fun _ => ⟨_, Tryz.underlying30, by kernel_rfl⟩
theorem z31 : ZeroOf PG 31 [.int .i64 0] := ⟨.int .i64 0, fun _ => by kernel_rfl, rfl⟩
theorem c31 : Cells PG 31 1 := fun _ => by kernel_rfl
theorem z33 : ZeroOf PG 33 [.nilFunc] := ⟨.nilFunc, fun _ => by kernel_rfl, rfl⟩
theorem c33 : Cells PG 33 1 := fun _ => by kernel_rfl
theorem z34 : ZeroOf PG 34 [.nilFunc] := ⟨.nilFunc, fun _ => by kernel_rfl, rfl⟩
theorem c34 : Cells PG 34 1 := fun _ => by kernel_rfl
theorem z35 : ZeroOf PG 35 [.nilFunc] := ⟨.nilFunc, fun _ => by kernel_rfl, rfl⟩
theorem c35 : Cells PG 35 1 := fun _ => by kernel_rfl
theorem z36 : ZeroOf PG 36 [.nilFunc] := ⟨.nilFunc, fun _ => by kernel_rfl, rfl⟩
theorem c36 : Cells PG 36 1 := fun _ => by kernel_rfl
theorem z38 : ZeroOf PG 38 [.nilFunc] := ⟨.nilFunc, fun _ => by kernel_rfl, rfl⟩
theorem c38 : Cells PG 38 1 := fun _ => by kernel_rfl
theorem z39 : ZeroOf PG 39 [.nilFunc] := ⟨.nilFunc, fun _ => by kernel_rfl, rfl⟩
theorem c39 : Cells PG 39 1 := fun _ => by kernel_rfl
theorem z40 : ZeroOf PG 40 [.nilFunc] := ⟨.nilFunc, fun _ => by kernel_rfl, rfl⟩
theorem c40 : Cells PG 40 1 := fun _ => by kernel_rfl
theorem z41 : ZeroOf PG 41 [.int .u8 0, .int .u16 0] := ⟨.agg #[.int .u8 0, .int .u16 0], fun _ => by kernel_rfl, rfl⟩
theorem c41 : Cells PG 41 2 := fun _ => by kernel_rfl
theorem a41 : Agg PG 41 2 := fun _ => ⟨by kernel_rfl, by kernel_rfl⟩
theorem fa41_0 : FA PG 41 0 0 := fun _ _ => by kernel_rfl
theorem fa41_1 : FA PG 41 1 1 := fun _ _ => by kernel_rfl
theorem l41 : Lay PG 41 [(0, 1), (1, 1)] := fun _ => ⟨_, Tryz.underlying41, by kernel_rfl⟩
theorem z42 : ZeroOf PG 42 [.int .u8 0, .int .u16 0] := ⟨.agg #[.int .u8 0, .int .u16 0], fun _ => by kernel_rfl, rfl⟩
theorem c42 : Cells PG 42 2 := fun _ => by kernel_rfl
theorem a42 : Agg PG 42 2 := fun _ => ⟨by kernel_rfl, by kernel_rfl⟩
theorem fa42_0 : FA PG 42 0 0 := fun _ _ => by kernel_rfl
theorem fa42_1 : FA PG 42 1 1 := fun _ _ => by kernel_rfl
theorem l42 : Lay PG 42 [(0, 1), (1, 1)] := fun _ => ⟨_, Tryz.underlying42, by kernel_rfl⟩
theorem z43 : ZeroOf PG 43 [.int .u8 0, .int .u16 0, .int .u8 0, .int .u8 0, .int .u16 0, .int .u16 0, .int .u16 0, .int .u16 0, .int .u16 0, .int .u16 0, .int .u16 0, .int .u16 0, .int .u16 0, .int .u16 0, .slice none 0 0, .slice none 0 0, .slice none 0 0, .slice none 0 0, .int .u8 0, .int .u8 0, .int .u8 0, .int .u8 0, .int .u8 0, .slice none 0 0] := ⟨.agg #[.int .u8 0, .int .u16 0, .int .u8 0, .int .u8 0, .int .u16 0, .int .u16 0, .int .u16 0, .int .u16 0, .int .u16 0, .int .u16 0, .int .u16 0, .int .u16 0, .int .u16 0, .int .u16 0, .slice none 0 0, .slice none 0 0, .slice none 0 0, .slice none 0 0, .int .u8 0, .int .u8 0, .int .u8 0, .int .u8 0, .int .u8 0, .slice none 0 0], fun _ => by kernel_rfl, rfl⟩
theorem c43 : Cells PG 43 24 := fun _ => by kernel_rfl
theorem a43 : Agg PG 43 24 := fun _ => ⟨by kernel_rfl, by kernel_rfl⟩
theorem fa43_0 : FA PG 43 0 0 := fun _ _ => by kernel_rfl
theorem fa43_1 : FA PG 43 1 2 := fun _ _ => by kernel_rfl
theorem l43 : Lay PG 43 [(0, 2), (2, 22)] := fun _ => ⟨_, Tryz.underlying43, by kernel_rfl⟩
theorem z44 : ZeroOf PG 44 [.int .u8 0, .int .u16 0, .int .u8 0, .int .u8 0, .int .u16 0, .int .u16 0, .int .u16 0, .int .u16 0, .int .u16 0, .int .u16 0, .int .u16 0, .int .u16 0, .int .u16 0, .int .u16 0, .slice none 0 0, .slice none 0 0, .slice none 0 0, .slice none 0 0, .int .u8 0, .int .u8 0, .int .u8 0, .int .u8 0, .int .u8 0, .slice none 0 0] := ⟨.agg #[.int .u8 0, .int .u16 0, .int .u8 0, .int .u8 0, .int .u16 0, .int .u16 0, .int .u16 0, .int .u16 0, .int .u16 0, .int .u16 0, .int .u16 0, .int .u16 0, .int .u16 0, .int .u16 0, .slice none 0 0, .slice none 0 0, .slice none 0 0, .slice none 0 0, .int .u8 0, .int .u8 0, .int .u8 0, .int .u8 0, .int .u8 0, .slice none 0 0], fun _ => by kernel_rfl, rfl⟩
theorem c44 : Cells PG 44 24 := fun _ => by kernel_rfl
theorem a44 : Agg PG 44 24 := fun _ => ⟨by kernel_rfl, by kernel_rfl⟩
theorem fa44_0 : FA PG 44 0 0 := fun _ _ => by kernel_rfl
theorem fa44_1 : FA PG 44 1 2 := fun _ _ => by kernel_rfl
theorem l44 : Lay PG 44 [(0, 2), (2, 22)] := fun _ => ⟨_, Tryz.underlying44, by kernel_rfl⟩
theorem z46 : ZeroOf PG 46 [.nilFunc] := ⟨.nilFunc, fun _ => by kernel_rfl, rfl⟩
theorem c46 : Cells PG 46 1 := fun _ => by kernel_rfl
theorem z47 : ZeroOf PG 47 [.nilFunc] := ⟨.nilFunc, fun _ => by kernel_rfl, rfl⟩
theorem c47 : Cells PG 47 1 := fun _ => by kernel_rfl
theorem z48 : ZeroOf PG 48 [.nilFunc] := ⟨.nilFunc, fun _ => by kernel_rfl, rfl⟩
theorem c48 : Cells PG 48 1 := fun _ => by kernel_rfl
theorem z49 : ZeroOf PG 49 [.slice none 0 0] := ⟨.slice none 0 0, fun _ => by kernel_rfl, rfl⟩
theorem c49 : Cells PG 49 1 := fun _ => by kernel_rfl
theorem el49 : El PG 49 22 1 24 := el_of (z := .slice none 0 0) Tryz.underlying49 (by kernel_rfl) rfl (by decide)
theorem z50 : ZeroOf PG 50 [.nilFunc] := ⟨.nilFunc, fun _ => by kernel_rfl, rfl⟩
theorem c50 : Cells PG 50 1 := fun _ => by kernel_rfl
theorem z51 : ZeroOf PG 51 [.pointer none] := ⟨.pointer none, fun _ => by kernel_rfl, rfl⟩
theorem c51 : Cells PG 51 1 := fun _ => by kernel_rfl
theorem z52 : ZeroOf PG 52 [.nilFunc] := ⟨.nilFunc, fun _ => by kernel_rfl, rfl⟩
theorem c52 : Cells PG 52 1 := fun _ => by kernel_rfl
theorem z53 : ZeroOf PG 53 [.slice none 0 0] := ⟨.slice none 0 0, fun _ => by kernel_rfl, rfl⟩
theorem c53 : Cells PG 53 1 := fun _ => by kernel_rfl
theorem el53 : El PG 53 89 25 168 := el_of (z := .agg #[.int .i64 0, .int .u8 0, .int .u16 0, .int .u8 0, .int .u8 0, .int .u16 0, .int .u16 0, .int .u16 0, .int .u16 0, .int .u16 0, .int .u16 0, .int .u16 0, .int .u16 0, .int .u16 0, .int .u16 0, .slice none 0 0, .slice none 0 0, .slice none 0 0, .slice none 0 0, .int .u8 0, .int .u8 0, .int .u8 0, .int .u8 0, .int .u8 0, .slice none 0 0]) Tryz.underlying53 (by kernel_rfl) rfl (by decide)
theorem z54 : ZeroOf PG 54 [.nilFunc] := ⟨.nilFunc, fun _ => by kernel_rfl, rfl⟩
theorem c54 : Cells PG 54 1 := fun _ => by kernel_rfl
theorem z55 : ZeroOf PG 55 [.nilFunc] := ⟨.nilFunc, fun _ => by kernel_rfl, rfl⟩
theorem c55 : Cells PG 55 1 := fun _ => by kernel_rfl
theorem z56 : ZeroOf PG 56 [.nilFunc] := ⟨.nilFunc, fun _ => by kernel_rfl, rfl⟩
theorem c56 : Cells PG 56 1 := fun _ => by kernel_rfl
theorem z57 : ZeroOf PG 57 [.nilFunc] := ⟨.nilFunc, fun _ => by kernel_rfl, rfl⟩
theorem c57 : Cells PG 57 1 := fun _ => by kernel_rfl
theorem z58 : ZeroOf PG 58 [.nilFunc] := ⟨.nilFunc, fun _ => by kernel_rfl, rfl⟩
theorem c58 : Cells PG 58 1 := fun _ => by kernel_rfl
theorem z59 : ZeroOf PG 59 [.nilFunc] := ⟨.nilFunc, fun _ => by kernel_rfl, rfl⟩
theorem c59 : Cells PG 59 1 := fun _ => by kernel_rfl
theorem z60 : ZeroOf PG 60 [.pointer none] := ⟨.pointer none, fun _ => by kernel_rfl, rfl⟩
theorem c60 : Cells PG 60 1 := fun _ => by kernel_rfl
theorem z61 : ZeroOf PG 61 [.nilFunc] := ⟨.nilFunc, fun _ => by kernel_rfl, rfl⟩
theorem c61 : Cells PG 61 1 := fun _ => by kernel_rfl
theorem z63 : ZeroOf PG 63 [.nilFunc] := ⟨.nilFunc, fun _ => by kernel_rfl, rfl⟩
theorem c63 : Cells PG 63 1 := fun _ => by kernel_rfl
theorem z64 : ZeroOf PG 64 [.nilFunc] := ⟨.nilFunc, fun _ => by kernel_rfl, rfl⟩
theorem c64 : Cells PG 64 1 := fun _ => by kernel_rfl
theorem z65 : ZeroOf PG 65 [.pointer none] := ⟨.pointer none, fun _ => by kernel_rfl, rfl⟩
theorem c65 : Cells PG 65 1 := fun _ => by kernel_rfl
theorem z66 : ZeroOf PG 66 [.nilFunc] := ⟨.nilFunc, fun _ => by kernel_rfl, rfl⟩
theorem c66 : Cells PG 66 1 := fun _ => by kernel_rfl
theorem z67 : ZeroOf PG 67 [.nilFunc] := ⟨.nilFunc, fun _ => by kernel_rfl, rfl⟩
theorem c67 : Cells PG 67 1 := fun _ => by kernel_rfl
theorem z68 : ZeroOf PG 68 [.nilFunc] := ⟨.nilFunc, fun _ => by kernel_rfl, rfl⟩
theorem c68 : Cells PG 68 1 := fun _ => by kernel_rfl
theorem z69 : ZeroOf PG 69 [.nilFunc, .nilFunc] := ⟨.agg #[.nilFunc, .nilFunc], fun _ => by kernel_rfl, rfl⟩
theorem c69 : Cells PG 69 2 := fun _ => by kernel_rfl
theorem a69 : Agg PG 69 2 := fun _ => ⟨by kernel_rfl, by kernel_rfl⟩
theorem fa69_0 : FA PG 69 0 0 := fun _ _ => by kernel_rfl
theorem fa69_1 : FA PG 69 1 1 := fun _ _ => by kernel_rfl
theorem l69 : Lay PG 69 [(0, 1), (1, 1)] := fun _ => ⟨_, Tryz.underlying69, by kernel_rfl⟩
theorem z70 : ZeroOf PG 70 [.nilFunc, .nilFunc] := ⟨.agg #[.nilFunc, .nilFunc], fun _ => by kernel_rfl, rfl⟩
theorem c70 : Cells PG 70 2 := fun _ => by kernel_rfl
theorem a70 : Agg PG 70 2 := fun _ => ⟨by kernel_rfl, by kernel_rfl⟩
theorem fa70_0 : FA PG 70 0 0 := fun _ _ => by kernel_rfl
theorem fa70_1 : FA PG 70 1 1 := fun _ _ => by kernel_rfl
theorem l70 : Lay PG 70 [(0, 1), (1, 1)] := fun _ => ⟨_, Tryz.underlying70, by kernel_rfl⟩
theorem z72 : ZeroOf PG 72 [.nilFunc] := ⟨.nilFunc, fun _ => by kernel_rfl, rfl⟩
theorem c72 : Cells PG 72 1 := fun _ => by kernel_rfl
theorem z73 : ZeroOf PG 73 [.nilFunc] := ⟨.nilFunc, fun _ => by kernel_rfl, rfl⟩
theorem c73 : Cells PG 73 1 := fun _ => by kernel_rfl
theorem z74 : ZeroOf PG 74 [.nilFunc] := ⟨.nilFunc, fun _ => by kernel_rfl, rfl⟩
theorem c74 : Cells PG 74 1 := fun _ => by kernel_rfl
theorem z75 : ZeroOf PG 75 [.int .u16 0, .int .u16 0, .int .u16 0, .slice none 0 0] := ⟨.agg #[.int .u16 0, .int .u16 0, .int .u16 0, .slice none 0 0], fun _ => by kernel_rfl, rfl⟩
theorem c75 : Cells PG 75 4 := fun _ => by kernel_rfl
theorem a75 : Agg PG 75 4 := fun _ => ⟨by kernel_rfl, by kernel_rfl⟩
theorem fa75_0 : FA PG 75 0 0 := fun _ _ => by kernel_rfl
theorem fa75_1 : FA PG 75 1 1 := fun _ _ => by kernel_rfl
theorem fa75_2 : FA PG 75 2 2 := fun _ _ => by kernel_rfl
theorem fa75_3 : FA PG 75 3 3 := fun _ _ => by kernel_rfl
theorem l75 : Lay PG 75 [(0, 1), (1, 1), (2, 1), (3, 1)] := fun _ => ⟨_, Tryz.underlying75, by kernel_rfl⟩
theorem z76 : ZeroOf PG 76 [.int .u16 0, .int .u16 0, .int .u16 0, .slice none 0 0] := ⟨.agg #[.int .u16 0, .int .u16 0, .int .u16 0, .slice none 0 0], fun _ => by kernel_rfl, rfl⟩
theorem c76 : Cells PG 76 4 := fun _ => by kernel_rfl
theorem a76 : Agg PG 76 4 := fun _ => ⟨by kernel_rfl, by kernel_rfl⟩
theorem fa76_0 : FA PG 76 0 0 := fun _ _ => by kernel_rfl
theorem fa76_1 : FA PG 76 1 1 := fun _ _ => by kernel_rfl
theorem fa76_2 : FA PG 76 2 2 := fun _ _ => by kernel_rfl
theorem fa76_3 : FA PG 76 3 3 := fun _ _ => by kernel_rfl
theorem l76 : Lay PG 76 [(0, 1), (1, 1), (2, 1), (3, 1)] := fun _ => ⟨_, Tryz.underlying76, by kernel_rfl⟩
theorem z77 : ZeroOf PG 77 [.int .u8 0, .slice none 0 0] := ⟨.agg #[.int .u8 0, .slice none 0 0], fun _ => by kernel_rfl, rfl⟩
theorem c77 : Cells PG 77 2 := fun _ => by kernel_rfl
theorem a77 : Agg PG 77 2 := fun _ => ⟨by kernel_rfl, by kernel_rfl⟩
theorem fa77_0 : FA PG 77 0 0 := fun _ _ => by kernel_rfl
theorem fa77_1 : FA PG 77 1 1 := fun _ _ => by kernel_rfl
theorem l77 : Lay PG 77 [(0, 1), (1, 1)] := fun _ => ⟨_, Tryz.underlying77, by kernel_rfl⟩
theorem z78 : ZeroOf PG 78 [.int .u8 0, .slice none 0 0] := ⟨.agg #[.int .u8 0, .slice none 0 0], fun _ => by kernel_rfl, rfl⟩
theorem c78 : Cells PG 78 2 := fun _ => by kernel_rfl
theorem a78 : Agg PG 78 2 := fun _ => ⟨by kernel_rfl, by kernel_rfl⟩
theorem fa78_0 : FA PG 78 0 0 := fun _ _ => by kernel_rfl
theorem fa78_1 : FA PG 78 1 1 := fun _ _ => by kernel_rfl
theorem l78 : Lay PG 78 [(0, 1), (1, 1)] := fun _ => ⟨_, Tryz.underlying78, by kernel_rfl⟩
theorem z79 : ZeroOf PG 79 [.nilFunc] := ⟨.nilFunc, fun _ => by kernel_rfl, rfl⟩
theorem c79 : Cells PG 79 1 := fun _ => by kernel_rfl
theorem z80 : ZeroOf PG 80 [.pointer none] := ⟨.pointer none, fun _ => by kernel_rfl, rfl⟩
theorem c80 : Cells PG 80 1 := fun _ => by kernel_rfl
theorem z81 : ZeroOf PG 81 [.nilFunc] := ⟨.nilFunc, fun _ => by kernel_rfl, rfl⟩
theorem c81 : Cells PG 81 1 := fun _ => by kernel_rfl
theorem z82 : ZeroOf PG 82 [.nilFunc] := ⟨.nilFunc, fun _ => by kernel_rfl, rfl⟩
theorem c82 : Cells PG 82 1 := fun _ => by kernel_rfl
theorem z83 : ZeroOf PG 83 [.nilFunc] := ⟨.nilFunc, fun _ => by kernel_rfl, rfl⟩
theorem c83 : Cells PG 83 1 := fun _ => by kernel_rfl
theorem z84 : ZeroOf PG 84 [.nilFunc] := ⟨.nilFunc, fun _ => by kernel_rfl, rfl⟩
theorem c84 : Cells PG 84 1 := fun _ => by kernel_rfl
theorem z85 : ZeroOf PG 85 [.nilFunc] := ⟨.nilFunc, fun _ => by kernel_rfl, rfl⟩
theorem c85 : Cells PG 85 1 := fun _ => by kernel_rfl
theorem z86 : ZeroOf PG 86 [.nilFunc] := ⟨.nilFunc, fun _ => by kernel_rfl, rfl⟩
theorem c86 : Cells PG 86 1 := fun _ => by kernel_rfl
theorem z87 : ZeroOf PG 87 [.nilFunc] := ⟨.nilFunc, fun _ => by kernel_rfl, rfl⟩
theorem c87 : Cells PG 87 1 := fun _ => by kernel_rfl
theorem z88 : ZeroOf PG 88 [.int .i64 0, .int .u8 0, .int .u16 0, .int .u8 0, .int .u8 0, .int .u16 0, .int .u16 0, .int .u16 0, .int .u16 0, .int .u16 0, .int .u16 0, .int .u16 0, .int .u16 0, .int .u16 0, .int .u16 0, .slice none 0 0, .slice none 0 0, .slice none 0 0, .slice none 0 0, .int .u8 0, .int .u8 0, .int .u8 0, .int .u8 0, .int .u8 0, .slice none 0 0] := ⟨.agg #[.int .i64 0, .int .u8 0, .int .u16 0, .int .u8 0, .int .u8 0, .int .u16 0, .int .u16 0, .int .u16 0, .int .u16 0, .int .u16 0, .int .u16 0, .int .u16 0, .int .u16 0, .int .u16 0, .int .u16 0, .slice none 0 0, .slice none 0 0, .slice none 0 0, .slice none 0 0, .int .u8 0, .int .u8 0, .int .u8 0, .int .u8 0, .int .u8 0, .slice none 0 0], fun _ => by kernel_rfl, rfl⟩
theorem c88 : Cells PG 88 25 := fun _ => by kernel_rfl
theorem a88 : Agg PG 88 25 := fun _ => ⟨by kernel_rfl, by kernel_rfl⟩
theorem fa88_0 : FA PG 88 0 0 := fun _ _ => by kernel_rfl
theorem fa88_1 : FA PG 88 1 1 := fun _ _ => by kernel_rfl
theorem l88 : Lay PG 88 [(0, 1), (1, 24)] := fun _ => ⟨_, Tryz.underlying88, by kernel_rfl⟩
theorem z89 : ZeroOf PG 89 [.int .i64 0, .int .u8 0, .int .u16 0, .int .u8 0, .int .u8 0, .int .u16 0, .int .u16 0, .int .u16 0, .int .u16 0, .int .u16 0, .int .u16 0, .int .u16 0, .int .u16 0, .int .u16 0, .int .u16 0, .slice none 0 0, .slice none 0 0, .slice none 0 0, .slice none 0 0, .int .u8 0, .int .u8 0, .int .u8 0, .int .u8 0, .int .u8 0, .slice none 0 0] := ⟨.agg #[.int .i64 0, .int .u8 0, .int .u16 0, .int .u8 0, .int .u8 0, .int .u16 0, .int .u16 0, .int .u16 0, .int .u16 0, .int .u16 0, .int .u16 0, .int .u16 0, .int .u16 0, .int .u16 0, .int .u16 0, .slice none 0 0, .slice none 0 0, .slice none 0 0, .slice none 0 0, .int .u8 0, .int .u8 0, .int .u8 0, .int .u8 0, .int .u8 0, .slice none 0 0], fun _ => by kernel_rfl, rfl⟩
theorem c89 : Cells PG 89 25 := fun _ => by kernel_rfl
theorem a89 : Agg PG 89 25 := fun _ => ⟨by kernel_rfl, by kernel_rfl⟩
theorem fa89_0 : FA PG 89 0 0 := fun _ _ => by kernel_rfl
theorem fa89_1 : FA PG 89 1 1 := fun _ _ => by kernel_rfl
theorem l89 : Lay PG 89 [(0, 1), (1, 24)] := fun _ => ⟨_, Tryz.underlying89, by kernel_rfl⟩
theorem z90 : ZeroOf PG 90 [.int .i64 0, .slice none 0 0, .bool false] := ⟨.agg #[.int .i64 0, .slice none 0 0, .bool false], fun _ => by kernel_rfl, rfl⟩
theorem c90 : Cells PG 90 3 := fun _ => by kernel_rfl
theorem a90 : Agg PG 90 3 := fun _ => ⟨by kernel_rfl, by kernel_rfl⟩
theorem fa90_0 : FA PG 90 0 0 := fun _ _ => by kernel_rfl
theorem fa90_1 : FA PG 90 1 1 := fun _ _ => by kernel_rfl
theorem fa90_2 : FA PG 90 2 2 := fun _ _ => by kernel_rfl
theorem l90 : Lay PG 90 [(0, 1), (1, 1), (2, 1)] := fun _ => ⟨_, Tryz.underlying90, by kernel_rfl⟩
theorem z91 : ZeroOf PG 91 [.int .i64 0, .slice none 0 0, .bool false] := ⟨.agg #[.int .i64 0, .slice none 0 0, .bool false], fun _ => by kernel_rfl, rfl⟩
theorem c91 : Cells PG 91 3 := fun _ => by kernel_rfl
theorem a91 : Agg PG 91 3 := fun _ => ⟨by kernel_rfl, by kernel_rfl⟩
theorem fa91_0 : FA PG 91 0 0 := fun _ _ => by kernel_rfl
theorem fa91_1 : FA PG 91 1 1 := fun _ _ => by kernel_rfl
theorem fa91_2 : FA PG 91 2 2 := fun _ _ => by kernel_rfl
theorem l91 : Lay PG 91 [(0, 1), (1, 1), (2, 1)] := fun _ => ⟨_, Tryz.underlying91, by kernel_rfl⟩
theorem z92 : ZeroOf PG 92 [.nilFunc] := ⟨.nilFunc, fun _ => by kernel_rfl, rfl⟩
theorem c92 : Cells PG 92 1 := fun _ => by kernel_rfl
theorem z93 : ZeroOf PG 93 [.int .i64 0, .slice none 0 0, .int .i64 0] := ⟨.agg #[.int .i64 0, .slice none 0 0, .int .i64 0], fun _ => by kernel_rfl, rfl⟩
theorem c93 : Cells PG 93 3 := fun _ => by kernel_rfl
theorem a93 : Agg PG 93 3 := fun _ => ⟨by kernel_rfl, by kernel_rfl⟩
theorem fa93_0 : FA PG 93 0 0 := fun _ _ => by kernel_rfl
theorem fa93_1 : FA PG 93 1 1 := fun _ _ => by kernel_rfl
theorem fa93_2 : FA PG 93 2 2 := fun _ _ => by kernel_rfl
theorem l93 : Lay PG 93 [(0, 1), (1, 1), (2, 1)] := fun _ => ⟨_, Tryz.underlying93, by kernel_rfl⟩
theorem z94 : ZeroOf PG 94 [.int .i64 0, .slice none 0 0, .int .i64 0] := ⟨.agg #[.int .i64 0, .slice none 0 0, .int .i64 0], fun _ => by kernel_rfl, rfl⟩
theorem c94 : Cells PG 94 3 := fun _ => by kernel_rfl
theorem a94 : Agg PG 94 3 := fun _ => ⟨by kernel_rfl, by kernel_rfl⟩
theorem fa94_0 : FA PG 94 0 0 := fun _ _ => by kernel_rfl
theorem fa94_1 : FA PG 94 1 1 := fun _ _ => by kernel_rfl
theorem fa94_2 : FA PG 94 2 2 := fun _ _ => by kernel_rfl
theorem l94 : Lay PG 94 [(0, 1), (1, 1), (2, 1)] := fun _ => ⟨_, Tryz.underlying94, by kernel_rfl⟩
theorem z95 : ZeroOf PG 95 [.nilFunc] := ⟨.nilFunc, fun _ => by kernel_rfl, rfl⟩
theorem c95 : Cells PG 95 1 := fun _ => by kernel_rfl
theorem z96 : ZeroOf PG 96 [.nilFunc] := ⟨.nilFunc, fun _ => by kernel_rfl, rfl⟩
theorem c96 : Cells PG 96 1 := fun _ => by kernel_rfl
theorem z97 : ZeroOf PG 97 [.nilFunc] := ⟨.nilFunc, fun _ => by kernel_rfl, rfl⟩
theorem c97 : Cells PG 97 1 := fun _ => by kernel_rfl
theorem z98 : ZeroOf PG 98 [.nilFunc] := ⟨.nilFunc, fun _ => by kernel_rfl, rfl⟩
theorem c98 : Cells PG 98 1 := fun _ => by kernel_rfl
theorem z99 : ZeroOf PG 99 [.int .i64 0, .slice none 0 0] := ⟨.agg #[.int .i64 0, .slice none 0 0], fun _ => by kernel_rfl, rfl⟩
theorem c99 : Cells PG 99 2 := fun _ => by kernel_rfl
theorem a99 : Agg PG 99 2 := fun _ => ⟨by kernel_rfl, by kernel_rfl⟩
theorem fa99_0 : FA PG 99 0 0 := fun _ _ => by kernel_rfl
theorem fa99_1 : FA PG 99 1 1 := fun _ _ => by kernel_rfl
theorem l99 : Lay PG 99 [(0, 1), (1, 1)] := fun _ => ⟨_, Tryz.underlying99, by kernel_rfl⟩
theorem z100 : ZeroOf PG 100 [.int .i64 0, .slice none 0 0] := ⟨.agg #[.int .i64 0, .slice none 0 0], fun _ => by kernel_rfl, rfl⟩
theorem c100 : Cells PG 100 2 := fun _ => by kernel_rfl
theorem a100 : Agg PG 100 2 := fun _ => ⟨by kernel_rfl, by kernel_rfl⟩
theorem fa100_0 : FA PG 100 0 0 := fun _ _ => by kernel_rfl
theorem fa100_1 : FA PG 100 1 1 := fun _ _ => by kernel_rfl
theorem l100 : Lay PG 100 [(0, 1), (1, 1)] := fun _ => ⟨_, Tryz.underlying100, by kernel_rfl⟩
theorem z102 : ZeroOf PG 102 [.nilFunc] := ⟨.nilFunc, fun _ => by kernel_rfl, rfl⟩
theorem c102 : Cells PG 102 1 := fun _ => by kernel_rfl
theorem z103 : ZeroOf PG 103 [.nilFunc] := ⟨.nilFunc, fun _ => by kernel_rfl, rfl⟩
theorem c103 : Cells PG 103 1 := fun _ => by kernel_rfl
theorem z104 : ZeroOf PG 104 [.nilFunc] := ⟨.nilFunc, fun _ => by kernel_rfl, rfl⟩
theorem c104 : Cells PG 104 1 := fun _ => by kernel_rfl
theorem z105 : ZeroOf PG 105 [.nilFunc] := ⟨.nilFunc, fun _ => by kernel_rfl, rfl⟩
theorem c105 : Cells PG 105 1 := fun _ => by kernel_rfl
theorem z106 : ZeroOf PG 106 [.nilFunc] := ⟨.nilFunc, fun _ => by kernel_rfl, rfl⟩
theorem c106 : Cells PG 106 1 := fun _ => by kernel_rfl
theorem z107 : ZeroOf PG 107 [.int .u8 0, .int .u8 0] := ⟨.agg #[.int .u8 0, .int .u8 0], fun _ => by kernel_rfl, rfl⟩
theorem c107 : Cells PG 107 2 := fun _ => by kernel_rfl
theorem a107 : Agg PG 107 2 := fun _ => ⟨by kernel_rfl, by kernel_rfl⟩
theorem fa107_0 : FA PG 107 0 0 := fun _ _ => by kernel_rfl
theorem fa107_1 : FA PG 107 1 1 := fun _ _ => by kernel_rfl
theorem l107 : Lay PG 107 [(0, 1), (1, 1)] := fun _ => ⟨_, Tryz.underlying107, by kernel_rfl⟩
theorem z108 : ZeroOf PG 108 [.int .u8 0, .int .u8 0] := ⟨.agg #[.int .u8 0, .int .u8 0], fun _ => by kernel_rfl, rfl⟩
theorem c108 : Cells PG 108 2 := fun _ => by kernel_rfl
theorem a108 : Agg PG 108 2 := fun _ => ⟨by kernel_rfl, by kernel_rfl⟩
theorem fa108_0 : FA PG 108 0 0 := fun _ _ => by kernel_rfl
theorem fa108_1 : FA PG 108 1 1 := fun _ _ => by kernel_rfl
theorem l108 : Lay PG 108 [(0, 1), (1, 1)] := fun _ => ⟨_, Tryz.underlying108, by kernel_rfl⟩
theorem z109 : ZeroOf PG 109 [.nilFunc] := ⟨.nilFunc, fun _ => by kernel_rfl, rfl⟩
theorem c109 : Cells PG 109 1 := fun _ => by kernel_rfl
theorem z110 : ZeroOf PG 110 [.map none] := ⟨.map none, fun _ => by kernel_rfl, rfl⟩
theorem c110 : Cells PG 110 1 := fun _ => by kernel_rfl
theorem z111 : ZeroOf PG 111 [.pointer none] := ⟨.pointer none, fun _ => by kernel_rfl, rfl⟩
theorem c111 : Cells PG 111 1 := fun _ => by kernel_rfl
theorem z112 : ZeroOf PG 112 [.slice none 0 0, .int .i64 0, .bool false, .int .i64 0] := ⟨.agg #[.slice none 0 0, .int .i64 0, .bool false, .int .i64 0], fun _ => by kernel_rfl, rfl⟩
theorem c112 : Cells PG 112 4 := fun _ => by kernel_rfl
theorem a112 : Agg PG 112 4 := fun _ => ⟨by kernel_rfl, by kernel_rfl⟩
theorem fa112_0 : FA PG 112 0 0 := fun _ _ => by kernel_rfl
theorem fa112_1 : FA PG 112 1 1 := fun _ _ => by kernel_rfl
theorem fa112_2 : FA PG 112 2 2 := fun _ _ => by kernel_rfl
theorem fa112_3 : FA PG 112 3 3 := fun _ _ => by kernel_rfl
theorem l112 : Lay PG 112 [(0, 1), (1, 1), (2, 1), (3, 1)] := fun _ => ⟨_, Tryz.underlying112, by kernel_rfl⟩
theorem z113 : ZeroOf PG 113 [.slice none 0 0, .int .i64 0, .bool false, .int .i64 0] := ⟨.agg #[.slice none 0 0, .int .i64 0, .bool false, .int .i64 0], fun _ => by kernel_rfl, rfl⟩
theorem c113 : Cells PG 113 4 := fun _ => by kernel_rfl
theorem a113 : Agg PG 113 4 := fun _ => ⟨by kernel_rfl, by kernel_rfl⟩
theorem fa113_0 : FA PG 113 0 0 := fun _ _ => by kernel_rfl
theorem fa113_1 : FA PG 113 1 1 := fun _ _ => by kernel_rfl
theorem fa113_2 : FA PG 113 2 2 := fun _ _ => by kernel_rfl
theorem fa113_3 : FA PG 113 3 3 := fun _ _ => by kernel_rfl
theorem l113 : Lay PG 113 [(0, 1), (1, 1), (2, 1), (3, 1)] := fun _ => ⟨_, Tryz.underlying113, by kernel_rfl⟩
theorem z114 : ZeroOf PG 114 [.nilFunc] := ⟨.nilFunc, fun _ => by kernel_rfl, rfl⟩
theorem c114 : Cells PG 114 1 := fun _ => by kernel_rfl
theorem z115 : ZeroOf PG 115 [.pointer none] := ⟨.pointer none, fun _ => by kernel_rfl, rfl⟩
theorem c115 : Cells PG 115 1 := fun _ => by kernel_rfl
theorem z116 : ZeroOf PG 116 [.nilFunc] := ⟨.nilFunc, fun _ => by kernel_rfl, rfl⟩
theorem c116 : Cells PG 116 1 := fun _ => by kernel_rfl
theorem z117 : ZeroOf PG 117 [.nilFunc] := ⟨.nilFunc, fun _ => by kernel_rfl, rfl⟩
theorem c117 : Cells PG 117 1 := fun _ => by kernel_rfl
theorem z119 : ZeroOf PG 119 [.nilFunc] := ⟨.nilFunc, fun _ => by kernel_rfl, rfl⟩
theorem c119 : Cells PG 119 1 := fun _ => by kernel_rfl
theorem z120 : ZeroOf PG 120 [.nilFunc] := ⟨.nilFunc, fun _ => by kernel_rfl, rfl⟩
theorem c120 : Cells PG 120 1 := fun _ => by kernel_rfl
theorem z121 : ZeroOf PG 121 [.nilFunc] := ⟨.nilFunc, fun _ => by kernel_rfl, rfl⟩
theorem c121 : Cells PG 121 1 := fun _ => by kernel_rfl
theorem z122 : ZeroOf PG 122 [.nilFunc] := ⟨.nilFunc, fun _ => by kernel_rfl, rfl⟩
theorem c122 : Cells PG 122 1 := fun _ => by kernel_rfl
theorem z123 : ZeroOf PG 123 [.nilFunc] := ⟨.nilFunc, fun _ => by kernel_rfl, rfl⟩
theorem c123 : Cells PG 123 1 := fun _ => by kernel_rfl
theorem z125 : ZeroOf PG 125 [.nilFunc] := ⟨.nilFunc, fun _ => by kernel_rfl, rfl⟩
theorem c125 : Cells PG 125 1 := fun _ => by kernel_rfl
theorem z126 : ZeroOf PG 126 [.nilFunc] := ⟨.nilFunc, fun _ => by kernel_rfl, rfl⟩
theorem c126 : Cells PG 126 1 := fun _ => by kernel_rfl
theorem z127 : ZeroOf PG 127 [.nilFunc] := ⟨.nilFunc, fun _ => by kernel_rfl, rfl⟩
theorem c127 : Cells PG 127 1 := fun _ => by kernel_rfl
theorem z128 : ZeroOf PG 128 [.slice none 0 0, .bool false, .int .i64 0] := ⟨.agg #[.slice none 0 0, .bool false, .int .i64 0], fun _ => by kernel_rfl, rfl⟩
theorem c128 : Cells PG 128 3 := fun _ => by kernel_rfl
theorem a128 : Agg PG 128 3 := fun _ => ⟨by kernel_rfl, by kernel_rfl⟩
theorem fa128_0 : FA PG 128 0 0 := fun _ _ => by kernel_rfl
theorem fa128_1 : FA PG 128 1 1 := fun _ _ => by kernel_rfl
theorem fa128_2 : FA PG 128 2 2 := fun _ _ => by kernel_rfl
theorem l128 : Lay PG 128 [(0, 1), (1, 1), (2, 1)] := fun _ => ⟨_, Tryz.underlying128, by kernel_rfl⟩
theorem z129 : ZeroOf PG 129 [.slice none 0 0, .bool false, .int .i64 0] := ⟨.agg #[.slice none 0 0, .bool false, .int .i64 0], fun _ => by kernel_rfl, rfl⟩
theorem c129 : Cells PG 129 3 := fun _ => by kernel_rfl
theorem a129 : Agg PG 129 3 := fun _ => ⟨by kernel_rfl, by kernel_rfl⟩
theorem fa129_0 : FA PG 129 0 0 := fun _ _ => by kernel_rfl
theorem fa129_1 : FA PG 129 1 1 := fun _ _ => by kernel_rfl
theorem fa129_2 : FA PG 129 2 2 := fun _ _ => by kernel_rfl
theorem l129 : Lay PG 129 [(0, 1), (1, 1), (2, 1)] := fun _ => ⟨_, Tryz.underlying129, by kernel_rfl⟩
theorem z130 : ZeroOf PG 130 [.int .u64 0] := ⟨.int .u64 0, fun _ => by kernel_rfl, rfl⟩
theorem c130 : Cells PG 130 1 := fun _ => by kernel_rfl
theorem z131 : ZeroOf PG 131 [.nilFunc] := ⟨.nilFunc, fun _ => by kernel_rfl, rfl⟩
theorem c131 : Cells PG 131 1 := fun _ => by kernel_rfl
theorem z132 : ZeroOf PG 132 [.nilFunc] := ⟨.nilFunc, fun _ => by kernel_rfl, rfl⟩
theorem c132 : Cells PG 132 1 := fun _ => by kernel_rfl
theorem z133 : ZeroOf PG 133 [.nilFunc] := ⟨.nilFunc, fun _ => by kernel_rfl, rfl⟩
theorem c133 : Cells PG 133 1 := fun _ => by kernel_rfl
theorem z134 : ZeroOf PG 134 [.nilFunc] := ⟨.nilFunc, fun _ => by kernel_rfl, rfl⟩
theorem c134 : Cells PG 134 1 := fun _ => by kernel_rfl
theorem z135 : ZeroOf PG 135 [.pointer none] := ⟨.pointer none, fun _ => by kernel_rfl, rfl⟩
theorem c135 : Cells PG 135 1 := fun _ => by kernel_rfl
theorem z136 : ZeroOf PG 136 [.pointer none, .slice none 0 0] := ⟨.agg #[.pointer none, .slice none 0 0], fun _ => by kernel_rfl, rfl⟩
theorem c136 : Cells PG 136 2 := fun _ => by kernel_rfl
theorem a136 : Agg PG 136 2 := fun _ => ⟨by kernel_rfl, by kernel_rfl⟩
theorem fa136_0 : FA PG 136 0 0 := fun _ _ => by kernel_rfl
theorem fa136_1 : FA PG 136 1 1 := fun _ _ => by kernel_rfl
theorem l136 : Lay PG 136 [(0, 1), (1, 1)] := fun _ => ⟨_, Tryz.underlying136, by kernel_rfl⟩
theorem z137 : ZeroOf PG 137 [.pointer none, .slice none 0 0] := ⟨.agg #[.pointer none, .slice none 0 0], fun _ => by kernel_rfl, rfl⟩
theorem c137 : Cells PG 137 2 := fun _ => by kernel_rfl
theorem a137 : Agg PG 137 2 := fun _ => ⟨by kernel_rfl, by kernel_rfl⟩
theorem fa137_0 : FA PG 137 0 0 := fun _ _ => by kernel_rfl
theorem fa137_1 : FA PG 137 1 1 := fun _ _ => by kernel_rfl
theorem l137 : Lay PG 137 [(0, 1), (1, 1)] := fun _ => ⟨_, Tryz.underlying137, by kernel_rfl⟩
theorem z138 : ZeroOf PG 138 [.int .u8 0, .int .u8 0, .int .u8 0, .int .u8 0, .int .u8 0, .int .u8 0, .int .u8 0, .int .u8 0, .int .u8 0, .int .u8 0, .int .u8 0, .int .u8 0, .int .u8 0, .int .u8 0, .int .u8 0, .int .u8 0] := ⟨.agg #[.int .u8 0, .int .u8 0, .int .u8 0, .int .u8 0, .int .u8 0, .int .u8 0, .int .u8 0, .int .u8 0, .int .u8 0, .int .u8 0, .int .u8 0, .int .u8 0, .int .u8 0, .int .u8 0, .int .u8 0, .int .u8 0], fun _ => by kernel_rfl, rfl⟩
theorem c138 : Cells PG 138 16 := fun _ => by kernel_rfl
theorem a138 : Agg PG 138 16 := fun _ => ⟨by kernel_rfl, by kernel_rfl⟩
theorem z139 : ZeroOf PG 139 [.nilFunc] := ⟨.nilFunc, fun _ => by kernel_rfl, rfl⟩
theorem c139 : Cells PG 139 1 := fun _ => by kernel_rfl
theorem z140 : ZeroOf PG 140 [.nilIface] := ⟨.nilIface, fun _ => by kernel_rfl, rfl⟩
theorem c140 : Cells PG 140 1 := fun _ => by kernel_rfl
theorem z141 : ZeroOf PG 141 [.nilIface] := ⟨.nilIface, fun _ => by kernel_rfl, rfl⟩
theorem c141 : Cells PG 141 1 := fun _ => by kernel_rfl
theorem z142 : ZeroOf PG 142 [.nilFunc] := ⟨.nilFunc, fun _ => by kernel_rfl, rfl⟩
theorem c142 : Cells PG 142 1 := fun _ => by kernel_rfl
theorem z143 : ZeroOf PG 143 [.nilFunc] := ⟨.nilFunc, fun _ => by kernel_rfl, rfl⟩
theorem c143 : Cells PG 143 1 := fun _ => by kernel_rfl
theorem z144 : ZeroOf PG 144 [.nilFunc] := ⟨.nilFunc, fun _ => by kernel_rfl, rfl⟩
theorem c144 : Cells PG 144 1 := fun _ => by kernel_rfl
theorem z145 : ZeroOf PG 145 [.nilFunc] := ⟨.nilFunc, fun _ => by kernel_rfl, rfl⟩
theorem c145 : Cells PG 145 1 := fun _ => by kernel_rfl
theorem z146 : ZeroOf PG 146 [.map none] := ⟨.map none, fun _ => by kernel_rfl, rfl⟩
theorem c146 : Cells PG 146 1 := fun _ => by kernel_rfl
theorem z147 : ZeroOf PG 147 [.nilFunc] := ⟨.nilFunc, fun _ => by kernel_rfl, rfl⟩
theorem c147 : Cells PG 147 1 := fun _ => by kernel_rfl
theorem z148 : ZeroOf PG 148 [.pointer none, .pointer none] := ⟨.agg #[.pointer none, .pointer none], fun _ => by kernel_rfl, rfl⟩
theorem c148 : Cells PG 148 2 := fun _ => by kernel_rfl
theorem a148 : Agg PG 148 2 := fun _ => ⟨by kernel_rfl, by kernel_rfl⟩
theorem fa148_0 : FA PG 148 0 0 := fun _ _ => by kernel_rfl
theorem fa148_1 : FA PG 148 1 1 := fun _ _ => by kernel_rfl
theorem l148 : Lay PG 148 [(0, 1), (1, 1)] := fun _ => ⟨_, Tryz.underlying148, by kernel_rfl⟩
theorem z149 : ZeroOf PG 149 [.pointer none, .pointer none] := ⟨.agg #[.pointer none, .pointer none], fun _ => by kernel_rfl, rfl⟩
theorem c149 : Cells PG 149 2 := fun _ => by kernel_rfl
theorem a149 : Agg PG 149 2 := fun _ => ⟨by kernel_rfl, by kernel_rfl⟩
theorem fa149_0 : FA PG 149 0 0 := fun _ _ => by kernel_rfl
theorem fa149_1 : FA PG 149 1 1 := fun _ _ => by kernel_rfl
theorem l149 : Lay PG 149 [(0, 1), (1, 1)] := fun _ => ⟨_, Tryz.underlying149, by kernel_rfl⟩
theorem z150 : ZeroOf PG 150 [.nilFunc, .nilFunc] := ⟨.agg #[.nilFunc, .nilFunc], fun _ => by kernel_rfl, rfl⟩
theorem c150 : Cells PG 150 2 := fun _ => by kernel_rfl
theorem a150 : Agg PG 150 2 := fun _ => ⟨by kernel_rfl, by kernel_rfl⟩
theorem z151 : ZeroOf PG 151 [.map none] := ⟨.map none, fun _ => by kernel_rfl, rfl⟩
theorem c151 : Cells PG 151 1 := fun _ => by kernel_rfl
theorem z153 : ZeroOf PG 153 [.nilFunc] := ⟨.nilFunc, fun _ => by kernel_rfl, rfl⟩
theorem c153 : Cells PG 153 1 := fun _ => by kernel_rfl
theorem z154 : ZeroOf PG 154 [.nilFunc] := ⟨.nilFunc, fun _ => by kernel_rfl, rfl⟩
theorem c154 : Cells PG 154 1 := fun _ => by kernel_rfl
theorem z155 : ZeroOf PG 155 [.nilFunc] := ⟨.nilFunc, fun _ => by kernel_rfl, rfl⟩
theorem c155 : Cells PG 155 1 := fun _ => by kernel_rfl
theorem z156 : ZeroOf PG 156 [.nilFunc] := ⟨.nilFunc, fun _ => by kernel_rfl, rfl⟩
theorem c156 : Cells PG 156 1 := fun _ => by kernel_rfl
theorem z157 : ZeroOf PG 157 [.nilFunc] := ⟨.nilFunc, fun _ => by kernel_rfl, rfl⟩
theorem c157 : Cells PG 157 1 := fun _ => by kernel_rfl
theorem z158 : ZeroOf PG 158 [.nilFunc] := ⟨.nilFunc, fun _ => by kernel_rfl, rfl⟩
theorem c158 : Cells PG 158 1 := fun _ => by kernel_rfl
theorem z159 : ZeroOf PG 159 [.nilFunc, .nilFunc] := ⟨.agg #[.nilFunc, .nilFunc], fun _ => by kernel_rfl, rfl⟩
theorem c159 : Cells PG 159 2 := fun _ => by kernel_rfl
theorem a159 : Agg PG 159 2 := fun _ => ⟨by kernel_rfl, by kernel_rfl⟩
theorem fa159_0 : FA PG 159 0 0 := fun _ _ => by kernel_rfl
theorem fa159_1 : FA PG 159 1 1 := fun _ _ => by kernel_rfl
theorem l159 : Lay PG 159 [(0, 1), (1, 1)] := fun _ => ⟨_, Tryz.underlying159, by kernel_rfl⟩
theorem z160 : ZeroOf PG 160 [.nilFunc, .nilFunc] := ⟨.agg #[.nilFunc, .nilFunc], fun _ => by kernel_rfl, rfl⟩
theorem c160 : Cells PG 160 2 := fun _ => by kernel_rfl
theorem a160 : Agg PG 160 2 := fun _ => ⟨by kernel_rfl, by kernel_rfl⟩
theorem fa160_0 : FA PG 160 0 0 := fun _ _ => by kernel_rfl
theorem fa160_1 : FA PG 160 1 1 := fun _ _ => by kernel_rfl
theorem l160 : Lay PG 160 [(0, 1), (1, 1)] := fun _ => ⟨_, Tryz.underlying160, by kernel_rfl⟩
theorem z162 : ZeroOf PG 162 [.nilFunc] := ⟨.nilFunc, fun _ => by kernel_rfl, rfl⟩
theorem c162 : Cells PG 162 1 := fun _ => by kernel_rfl
theorem z163 : ZeroOf PG 163 [.nilFunc] := ⟨.nilFunc, fun _ => by kernel_rfl, rfl⟩
theorem c163 : Cells PG 163 1 := fun _ => by kernel_rfl
theorem z164 : ZeroOf PG 164 [.nilFunc] := ⟨.nilFunc, fun _ => by kernel_rfl, rfl⟩
theorem c164 : Cells PG 164 1 := fun _ => by kernel_rfl
theorem z165 : ZeroOf PG 165 [.nilFunc] := ⟨.nilFunc, fun _ => by kernel_rfl, rfl⟩
theorem c165 : Cells PG 165 1 := fun _ => by kernel_rfl
theorem z166 : ZeroOf PG 166 [.nilFunc] := ⟨.nilFunc, fun _ => by kernel_rfl, rfl⟩
theorem c166 : Cells PG 166 1 := fun _ => by kernel_rfl
theorem z167 : ZeroOf PG 167 [.nilFunc] := ⟨.nilFunc, fun _ => by kernel_rfl, rfl⟩
theorem c167 : Cells PG 167 1 := fun _ => by kernel_rfl
theorem z168 : ZeroOf PG 168 [.nilFunc] := ⟨.nilFunc, fun _ => by kernel_rfl, rfl⟩
theorem c168 : Cells PG 168 1 := fun _ => by kernel_rfl
theorem z169 : ZeroOf PG 169 [.nilFunc] := ⟨.nilFunc, fun _ => by kernel_rfl, rfl⟩
theorem c169 : Cells PG 169 1 := fun _ => by kernel_rfl
theorem z170 : ZeroOf PG 170 [.nilFunc] := ⟨.nilFunc, fun _ => by kernel_rfl, rfl⟩
theorem c170 : Cells PG 170 1 := fun _ => by kernel_rfl
theorem z171 : ZeroOf PG 171 [.int .u16 0, .int .u16 0, .int .u16 0, .int .u16 0, .int .u16 0, .int .u16 0, .int .u16 0, .int .u16 0, .int .u16 0, .int .u16 0, .int .u16 0, .int .u16 0, .int .u16 0, .int .u16 0, .int .u16 0] := ⟨.agg #[.int .u16 0, .int .u16 0, .int .u16 0, .int .u16 0, .int .u16 0, .int .u16 0, .int .u16 0, .int .u16 0, .int .u16 0, .int .u16 0, .int .u16 0, .int .u16 0, .int .u16 0, .int .u16 0, .int .u16 0], fun _ => by kernel_rfl, rfl⟩
theorem c171 : Cells PG 171 15 := fun _ => by kernel_rfl
theorem a171 : Agg PG 171 15 := fun _ => ⟨by kernel_rfl, by kernel_rfl⟩
theorem z172 : ZeroOf PG 172 [.nilFunc] := ⟨.nilFunc, fun _ => by kernel_rfl, rfl⟩
theorem c172 : Cells PG 172 1 := fun _ => by kernel_rfl
theorem z173 : ZeroOf PG 173 [.nilFunc] := ⟨.nilFunc, fun _ => by kernel_rfl, rfl⟩
theorem c173 : Cells PG 173 1 := fun _ => by kernel_rfl
theorem z174 : ZeroOf PG 174 [.nilFunc] := ⟨.nilFunc, fun _ => by kernel_rfl, rfl⟩
theorem c174 : Cells PG 174 1 := fun _ => by kernel_rfl
theorem z175 : ZeroOf PG 175 [.nilFunc] := ⟨.nilFunc, fun _ => by kernel_rfl, rfl⟩
theorem c175 : Cells PG 175 1 := fun _ => by kernel_rfl
theorem z176 : ZeroOf PG 176 [.nilFunc] := ⟨.nilFunc, fun _ => by kernel_rfl, rfl⟩
theorem c176 : Cells PG 176 1 := fun _ => by kernel_rfl
theorem z177 : ZeroOf PG 177 [.nilFunc] := ⟨.nilFunc, fun _ => by kernel_rfl, rfl⟩
theorem c177 : Cells PG 177 1 := fun _ => by kernel_rfl
theorem z178 : ZeroOf PG 178 [.nilFunc] := ⟨.nilFunc, fun _ => by kernel_rfl, rfl⟩
theorem c178 : Cells PG 178 1 := fun _ => by kernel_rfl
theorem z180 : ZeroOf PG 180 [.nilFunc] := ⟨.nilFunc, fun _ => by kernel_rfl, rfl⟩
theorem c180 : Cells PG 180 1 := fun _ => by kernel_rfl
theorem z181 : ZeroOf PG 181 [.pointer none] := ⟨.pointer none, fun _ => by kernel_rfl, rfl⟩
theorem c181 : Cells PG 181 1 := fun _ => by kernel_rfl
theorem z182 : ZeroOf PG 182 [.nilFunc] := ⟨.nilFunc, fun _ => by kernel_rfl, rfl⟩
theorem c182 : Cells PG 182 1 := fun _ => by kernel_rfl
theorem z183 : ZeroOf PG 183 [.nilFunc] := ⟨.nilFunc, fun _ => by kernel_rfl, rfl⟩
theorem c183 : Cells PG 183 1 := fun _ => by kernel_rfl
theorem z184 : ZeroOf PG 184 [.nilFunc] := ⟨.nilFunc, fun _ => by kernel_rfl, rfl⟩
theorem c184 : Cells PG 184 1 := fun _ => by kernel_rfl
theorem z185 : ZeroOf PG 185 [.nilFunc] := ⟨.nilFunc, fun _ => by kernel_rfl, rfl⟩
theorem c185 : Cells PG 185 1 := fun _ => by kernel_rfl
theorem z186 : ZeroOf PG 186 [.nilFunc] := ⟨.nilFunc, fun _ => by kernel_rfl, rfl⟩
theorem c186 : Cells PG 186 1 := fun _ => by kernel_rfl
theorem z187 : ZeroOf PG 187 [.nilFunc] := ⟨.nilFunc, fun _ => by kernel_rfl, rfl⟩
theorem c187 : Cells PG 187 1 := fun _ => by kernel_rfl
theorem z188 : ZeroOf PG 188 [.nilFunc] := ⟨.nilFunc, fun _ => by kernel_rfl, rfl⟩
theorem c188 : Cells PG 188 1 := fun _ => by kernel_rfl
theorem z190 : ZeroOf PG 190 [.nilFunc] := ⟨.nilFunc, fun _ => by kernel_rfl, rfl⟩
theorem c190 : Cells PG 190 1 := fun _ => by kernel_rfl
theorem z191 : ZeroOf PG 191 [.map none] := ⟨.map none, fun _ => by kernel_rfl, rfl⟩
theorem c191 : Cells PG 191 1 := fun _ => by kernel_rfl
theorem z192 : ZeroOf PG 192 [.nilFunc] := ⟨.nilFunc, fun _ => by kernel_rfl, rfl⟩
theorem c192 : Cells PG 192 1 := fun _ => by kernel_rfl
theorem z193 : ZeroOf PG 193 [.map none] := ⟨.map none, fun _ => by kernel_rfl, rfl⟩
theorem c193 : Cells PG 193 1 := fun _ => by kernel_rfl
theorem z195 : ZeroOf PG 195 [.pointer none, .pointer none, .pointer none, .string ⟨#[]⟩] := ⟨.agg #[.pointer none, .pointer none, .pointer none, .string ⟨#[]⟩], fun _ => by kernel_rfl, rfl⟩
theorem c195 : Cells PG 195 4 := fun _ => by kernel_rfl
theorem a195 : Agg PG 195 4 := fun _ => ⟨by kernel_rfl, by kernel_rfl⟩
theorem fa195_0 : FA PG 195 0 0 := fun _ _ => by kernel_rfl
theorem fa195_1 : FA PG 195 1 1 := fun _ _ => by kernel_rfl
theorem fa195_2 : FA PG 195 2 2 := fun _ _ => by kernel_rfl
theorem fa195_3 : FA PG 195 3 3 := fun _ _ => by kernel_rfl
theorem l195 : Lay PG 195 [(0, 1), (1, 1), (2, 1), (3, 1)] := fun _ => ⟨_, Tryz.underlying195, by kernel_rfl⟩
theorem z197 : ZeroOf PG 197 [] := ⟨.agg #[], fun _ => by kernel_rfl, rfl⟩
theorem c197 : Cells PG 197 0 := fun _ => by kernel_rfl
theorem a197 : Agg PG 197 0 := fun _ => ⟨by kernel_rfl, by kernel_rfl⟩
theorem z200 : ZeroOf PG 200 [.int .u32 0] := ⟨.int .u32 0, fun _ => by kernel_rfl, rfl⟩
theorem c200 : Cells PG 200 1 := fun _ => by kernel_rfl
theorem z203 : ZeroOf PG 203 [.nilFunc] := ⟨.nilFunc, fun _ => by kernel_rfl, rfl⟩
theorem c203 : Cells PG 203 1 := fun _ => by kernel_rfl
theorem z206 : ZeroOf PG 206 [.int .u64 0, .int .u64 0, .int .u32 0, .int .u8 0, .int .u8 0, .int .u8 0, .int .u8 0, .nilFunc, .pointer none, .int .i32 0, .int .i32 0] := ⟨.agg #[.int .u64 0, .int .u64 0, .int .u32 0, .int .u8 0, .int .u8 0, .int .u8 0, .int .u8 0, .nilFunc, .pointer none, .int .i32 0, .int .i32 0], fun _ => by kernel_rfl, rfl⟩
theorem c206 : Cells PG 206 11 := fun _ => by kernel_rfl
theorem a206 : Agg PG 206 11 := fun _ => ⟨by kernel_rfl, by kernel_rfl⟩
theorem fa206_0 : FA PG 206 0 0 := fun _ _ => by kernel_rfl
theorem fa206_1 : FA PG 206 1 1 := fun _ _ => by kernel_rfl
theorem fa206_2 : FA PG 206 2 2 := fun _ _ => by kernel_rfl
theorem fa206_3 : FA PG 206 3 3 := fun _ _ => by kernel_rfl
theorem fa206_4 : FA PG 206 4 4 := fun _ _ => by kernel_rfl
theorem fa206_5 : FA PG 206 5 5 := fun _ _ => by kernel_rfl
theorem fa206_6 : FA PG 206 6 6 := fun _ _ => by kernel_rfl
theorem fa206_7 : FA PG 206 7 7 := fun _ _ => by kernel_rfl
theorem fa206_8 : FA PG 206 8 8 := fun _ _ => by kernel_rfl
theorem fa206_9 : FA PG 206 9 9 := fun _ _ => by kernel_rfl
theorem fa206_10 : FA PG 206 10 10 := fun _ _ => by kernel_rfl
theorem l206 : Lay PG 206 [(0, 1), (1, 1), (2, 1), (3, 1), (4, 1), (5, 1), (6, 1), (7, 1), (8, 1), (9, 1), (10, 1)] := fun _ => ⟨_, Tryz.underlying206, by kernel_rfl⟩
theorem cb3 : Cb PG 3 := ⟨_, Tryz.func3, by kernel_rfl, by kernel_rfl⟩
theorem cb4 : Cb PG 4 := ⟨_, Tryz.func4, by kernel_rfl, by kernel_rfl⟩
theorem cb5 : Cb PG 5 := ⟨_, Tryz.func5, by kernel_rfl, by kernel_rfl⟩
theorem cb6 : Cb PG 6 := ⟨_, Tryz.func6, by kernel_rfl, by kernel_rfl⟩
theorem cb7 : Cb PG 7 := ⟨_, Tryz.func7, by kernel_rfl, by kernel_rfl⟩
theorem cb8 : Cb PG 8 := ⟨_, Tryz.func8, by kernel_rfl, by kernel_rfl⟩
theorem cb9 : Cb PG 9 := ⟨_, Tryz.func9, by kernel_rfl, by kernel_rfl⟩
theorem cb10 : Cb PG 10 := ⟨_, Tryz.func10, by kernel_rfl, by kernel_rfl⟩
theorem cb11 : Cb PG 11 := ⟨_, Tryz.func11, by kernel_rfl, by kernel_rfl⟩
theorem cb12 : Cb PG 12 := ⟨_, Tryz.func12, by kernel_rfl, by kernel_rfl⟩
theorem cb13 : Cb PG 13 := ⟨_, Tryz.func13, by kernel_rfl, by kernel_rfl⟩
theorem cb14 : Cb PG 14 := ⟨_, Tryz.func14, by kernel_rfl, by kernel_rfl⟩
theorem cb15 : Cb PG 15 := ⟨_, Tryz.func15, by kernel_rfl, by kernel_rfl⟩
theorem cb16 : Cb PG 16 := ⟨_, Tryz.func16, by kernel_rfl, by kernel_rfl⟩
theorem cb17 : Cb PG 17 := ⟨_, Tryz.func17, by kernel_rfl, by kernel_rfl⟩
theorem cb18 : Cb PG 18 := ⟨_, Tryz.func18, by kernel_rfl, by kernel_rfl⟩
theorem cb19 : Cb PG 19 := ⟨_, Tryz.func19, by kernel_rfl, by kernel_rfl⟩
theorem cb20 : Cb PG 20 := ⟨_, Tryz.func20, by kernel_rfl, by kernel_rfl⟩
theorem cb21 : Cb PG 21 := ⟨_, Tryz.func21, by kernel_rfl, by kernel_rfl⟩
theorem cb22 : Cb PG 22 := ⟨_, Tryz.func22, by kernel_rfl, by kernel_rfl⟩
theorem cb23 : Cb PG 23 := ⟨_, Tryz.func23, by kernel_rfl, by kernel_rfl⟩
theorem cb24 : Cb PG 24 := ⟨_, Tryz.func24, by kernel_rfl, by kernel_rfl⟩
theorem cb25 : Cb PG 25 := ⟨_, Tryz.func25, by kernel_rfl, by kernel_rfl⟩
theorem cb26 : Cb PG 26 := ⟨_, Tryz.func26, by kernel_rfl, by kernel_rfl⟩
theorem cb27 : Cb PG 27 := ⟨_, Tryz.func27, by kernel_rfl, by kernel_rfl⟩
theorem cb28 : Cb PG 28 := ⟨_, Tryz.func28, by kernel_rfl, by kernel_rfl⟩
theorem cb29 : Cb PG 29 := ⟨_, Tryz.func29, by kernel_rfl, by kernel_rfl⟩
theorem cb30 : Cb PG 30 := ⟨_, Tryz.func30, by kernel_rfl, by kernel_rfl⟩
theorem cb31 : Cb PG 31 := ⟨_, Tryz.func31, by kernel_rfl, by kernel_rfl⟩
theorem cb32 : Cb PG 32 := ⟨_, Tryz.func32, by kernel_rfl, by kernel_rfl⟩
theorem cb33 : Cb PG 33 := ⟨_, Tryz.func33, by kernel_rfl, by kernel_rfl⟩
theorem cb34 : Cb PG 34 := ⟨_, Tryz.func34, by kernel_rfl, by kernel_rfl⟩
theorem cb35 : Cb PG 35 := ⟨_, Tryz.func35, by kernel_rfl, by kernel_rfl⟩
theorem cb36 : Cb PG 36 := ⟨_, Tryz.func36, by kernel_rfl, by kernel_rfl⟩
theorem cb37 : Cb PG 37 := ⟨_, Tryz.func37, by kernel_rfl, by kernel_rfl⟩
theorem cb38 : Cb PG 38 := ⟨_, Tryz.func38, by kernel_rfl, by kernel_rfl⟩
theorem cb39 : Cb PG 39 := ⟨_, Tryz.func39, by kernel_rfl, by kernel_rfl⟩
theorem cb40 : Cb PG 40 := ⟨_, Tryz.func40, by kernel_rfl, by kernel_rfl⟩
theorem cb41 : Cb PG 41 := ⟨_, Tryz.func41, by kernel_rfl, by kernel_rfl⟩
theorem cb42 : Cb PG 42 := ⟨_, Tryz.func42, by kernel_rfl, by kernel_rfl⟩
theorem cb43 : Cb PG 43 := ⟨_, Tryz.func43, by kernel_rfl, by kernel_rfl⟩
theorem cb44 : Cb PG 44 := ⟨_, Tryz.func44, by kernel_rfl, by kernel_rfl⟩
theorem cb45 : Cb PG 45 := ⟨_, Tryz.func45, by kernel_rfl, by kernel_rfl⟩
theorem cb46 : Cb PG 46 := ⟨_, Tryz.func46, by kernel_rfl, by kernel_rfl⟩
theorem cb47 : Cb PG 47 := ⟨_, Tryz.func47, by kernel_rfl, by kernel_rfl⟩
theorem cb48 : Cb PG 48 := ⟨_, Tryz.func48, by kernel_rfl, by kernel_rfl⟩
theorem cb49 : Cb PG 49 := ⟨_, Tryz.func49, by kernel_rfl, by kernel_rfl⟩
theorem cb50 : Cb PG 50 := ⟨_, Tryz.func50, by kernel_rfl, by kernel_rfl⟩
theorem cb51 : Cb PG 51 := ⟨_, Tryz.func51, by kernel_rfl, by kernel_rfl⟩
theorem cb52 : Cb PG 52 := ⟨_, Tryz.func52, by kernel_rfl, by kernel_rfl⟩
theorem cb53 : Cb PG 53 := ⟨_, Tryz.func53, by kernel_rfl, by kernel_rfl⟩
theorem cb54 : Cb PG 54 := ⟨_, Tryz.func54, by kernel_rfl, by kernel_rfl⟩
theorem cb55 : Cb PG 55 := ⟨_, Tryz.func55, by kernel_rfl, by kernel_rfl⟩
theorem cb56 : Cb PG 56 := ⟨_, Tryz.func56, by kernel_rfl, by kernel_rfl⟩
theorem cb57 : Cb PG 57 := ⟨_, Tryz.func57, by kernel_rfl, by kernel_rfl⟩
theorem cb58 : Cb PG 58 := ⟨_, Tryz.func58, by kernel_rfl, by kernel_rfl⟩
theorem cb59 : Cb PG 59 := ⟨_, Tryz.func59, by kernel_rfl, by kernel_rfl⟩
theorem cb60 : Cb PG 60 := ⟨_, Tryz.func60, by kernel_rfl, by kernel_rfl⟩
theorem cb61 : Cb PG 61 := ⟨_, Tryz.func61, by kernel_rfl, by kernel_rfl⟩
theorem cb62 : Cb PG 62 := ⟨_, Tryz.func62, by kernel_rfl, by kernel_rfl⟩
theorem cb63 : Cb PG 63 := ⟨_, Tryz.func63, by kernel_rfl, by kernel_rfl⟩
theorem cb64 : Cb PG 64 := ⟨_, Tryz.func64, by kernel_rfl, by kernel_rfl⟩
theorem cb65 : Cb PG 65 := ⟨_, Tryz.func65, by kernel_rfl, by kernel_rfl⟩
theorem cb66 : Cb PG 66 := ⟨_, Tryz.func66, by kernel_rfl, by kernel_rfl⟩
theorem cb67 : Cb PG 67 := ⟨_, Tryz.func67, by kernel_rfl, by kernel_rfl⟩
theorem cb68 : Cb PG 68 := ⟨_, Tryz.func68, by kernel_rfl, by kernel_rfl⟩
theorem cb69 : Cb PG 69 := ⟨_, Tryz.func69, by kernel_rfl, by kernel_rfl⟩
theorem cb70 : Cb PG 70 := ⟨_, Tryz.func70, by kernel_rfl, by kernel_rfl⟩
theorem cb71 : Cb PG 71 := ⟨_, Tryz.func71, by kernel_rfl, by kernel_rfl⟩
theorem cb72 : Cb PG 72 := ⟨_, Tryz.func72, by kernel_rfl, by kernel_rfl⟩
theorem cb73 : Cb PG 73 := ⟨_, Tryz.func73, by kernel_rfl, by kernel_rfl⟩
theorem cb74 : Cb PG 74 := ⟨_, Tryz.func74, by kernel_rfl, by kernel_rfl⟩
theorem cb75 : Cb PG 75 := ⟨_, Tryz.func75, by kernel_rfl, by kernel_rfl⟩
theorem cb76 : Cb PG 76 := ⟨_, Tryz.func76, by kernel_rfl, by kernel_rfl⟩
theorem cb77 : Cb PG 77 := ⟨_, Tryz.func77, by kernel_rfl, by kernel_rfl⟩
theorem cb78 : Cb PG 78 := ⟨_, Tryz.func78, by kernel_rfl, by kernel_rfl⟩
theorem cb79 : Cb PG 79 := ⟨_, Tryz.func79, by kernel_rfl, by kernel_rfl⟩
theorem cb80 : Cb PG 80 := ⟨_, Tryz.func80, by kernel_rfl, by kernel_rfl⟩
theorem cb81 : Cb PG 81 := ⟨_, Tryz.func81, by kernel_rfl, by kernel_rfl⟩
theorem cb82 : Cb PG 82 := ⟨_, Tryz.func82, by kernel_rfl, by kernel_rfl⟩
theorem cb83 : Cb PG 83 := ⟨_, Tryz.func83, by kernel_rfl, by kernel_rfl⟩
theorem cb84 : Cb PG 84 := ⟨_, Tryz.func84, by kernel_rfl, by kernel_rfl⟩
theorem cb85 : Cb PG 85 := ⟨_, Tryz.func85, by kernel_rfl, by kernel_rfl⟩
theorem cb86 : Cb PG 86 := ⟨_, Tryz.func86, by kernel_rfl, by kernel_rfl⟩
theorem cb87 : Cb PG 87 := ⟨_, Tryz.func87, by kernel_rfl, by kernel_rfl⟩
theorem cb88 : Cb PG 88 := ⟨_, Tryz.func88, by kernel_rfl, by kernel_rfl⟩
theorem cb89 : Cb PG 89 := ⟨_, Tryz.func89, by kernel_rfl, by kernel_rfl⟩
theorem cb90 : Cb PG 90 := ⟨_, Tryz.func90, by kernel_rfl, by kernel_rfl⟩
theorem cb91 : Cb PG 91 := ⟨_, Tryz.func91, by kernel_rfl, by kernel_rfl⟩
theorem cb92 : Cb PG 92 := ⟨_, Tryz.func92, by kernel_rfl, by kernel_rfl⟩
theorem cb93 : Cb PG 93 := ⟨_, Tryz.func93, by kernel_rfl, by kernel_rfl⟩
theorem cb94 : Cb PG 94 := ⟨_, Tryz.func94, by kernel_rfl, by kernel_rfl⟩
theorem cb95 : Cb PG 95 := ⟨_, Tryz.func95, by kernel_rfl, by kernel_rfl⟩
theorem cb96 : Cb PG 96 := ⟨_, Tryz.func96, by kernel_rfl, by kernel_rfl⟩
theorem cb97 : Cb PG 97 := ⟨_, Tryz.func97, by kernel_rfl, by kernel_rfl⟩
theorem cb98 : Cb PG 98 := ⟨_, Tryz.func98, by kernel_rfl, by kernel_rfl⟩
theorem cb99 : Cb PG 99 := ⟨_, Tryz.func99, by kernel_rfl, by kernel_rfl⟩
theorem cb100 : Cb PG 100 := ⟨_, Tryz.func100, by kernel_rfl, by kernel_rfl⟩
theorem cb101 : Cb PG 101 := ⟨_, Tryz.func101, by kernel_rfl, by kernel_rfl⟩
theorem cb102 : Cb PG 102 := ⟨_, Tryz.func102, by kernel_rfl, by kernel_rfl⟩
theorem cb103 : Cb PG 103 := ⟨_, Tryz.func103, by kernel_rfl, by kernel_rfl⟩
theorem cb104 : Cb PG 104 := ⟨_, Tryz.func104, by kernel_rfl, by kernel_rfl⟩
theorem cb105 : Cb PG 105 := ⟨_, Tryz.func105, by kernel_rfl, by kernel_rfl⟩
theorem cb106 : Cb PG 106 := ⟨_, Tryz.func106, by kernel_rfl, by kernel_rfl⟩
theorem cb107 : Cb PG 107 := ⟨_, Tryz.func107, by kernel_rfl, by kernel_rfl⟩
theorem cb108 : Cb PG 108 := ⟨_, Tryz.func108, by kernel_rfl, by kernel_rfl⟩
theorem cb109 : Cb PG 109 := ⟨_, Tryz.func109, by kernel_rfl, by kernel_rfl⟩
theorem cb110 : Cb PG 110 := ⟨_, Tryz.func110, by kernel_rfl, by kernel_rfl⟩
theorem cb111 : Cb PG 111 := ⟨_, Tryz.func111, by kernel_rfl, by kernel_rfl⟩
theorem cb112 : Cb PG 112 := ⟨_, Tryz.func112, by kernel_rfl, by kernel_rfl⟩
theorem cb113 : Cb PG 113 := ⟨_, Tryz.func113, by kernel_rfl, by kernel_rfl⟩
theorem cb114 : Cb PG 114 := ⟨_, Tryz.func114, by kernel_rfl, by kernel_rfl⟩
theorem cb115 : Cb PG 115 := ⟨_, Tryz.func115, by kernel_rfl, by kernel_rfl⟩
theorem cb116 : Cb PG 116 := ⟨_, Tryz.func116, by kernel_rfl, by kernel_rfl⟩
theorem cb117 : Cb PG 117 := ⟨_, Tryz.func117, by kernel_rfl, by kernel_rfl⟩
theorem cb118 : Cb PG 118 := ⟨_, Tryz.func118, by kernel_rfl, by kernel_rfl⟩
theorem cb119 : Cb PG 119 := ⟨_, Tryz.func119, by kernel_rfl, by kernel_rfl⟩
theorem cb120 : Cb PG 120 := ⟨_, Tryz.func120, by kernel_rfl, by kernel_rfl⟩
theorem cb121 : Cb PG 121 := ⟨_, Tryz.func121, by kernel_rfl, by kernel_rfl⟩
theorem cb122 : Cb PG 122 := ⟨_, Tryz.func122, by kernel_rfl, by kernel_rfl⟩
theorem cb123 : Cb PG 123 := ⟨_, Tryz.func123, by kernel_rfl, by kernel_rfl⟩
theorem cb124 : Cb PG 124 := ⟨_, Tryz.func124, by kernel_rfl, by kernel_rfl⟩
theorem cb125 : Cb PG 125 := ⟨_, Tryz.func125, by kernel_rfl, by kernel_rfl⟩
theorem cb126 : Cb PG 126 := ⟨_, Tryz.func126, by kernel_rfl, by kernel_rfl⟩
theorem cb127 : Cb PG 127 := ⟨_, Tryz.func127, by kernel_rfl, by kernel_rfl⟩
theorem cb128 : Cb PG 128 := ⟨_, Tryz.func128, by kernel_rfl, by kernel_rfl⟩
theorem cb129 : Cb PG 129 := ⟨_, Tryz.func129, by kernel_rfl, by kernel_rfl⟩
theorem cb130 : Cb PG 130 := ⟨_, Tryz.func130, by kernel_rfl, by kernel_rfl⟩
theorem cb131 : Cb PG 131 := ⟨_, Tryz.func131, by kernel_rfl, by kernel_rfl⟩
theorem cb132 : Cb PG 132 := ⟨_, Tryz.func132, by kernel_rfl, by kernel_rfl⟩
theorem cb133 : Cb PG 133 := ⟨_, Tryz.func133, by kernel_rfl, by kernel_rfl⟩
theorem cb134 : Cb PG 134 := ⟨_, Tryz.func134, by kernel_rfl, by kernel_rfl⟩
theorem cb135 : Cb PG 135 := ⟨_, Tryz.func135, by kernel_rfl, by kernel_rfl⟩
theorem cb136 : Cb PG 136 := ⟨_, Tryz.func136, by kernel_rfl, by kernel_rfl⟩
theorem cb137 : Cb PG 137 := ⟨_, Tryz.func137, by kernel_rfl, by kernel_rfl⟩
theorem cb138 : Cb PG 138 := ⟨_, Tryz.func138, by kernel_rfl, by kernel_rfl⟩
theorem cb139 : Cb PG 139 := ⟨_, Tryz.func139, by kernel_rfl, by kernel_rfl⟩
theorem cb140 : Cb PG 140 := ⟨_, Tryz.func140, by kernel_rfl, by kernel_rfl⟩
theorem cb141 : Cb PG 141 := ⟨_, Tryz.func141, by kernel_rfl, by kernel_rfl⟩
theorem cb142 : Cb PG 142 := ⟨_, Tryz.func142, by kernel_rfl, by kernel_rfl⟩
theorem cb143 : Cb PG 143 := ⟨_, Tryz.func143, by kernel_rfl, by kernel_rfl⟩
theorem cb144 : Cb PG 144 := ⟨_, Tryz.func144, by kernel_rfl, by kernel_rfl⟩
theorem cb145 : Cb PG 145 := ⟨_, Tryz.func145, by kernel_rfl, by kernel_rfl⟩
theorem cb146 : Cb PG 146 := ⟨_, Tryz.func146, by kernel_rfl, by kernel_rfl⟩
theorem cb147 : Cb PG 147 := ⟨_, Tryz.func147, by kernel_rfl, by kernel_rfl⟩
theorem cb148 : Cb PG 148 := ⟨_, Tryz.func148, by kernel_rfl, by kernel_rfl⟩
theorem cb149 : Cb PG 149 := ⟨_, Tryz.func149, by kernel_rfl, by kernel_rfl⟩
theorem cb150 : Cb PG 150 := ⟨_, Tryz.func150, by kernel_rfl, by kernel_rfl⟩
theorem cb151 : Cb PG 151 := ⟨_, Tryz.func151, by kernel_rfl, by kernel_rfl⟩
theorem cb152 : Cb PG 152 := ⟨_, Tryz.func152, by kernel_rfl, by kernel_rfl⟩
theorem cb153 : Cb PG 153 := ⟨_, Tryz.func153, by kernel_rfl, by kernel_rfl⟩
theorem cb154 : Cb PG 154 := ⟨_, Tryz.func154, by kernel_rfl, by kernel_rfl⟩
theorem cb155 : Cb PG 155 := ⟨_, Tryz.func155, by kernel_rfl, by kernel_rfl⟩
theorem cb156 : Cb PG 156 := ⟨_, Tryz.func156, by kernel_rfl, by kernel_rfl⟩
theorem cb157 : Cb PG 157 := ⟨_, Tryz.func157, by kernel_rfl, by kernel_rfl⟩
theorem cb158 : Cb PG 158 := ⟨_, Tryz.func158, by kernel_rfl, by kernel_rfl⟩
theorem cb159 : Cb PG 159 := ⟨_, Tryz.func159, by kernel_rfl, by kernel_rfl⟩
theorem cb160 : Cb PG 160 := ⟨_, Tryz.func160, by kernel_rfl, by kernel_rfl⟩
theorem cb161 : Cb PG 161 := ⟨_, Tryz.func161, by kernel_rfl, by kernel_rfl⟩
theorem cb162 : Cb PG 162 := ⟨_, Tryz.func162, by kernel_rfl, by kernel_rfl⟩
theorem cb163 : Cb PG 163 := ⟨_, Tryz.func163, by kernel_rfl, by kernel_rfl⟩
theorem cb164 : Cb PG 164 := ⟨_, Tryz.func164, by kernel_rfl, by kernel_rfl⟩
theorem cb165 : Cb PG 165 := ⟨_, Tryz.func165, by kernel_rfl, by kernel_rfl⟩
theorem cb166 : Cb PG 166 := ⟨_, Tryz.func166, by kernel_rfl, by kernel_rfl⟩
theorem cb167 : Cb PG 167 := ⟨_, Tryz.func167, by kernel_rfl, by kernel_rfl⟩
theorem cb168 : Cb PG 168 := ⟨_, Tryz.func168, by kernel_rfl, by kernel_rfl⟩
theorem cb169 : Cb PG 169 := ⟨_, Tryz.func169, by kernel_rfl, by kernel_rfl⟩
theorem cb170 : Cb PG 170 := ⟨_, Tryz.func170, by kernel_rfl, by kernel_rfl⟩
theorem cb171 : Cb PG 171 := ⟨_, Tryz.func171, by kernel_rfl, by kernel_rfl⟩
theorem cb172 : Cb PG 172 := ⟨_, Tryz.func172, by kernel_rfl, by kernel_rfl⟩
theorem cb173 : Cb PG 173 := ⟨_, Tryz.func173, by kernel_rfl, by kernel_rfl⟩
theorem cb174 : Cb PG 174 := ⟨_, Tryz.func174, by kernel_rfl, by kernel_rfl⟩
theorem cb175 : Cb PG 175 := ⟨_, Tryz.func175, by kernel_rfl, by kernel_rfl⟩
theorem cb176 : Cb PG 176 := ⟨_, Tryz.func176, by kernel_rfl, by kernel_rfl⟩
theorem cb177 : Cb PG 177 := ⟨_, Tryz.func177, by kernel_rfl, by kernel_rfl⟩
theorem cb178 : Cb PG 178 := ⟨_, Tryz.func178, by kernel_rfl, by kernel_rfl⟩
theorem cb179 : Cb PG 179 := ⟨_, Tryz.func179, by kernel_rfl, by kernel_rfl⟩
theorem cb180 : Cb PG 180 := ⟨_, Tryz.func180, by kernel_rfl, by kernel_rfl⟩
theorem cb181 : Cb PG 181 := ⟨_, Tryz.func181, by kernel_rfl, by kernel_rfl⟩
theorem cb182 : Cb PG 182 := ⟨_, Tryz.func182, by kernel_rfl, by kernel_rfl⟩
theorem cb183 : Cb PG 183 := ⟨_, Tryz.func183, by kernel_rfl, by kernel_rfl⟩
theorem cb184 : Cb PG 184 := ⟨_, Tryz.func184, by kernel_rfl, by kernel_rfl⟩
theorem cb185 : Cb PG 185 := ⟨_, Tryz.func185, by kernel_rfl, by kernel_rfl⟩
theorem cb186 : Cb PG 186 := ⟨_, Tryz.func186, by kernel_rfl, by kernel_rfl⟩
theorem cb187 : Cb PG 187 := ⟨_, Tryz.func187, by kernel_rfl, by kernel_rfl⟩
theorem cb188 : Cb PG 188 := ⟨_, Tryz.func188, by kernel_rfl, by kernel_rfl⟩
theorem cb189 : Cb PG 189 := ⟨_, Tryz.func189, by kernel_rfl, by kernel_rfl⟩
theorem cb190 : Cb PG 190 := ⟨_, Tryz.func190, by kernel_rfl, by kernel_rfl⟩
theorem cb191 : Cb PG 191 := ⟨_, Tryz.func191, by kernel_rfl, by kernel_rfl⟩
theorem cb192 : Cb PG 192 := ⟨_, Tryz.func192, by kernel_rfl, by kernel_rfl⟩
theorem cb193 : Cb PG 193 := ⟨_, Tryz.func193, by kernel_rfl, by kernel_rfl⟩
theorem cb194 : Cb PG 194 := ⟨_, Tryz.func194, by kernel_rfl, by kernel_rfl⟩
theorem cb195 : Cb PG 195 := ⟨_, Tryz.func195, by kernel_rfl, by kernel_rfl⟩
theorem cb196 : Cb PG 196 := ⟨_, Tryz.func196, by kernel_rfl, by kernel_rfl⟩
theorem cb197 : Cb PG 197 := ⟨_, Tryz.func197, by kernel_rfl, by kernel_rfl⟩
theorem cb198 : Cb PG 198 := ⟨_, Tryz.func198, by kernel_rfl, by kernel_rfl⟩
theorem cb199 : Cb PG 199 := ⟨_, Tryz.func199, by kernel_rfl, by kernel_rfl⟩
theorem cb200 : Cb PG 200 := ⟨_, Tryz.func200, by kernel_rfl, by kernel_rfl⟩
theorem cb201 : Cb PG 201 := ⟨_, Tryz.func201, by kernel_rfl, by kernel_rfl⟩
theorem cb202 : Cb PG 202 := ⟨_, Tryz.func202, by kernel_rfl, by kernel_rfl⟩
theorem cb203 : Cb PG 203 := ⟨_, Tryz.func203, by kernel_rfl, by kernel_rfl⟩
theorem cb204 : Cb PG 204 := ⟨_, Tryz.func204, by kernel_rfl, by kernel_rfl⟩
theorem cb205 : Cb PG 205 := ⟨_, Tryz.func205, by kernel_rfl, by kernel_rfl⟩
theorem cb206 : Cb PG 206 := ⟨_, Tryz.func206, by kernel_rfl, by kernel_rfl⟩
theorem cb207 : Cb PG 207 := ⟨_, Tryz.func207, by kernel_rfl, by kernel_rfl⟩
theorem cb208 : Cb PG 208 := ⟨_, Tryz.func208, by kernel_rfl, by kernel_rfl⟩
theorem cb209 : Cb PG 209 := ⟨_, Tryz.func209, by kernel_rfl, by kernel_rfl⟩
theorem cb210 : Cb PG 210 := ⟨_, Tryz.func210, by kernel_rfl, by kernel_rfl⟩
theorem cb211 : Cb PG 211 := ⟨_, Tryz.func211, by kernel_rfl, by kernel_rfl⟩
theorem cb212 : Cb PG 212 := ⟨_, Tryz.func212, by kernel_rfl, by kernel_rfl⟩
theorem cb213 : Cb PG 213 := ⟨_, Tryz.func213, by kernel_rfl, by kernel_rfl⟩
theorem cb214 : Cb PG 214 := ⟨_, Tryz.func214, by kernel_rfl, by kernel_rfl⟩
theorem cb215 : Cb PG 215 := ⟨_, Tryz.func215, by kernel_rfl, by kernel_rfl⟩
theorem cb216 : Cb PG 216 := ⟨_, Tryz.func216, by kernel_rfl, by kernel_rfl⟩
theorem cb217 : Cb PG 217 := ⟨_, Tryz.func217, by kernel_rfl, by kernel_rfl⟩
theorem cb218 : Cb PG 218 := ⟨_, Tryz.func218, by kernel_rfl, by kernel_rfl⟩
theorem cb220 : Cb PG 220 := ⟨_, Tryz.func220, by kernel_rfl, by kernel_rfl⟩
theorem cb221 : Cb PG 221 := ⟨_, Tryz.func221, by kernel_rfl, by kernel_rfl⟩
theorem cb222 : Cb PG 222 := ⟨_, Tryz.func222, by kernel_rfl, by kernel_rfl⟩
theorem cb223 : Cb PG 223 := ⟨_, Tryz.func223, by kernel_rfl, by kernel_rfl⟩
theorem cb224 : Cb PG 224 := ⟨_, Tryz.func224, by kernel_rfl, by kernel_rfl⟩
theorem mixed : PG.follows .mixedOrders = true := by kernel_rfl
end Go.Bus
