/- Part of the proof: Tabs. No condition. -/
import Derived.Test.YtlfjioigkojjdaaGreatProg
import Derived.Test.YtlfjioigkojjdaaGreatUBEng
import Derived.KernelRfl
set_option maxRecDepth 100000
namespace Go.Bus
open Go Go.Proofs
noncomputable abbrev PG : Program := Tryz.prog
theorem z1 : ZeroOf PG 1 [.nilFunc] := ⟨.nilFunc, fun _ => by kernel_rfl, rfl⟩
theorem c1 : Cells PG 1 1 := fun _ => by kernel_rfl
theorem z2 : ZeroOf PG 2 [.int .i64 0] := ⟨.int .i64 0, fun _ => by kernel_rfl, rfl⟩
theorem c2 : Cells PG 2 1 := fun _ => by kernel_rfl
theorem z3 : ZeroOf PG 3 [.int .i64 0] := ⟨.int .i64 0, fun _ => by kernel_rfl, rfl⟩
theorem c3 : Cells PG 3 1 := fun _ => by kernel_rfl
theorem z4 : ZeroOf PG 4 [.bool false] := ⟨.bool false, fun _ => by kernel_rfl, rfl⟩
theorem c4 : Cells PG 4 1 := fun _ => by kernel_rfl
theorem z5 : ZeroOf PG 5 [.int .u8 0] := ⟨.int .u8 0, fun _ => by kernel_rfl, rfl⟩
theorem c5 : Cells PG 5 1 := fun _ => by kernel_rfl
theorem c7 : Cells PG 7 4 := fun _ => by kernel_rfl
theorem l7 : Lay PG 7 [(0, 1), (1, 1), (2, 1), (3, 1)] := fun _ => ⟨_, Tryz.underlying7, by kernel_rfl⟩
theorem c22 : Cells PG 22 1 := fun _ => by kernel_rfl
theorem el22 : El PG 22 5 1 1 := el_of (z := .int .u8 0) Tryz.underlying22 (by kernel_rfl) rfl (by decide)
theorem z24 : ZeroOf PG 24 [.int .u16 0] := ⟨.int .u16 0, fun _ => by kernel_rfl, rfl⟩
theorem c24 : Cells PG 24 1 := fun _ => by kernel_rfl
theorem c25 : Cells PG 25 1 := fun _ => by kernel_rfl
theorem el25 : El PG 25 24 1 2 := el_of (z := .int .u16 0) Tryz.underlying25 (by kernel_rfl) rfl (by decide)
theorem c26 : Cells PG 26 1 := fun _ => by kernel_rfl
theorem el26 : El PG 26 4 1 1 := el_of (z := .bool false) Tryz.underlying26 (by kernel_rfl) rfl (by decide)
theorem c27 : Cells PG 27 1 := fun _ => by kernel_rfl
theorem el27 : El PG 27 76 4 32 := el_of (z := .agg #[.int .u16 0, .int .u16 0, .int .u16 0, .slice none 0 0]) Tryz.underlying27 (by kernel_rfl) rfl (by decide)
theorem c28 : Cells PG 28 1 := fun _ => by kernel_rfl
theorem el28 : El PG 28 78 2 32 := el_of (z := .agg #[.int .u8 0, .slice none 0 0]) Tryz.underlying28 (by kernel_rfl) rfl (by decide)
theorem z30 : ZeroOf PG 30 [.int .u8 0, .int .u8 0, .int .u16 0, .int .u16 0, .int .u16 0, .int .u16 0, .int .u16 0, .int .u16 0, .int .u16 0, .int .u16 0, .int .u16 0, .int .u16 0, .slice none 0 0, .slice none 0 0, .slice none 0 0, .slice none 0 0, .int .u8 0, .int .u8 0, .int .u8 0, .int .u8 0, .int .u8 0, .slice none 0 0] := ⟨.agg #[.int .u8 0, .int .u8 0, .int .u16 0, .int .u16 0, .int .u16 0, .int .u16 0, .int .u16 0, .int .u16 0, .int .u16 0, .int .u16 0, .int .u16 0, .int .u16 0, .slice none 0 0, .slice none 0 0, .slice none 0 0, .slice none 0 0, .int .u8 0, .int .u8 0, .int .u8 0, .int .u8 0, .int .u8 0, .slice none 0 0], fun _ => by kernel_rfl, rfl⟩
theorem c30 : Cells PG 30 22 := fun _ => by kernel_rfl
theorem a30 : Agg PG 30 22 := fun _ => ⟨by kernel_rfl, by kernel_rfl⟩
theorem fa30_0 : FA PG 30 0 0 := fun _ _ => by kernel_rfl
theorem fa30_1 : FA PG 30 1 1 := fun _ _ => by kernel_rfl
theorem fa30_2 : FA PG 30 2 2 := fun _ _ => by kernel_rfl
theorem fa30_3 : FA PG 30 3 3 := fun _ _ => by kernel_rfl
theorem fa30_4 : FA PG 30 4 4 := fun _ _ => by kernel_rfl
theorem fa30_5 : FA PG 30 5 5 := fun _ _ => by kernel_rfl
theorem fa30_6 : FA PG 30 6 6 := fun _ _ => by kernel_rfl
theorem fa30_7 : FA PG 30 7 7 := fun _ _ => by kernel_rfl
theorem fa30_8 : FA PG 30 8 8 := fun _ _ => by kernel_rfl
theorem fa30_9 : FA PG 30 9 9 := fun _ _ => by kernel_rfl
theorem fa30_10 : FA PG 30 10 10 := fun _ _ => by kernel_rfl
theorem fa30_11 : FA PG 30 11 11 := fun _ _ => by kernel_rfl
theorem fa30_12 : FA PG 30 12 12 := fun _ _ => by kernel_rfl
theorem fa30_13 : FA PG 30 13 13 := fun _ _ => by kernel_rfl
theorem fa30_14 : FA PG 30 14 14 := fun _ _ => by kernel_rfl
theorem fa30_15 : FA PG 30 15 15 := fun _ _ => by kernel_rfl
theorem fa30_16 : FA PG 30 16 16 := fun _ _ => by kernel_rfl
theorem fa30_17 : FA PG 30 17 17 := fun _ _ => by kernel_rfl
theorem fa30_18 : FA PG 30 18 18 := fun _ _ => by kernel_rfl
theorem fa30_19 : FA PG 30 19 19 := fun _ _ => by kernel_rfl
theorem fa30_20 : FA PG 30 20 20 := fun _ _ => by kernel_rfl
theorem fa30_21 : FA PG 30 21 21 := fun _ _ => by kernel_rfl
theorem l30 : Lay PG 30 [(0, 1), (1, 1), (2, 1), (3, 1), (4, 1), (5, 1), (6, 1), (7, 1), (8, 1), (9, 1), (10, 1), (11, 1), (12, 1), (13, 1), (14, 1), (15, 1), (16, 1), (17, 1), (18, 1), (19, 1), (20, 1), (21, 1)] := fun _ => ⟨_, Tryz.underlying30, by kernel_rfl⟩
theorem c31 : Cells PG 31 1 := fun _ => by kernel_rfl
theorem z42 : ZeroOf PG 42 [.int .u8 0, .int .u16 0] := ⟨.agg #[.int .u8 0, .int .u16 0], fun _ => by kernel_rfl, rfl⟩
theorem a42 : Agg PG 42 2 := fun _ => ⟨by kernel_rfl, by kernel_rfl⟩
theorem fa42_1 : FA PG 42 1 1 := fun _ _ => by kernel_rfl
theorem l42 : Lay PG 42 [(0, 1), (1, 1)] := fun _ => ⟨_, Tryz.underlying42, by kernel_rfl⟩
theorem z44 : ZeroOf PG 44 [.int .u8 0, .int .u16 0, .int .u8 0, .int .u8 0, .int .u16 0, .int .u16 0, .int .u16 0, .int .u16 0, .int .u16 0, .int .u16 0, .int .u16 0, .int .u16 0, .int .u16 0, .int .u16 0, .slice none 0 0, .slice none 0 0, .slice none 0 0, .slice none 0 0, .int .u8 0, .int .u8 0, .int .u8 0, .int .u8 0, .int .u8 0, .slice none 0 0] := ⟨.agg #[.int .u8 0, .int .u16 0, .int .u8 0, .int .u8 0, .int .u16 0, .int .u16 0, .int .u16 0, .int .u16 0, .int .u16 0, .int .u16 0, .int .u16 0, .int .u16 0, .int .u16 0, .int .u16 0, .slice none 0 0, .slice none 0 0, .slice none 0 0, .slice none 0 0, .int .u8 0, .int .u8 0, .int .u8 0, .int .u8 0, .int .u8 0, .slice none 0 0], fun _ => by kernel_rfl, rfl⟩
theorem c44 : Cells PG 44 24 := fun _ => by kernel_rfl
theorem a44 : Agg PG 44 24 := fun _ => ⟨by kernel_rfl, by kernel_rfl⟩
theorem fa44_0 : FA PG 44 0 0 := fun _ _ => by kernel_rfl
theorem fa44_1 : FA PG 44 1 2 := fun _ _ => by kernel_rfl
theorem l44 : Lay PG 44 [(0, 2), (2, 22)] := fun _ => ⟨_, Tryz.underlying44, by kernel_rfl⟩
theorem el49 : El PG 49 22 1 24 := el_of (z := .slice none 0 0) Tryz.underlying49 (by kernel_rfl) rfl (by decide)
theorem el53 : El PG 53 89 25 168 := el_of (z := .agg #[.int .i64 0, .int .u8 0, .int .u16 0, .int .u8 0, .int .u8 0, .int .u16 0, .int .u16 0, .int .u16 0, .int .u16 0, .int .u16 0, .int .u16 0, .int .u16 0, .int .u16 0, .int .u16 0, .int .u16 0, .slice none 0 0, .slice none 0 0, .slice none 0 0, .slice none 0 0, .int .u8 0, .int .u8 0, .int .u8 0, .int .u8 0, .int .u8 0, .slice none 0 0]) Tryz.underlying53 (by kernel_rfl) rfl (by decide)
theorem z70 : ZeroOf PG 70 [.nilFunc, .nilFunc] := ⟨.agg #[.nilFunc, .nilFunc], fun _ => by kernel_rfl, rfl⟩
theorem c70 : Cells PG 70 2 := fun _ => by kernel_rfl
theorem a70 : Agg PG 70 2 := fun _ => ⟨by kernel_rfl, by kernel_rfl⟩
theorem fa70_0 : FA PG 70 0 0 := fun _ _ => by kernel_rfl
theorem l70 : Lay PG 70 [(0, 1), (1, 1)] := fun _ => ⟨_, Tryz.underlying70, by kernel_rfl⟩
theorem z76 : ZeroOf PG 76 [.int .u16 0, .int .u16 0, .int .u16 0, .slice none 0 0] := ⟨.agg #[.int .u16 0, .int .u16 0, .int .u16 0, .slice none 0 0], fun _ => by kernel_rfl, rfl⟩
theorem c76 : Cells PG 76 4 := fun _ => by kernel_rfl
theorem a76 : Agg PG 76 4 := fun _ => ⟨by kernel_rfl, by kernel_rfl⟩
theorem fa76_0 : FA PG 76 0 0 := fun _ _ => by kernel_rfl
theorem fa76_1 : FA PG 76 1 1 := fun _ _ => by kernel_rfl
theorem fa76_2 : FA PG 76 2 2 := fun _ _ => by kernel_rfl
theorem fa76_3 : FA PG 76 3 3 := fun _ _ => by kernel_rfl
theorem l76 : Lay PG 76 [(0, 1), (1, 1), (2, 1), (3, 1)] := fun _ => ⟨_, Tryz.underlying76, by kernel_rfl⟩
theorem z78 : ZeroOf PG 78 [.int .u8 0, .slice none 0 0] := ⟨.agg #[.int .u8 0, .slice none 0 0], fun _ => by kernel_rfl, rfl⟩
theorem c78 : Cells PG 78 2 := fun _ => by kernel_rfl
theorem a78 : Agg PG 78 2 := fun _ => ⟨by kernel_rfl, by kernel_rfl⟩
theorem fa78_0 : FA PG 78 0 0 := fun _ _ => by kernel_rfl
theorem fa78_1 : FA PG 78 1 1 := fun _ _ => by kernel_rfl
theorem l78 : Lay PG 78 [(0, 1), (1, 1)] := fun _ => ⟨_, Tryz.underlying78, by kernel_rfl⟩
theorem z89 : ZeroOf PG 89 [.int .i64 0, .int .u8 0, .int .u16 0, .int .u8 0, .int .u8 0, .int .u16 0, .int .u16 0, .int .u16 0, .int .u16 0, .int .u16 0, .int .u16 0, .int .u16 0, .int .u16 0, .int .u16 0, .int .u16 0, .slice none 0 0, .slice none 0 0, .slice none 0 0, .slice none 0 0, .int .u8 0, .int .u8 0, .int .u8 0, .int .u8 0, .int .u8 0, .slice none 0 0] := ⟨.agg #[.int .i64 0, .int .u8 0, .int .u16 0, .int .u8 0, .int .u8 0, .int .u16 0, .int .u16 0, .int .u16 0, .int .u16 0, .int .u16 0, .int .u16 0, .int .u16 0, .int .u16 0, .int .u16 0, .int .u16 0, .slice none 0 0, .slice none 0 0, .slice none 0 0, .slice none 0 0, .int .u8 0, .int .u8 0, .int .u8 0, .int .u8 0, .int .u8 0, .slice none 0 0], fun _ => by kernel_rfl, rfl⟩
theorem a89 : Agg PG 89 25 := fun _ => ⟨by kernel_rfl, by kernel_rfl⟩
theorem fa89_0 : FA PG 89 0 0 := fun _ _ => by kernel_rfl
theorem fa89_1 : FA PG 89 1 1 := fun _ _ => by kernel_rfl
theorem l89 : Lay PG 89 [(0, 1), (1, 24)] := fun _ => ⟨_, Tryz.underlying89, by kernel_rfl⟩
theorem z94 : ZeroOf PG 94 [.int .i64 0, .slice none 0 0, .int .i64 0] := ⟨.agg #[.int .i64 0, .slice none 0 0, .int .i64 0], fun _ => by kernel_rfl, rfl⟩
theorem fa94_0 : FA PG 94 0 0 := fun _ _ => by kernel_rfl
theorem fa94_1 : FA PG 94 1 1 := fun _ _ => by kernel_rfl
theorem fa94_2 : FA PG 94 2 2 := fun _ _ => by kernel_rfl
theorem l94 : Lay PG 94 [(0, 1), (1, 1), (2, 1)] := fun _ => ⟨_, Tryz.underlying94, by kernel_rfl⟩
theorem z108 : ZeroOf PG 108 [.int .u8 0, .int .u8 0] := ⟨.agg #[.int .u8 0, .int .u8 0], fun _ => by kernel_rfl, rfl⟩
theorem fa108_0 : FA PG 108 0 0 := fun _ _ => by kernel_rfl
theorem fa108_1 : FA PG 108 1 1 := fun _ _ => by kernel_rfl
theorem l108 : Lay PG 108 [(0, 1), (1, 1)] := fun _ => ⟨_, Tryz.underlying108, by kernel_rfl⟩
theorem z113 : ZeroOf PG 113 [.slice none 0 0, .int .i64 0, .bool false, .int .i64 0] := ⟨.agg #[.slice none 0 0, .int .i64 0, .bool false, .int .i64 0], fun _ => by kernel_rfl, rfl⟩
theorem fa113_0 : FA PG 113 0 0 := fun _ _ => by kernel_rfl
theorem fa113_1 : FA PG 113 1 1 := fun _ _ => by kernel_rfl
theorem fa113_2 : FA PG 113 2 2 := fun _ _ => by kernel_rfl
theorem fa113_3 : FA PG 113 3 3 := fun _ _ => by kernel_rfl
theorem l113 : Lay PG 113 [(0, 1), (1, 1), (2, 1), (3, 1)] := fun _ => ⟨_, Tryz.underlying113, by kernel_rfl⟩
theorem z129 : ZeroOf PG 129 [.slice none 0 0, .bool false, .int .i64 0] := ⟨.agg #[.slice none 0 0, .bool false, .int .i64 0], fun _ => by kernel_rfl, rfl⟩
theorem fa129_0 : FA PG 129 0 0 := fun _ _ => by kernel_rfl
theorem fa129_1 : FA PG 129 1 1 := fun _ _ => by kernel_rfl
theorem fa129_2 : FA PG 129 2 2 := fun _ _ => by kernel_rfl
theorem l129 : Lay PG 129 [(0, 1), (1, 1), (2, 1)] := fun _ => ⟨_, Tryz.underlying129, by kernel_rfl⟩
theorem z149 : ZeroOf PG 149 [.pointer none, .pointer none] := ⟨.agg #[.pointer none, .pointer none], fun _ => by kernel_rfl, rfl⟩
theorem c149 : Cells PG 149 2 := fun _ => by kernel_rfl
theorem a149 : Agg PG 149 2 := fun _ => ⟨by kernel_rfl, by kernel_rfl⟩
theorem fa149_0 : FA PG 149 0 0 := fun _ _ => by kernel_rfl
theorem fa149_1 : FA PG 149 1 1 := fun _ _ => by kernel_rfl
theorem l149 : Lay PG 149 [(0, 1), (1, 1)] := fun _ => ⟨_, Tryz.underlying149, by kernel_rfl⟩
theorem z150 : ZeroOf PG 150 [.nilFunc, .nilFunc] := ⟨.agg #[.nilFunc, .nilFunc], fun _ => by kernel_rfl, rfl⟩
theorem c150 : Cells PG 150 2 := fun _ => by kernel_rfl
theorem z160 : ZeroOf PG 160 [.nilFunc, .nilFunc] := ⟨.agg #[.nilFunc, .nilFunc], fun _ => by kernel_rfl, rfl⟩
theorem c160 : Cells PG 160 2 := fun _ => by kernel_rfl
theorem a160 : Agg PG 160 2 := fun _ => ⟨by kernel_rfl, by kernel_rfl⟩
theorem fa160_0 : FA PG 160 0 0 := fun _ _ => by kernel_rfl
theorem fa160_1 : FA PG 160 1 1 := fun _ _ => by kernel_rfl
theorem l160 : Lay PG 160 [(0, 1), (1, 1)] := fun _ => ⟨_, Tryz.underlying160, by kernel_rfl⟩
theorem z171 : ZeroOf PG 171 [.int .u16 0, .int .u16 0, .int .u16 0, .int .u16 0, .int .u16 0, .int .u16 0, .int .u16 0, .int .u16 0, .int .u16 0, .int .u16 0, .int .u16 0, .int .u16 0, .int .u16 0, .int .u16 0, .int .u16 0] := ⟨.agg #[.int .u16 0, .int .u16 0, .int .u16 0, .int .u16 0, .int .u16 0, .int .u16 0, .int .u16 0, .int .u16 0, .int .u16 0, .int .u16 0, .int .u16 0, .int .u16 0, .int .u16 0, .int .u16 0, .int .u16 0], fun _ => by kernel_rfl, rfl⟩
theorem c171 : Cells PG 171 15 := fun _ => by kernel_rfl
theorem a171 : Agg PG 171 15 := fun _ => ⟨by kernel_rfl, by kernel_rfl⟩
theorem z185 : ZeroOf PG 185 [.nilFunc] := ⟨.nilFunc, fun _ => by kernel_rfl, rfl⟩
theorem c185 : Cells PG 185 1 := fun _ => by kernel_rfl
theorem cb15 : Cb PG 15 := ⟨_, Tryz.func15, by kernel_rfl, by kernel_rfl⟩
theorem cb16 : Cb PG 16 := ⟨_, Tryz.func16, by kernel_rfl, by kernel_rfl⟩
theorem cb17 : Cb PG 17 := ⟨_, Tryz.func17, by kernel_rfl, by kernel_rfl⟩
theorem cb21 : Cb PG 21 := ⟨_, Tryz.func21, by kernel_rfl, by kernel_rfl⟩
theorem cb23 : Cb PG 23 := ⟨_, Tryz.func23, by kernel_rfl, by kernel_rfl⟩
theorem cb24 : Cb PG 24 := ⟨_, Tryz.func24, by kernel_rfl, by kernel_rfl⟩
theorem cb28 : Cb PG 28 := ⟨_, Tryz.func28, by kernel_rfl, by kernel_rfl⟩
theorem cb31 : Cb PG 31 := ⟨_, Tryz.func31, by kernel_rfl, by kernel_rfl⟩
theorem cb35 : Cb PG 35 := ⟨_, Tryz.func35, by kernel_rfl, by kernel_rfl⟩
theorem cb36 : Cb PG 36 := ⟨_, Tryz.func36, by kernel_rfl, by kernel_rfl⟩
theorem cb37 : Cb PG 37 := ⟨_, Tryz.func37, by kernel_rfl, by kernel_rfl⟩
theorem cb38 : Cb PG 38 := ⟨_, Tryz.func38, by kernel_rfl, by kernel_rfl⟩
theorem cb39 : Cb PG 39 := ⟨_, Tryz.func39, by kernel_rfl, by kernel_rfl⟩
theorem cb55 : Cb PG 55 := ⟨_, Tryz.func55, by kernel_rfl, by kernel_rfl⟩
theorem cb56 : Cb PG 56 := ⟨_, Tryz.func56, by kernel_rfl, by kernel_rfl⟩
theorem cb57 : Cb PG 57 := ⟨_, Tryz.func57, by kernel_rfl, by kernel_rfl⟩
theorem cb58 : Cb PG 58 := ⟨_, Tryz.func58, by kernel_rfl, by kernel_rfl⟩
theorem cb59 : Cb PG 59 := ⟨_, Tryz.func59, by kernel_rfl, by kernel_rfl⟩
theorem cb60 : Cb PG 60 := ⟨_, Tryz.func60, by kernel_rfl, by kernel_rfl⟩
theorem cb61 : Cb PG 61 := ⟨_, Tryz.func61, by kernel_rfl, by kernel_rfl⟩
theorem cb62 : Cb PG 62 := ⟨_, Tryz.func62, by kernel_rfl, by kernel_rfl⟩
theorem cb63 : Cb PG 63 := ⟨_, Tryz.func63, by kernel_rfl, by kernel_rfl⟩
theorem cb64 : Cb PG 64 := ⟨_, Tryz.func64, by kernel_rfl, by kernel_rfl⟩
theorem cb72 : Cb PG 72 := ⟨_, Tryz.func72, by kernel_rfl, by kernel_rfl⟩
theorem cb73 : Cb PG 73 := ⟨_, Tryz.func73, by kernel_rfl, by kernel_rfl⟩
theorem cb74 : Cb PG 74 := ⟨_, Tryz.func74, by kernel_rfl, by kernel_rfl⟩
theorem cb75 : Cb PG 75 := ⟨_, Tryz.func75, by kernel_rfl, by kernel_rfl⟩
theorem cb76 : Cb PG 76 := ⟨_, Tryz.func76, by kernel_rfl, by kernel_rfl⟩
theorem cb77 : Cb PG 77 := ⟨_, Tryz.func77, by kernel_rfl, by kernel_rfl⟩
theorem cb79 : Cb PG 79 := ⟨_, Tryz.func79, by kernel_rfl, by kernel_rfl⟩
theorem cb80 : Cb PG 80 := ⟨_, Tryz.func80, by kernel_rfl, by kernel_rfl⟩
theorem cb95 : Cb PG 95 := ⟨_, Tryz.func95, by kernel_rfl, by kernel_rfl⟩
theorem cb96 : Cb PG 96 := ⟨_, Tryz.func96, by kernel_rfl, by kernel_rfl⟩
theorem cb97 : Cb PG 97 := ⟨_, Tryz.func97, by kernel_rfl, by kernel_rfl⟩
theorem cb98 : Cb PG 98 := ⟨_, Tryz.func98, by kernel_rfl, by kernel_rfl⟩
theorem cb99 : Cb PG 99 := ⟨_, Tryz.func99, by kernel_rfl, by kernel_rfl⟩
theorem cb100 : Cb PG 100 := ⟨_, Tryz.func100, by kernel_rfl, by kernel_rfl⟩
theorem cb101 : Cb PG 101 := ⟨_, Tryz.func101, by kernel_rfl, by kernel_rfl⟩
theorem cb102 : Cb PG 102 := ⟨_, Tryz.func102, by kernel_rfl, by kernel_rfl⟩
theorem cb103 : Cb PG 103 := ⟨_, Tryz.func103, by kernel_rfl, by kernel_rfl⟩
theorem cb104 : Cb PG 104 := ⟨_, Tryz.func104, by kernel_rfl, by kernel_rfl⟩
theorem cb105 : Cb PG 105 := ⟨_, Tryz.func105, by kernel_rfl, by kernel_rfl⟩
theorem cb106 : Cb PG 106 := ⟨_, Tryz.func106, by kernel_rfl, by kernel_rfl⟩
theorem cb107 : Cb PG 107 := ⟨_, Tryz.func107, by kernel_rfl, by kernel_rfl⟩
theorem cb108 : Cb PG 108 := ⟨_, Tryz.func108, by kernel_rfl, by kernel_rfl⟩
theorem cb109 : Cb PG 109 := ⟨_, Tryz.func109, by kernel_rfl, by kernel_rfl⟩
theorem cb110 : Cb PG 110 := ⟨_, Tryz.func110, by kernel_rfl, by kernel_rfl⟩
theorem cb111 : Cb PG 111 := ⟨_, Tryz.func111, by kernel_rfl, by kernel_rfl⟩
theorem cb112 : Cb PG 112 := ⟨_, Tryz.func112, by kernel_rfl, by kernel_rfl⟩
theorem cb113 : Cb PG 113 := ⟨_, Tryz.func113, by kernel_rfl, by kernel_rfl⟩
theorem cb114 : Cb PG 114 := ⟨_, Tryz.func114, by kernel_rfl, by kernel_rfl⟩
theorem cb115 : Cb PG 115 := ⟨_, Tryz.func115, by kernel_rfl, by kernel_rfl⟩
theorem cb116 : Cb PG 116 := ⟨_, Tryz.func116, by kernel_rfl, by kernel_rfl⟩
theorem cb117 : Cb PG 117 := ⟨_, Tryz.func117, by kernel_rfl, by kernel_rfl⟩
theorem cb118 : Cb PG 118 := ⟨_, Tryz.func118, by kernel_rfl, by kernel_rfl⟩
theorem cb119 : Cb PG 119 := ⟨_, Tryz.func119, by kernel_rfl, by kernel_rfl⟩
theorem cb120 : Cb PG 120 := ⟨_, Tryz.func120, by kernel_rfl, by kernel_rfl⟩
theorem cb121 : Cb PG 121 := ⟨_, Tryz.func121, by kernel_rfl, by kernel_rfl⟩
theorem cb122 : Cb PG 122 := ⟨_, Tryz.func122, by kernel_rfl, by kernel_rfl⟩
theorem cb123 : Cb PG 123 := ⟨_, Tryz.func123, by kernel_rfl, by kernel_rfl⟩
theorem cb125 : Cb PG 125 := ⟨_, Tryz.func125, by kernel_rfl, by kernel_rfl⟩
theorem cb131 : Cb PG 131 := ⟨_, Tryz.func131, by kernel_rfl, by kernel_rfl⟩
theorem cb132 : Cb PG 132 := ⟨_, Tryz.func132, by kernel_rfl, by kernel_rfl⟩
theorem cb133 : Cb PG 133 := ⟨_, Tryz.func133, by kernel_rfl, by kernel_rfl⟩
theorem cb135 : Cb PG 135 := ⟨_, Tryz.func135, by kernel_rfl, by kernel_rfl⟩
theorem cb136 : Cb PG 136 := ⟨_, Tryz.func136, by kernel_rfl, by kernel_rfl⟩
theorem cb137 : Cb PG 137 := ⟨_, Tryz.func137, by kernel_rfl, by kernel_rfl⟩
theorem cb138 : Cb PG 138 := ⟨_, Tryz.func138, by kernel_rfl, by kernel_rfl⟩
theorem cb153 : Cb PG 153 := ⟨_, Tryz.func153, by kernel_rfl, by kernel_rfl⟩
theorem cb154 : Cb PG 154 := ⟨_, Tryz.func154, by kernel_rfl, by kernel_rfl⟩
theorem cb155 : Cb PG 155 := ⟨_, Tryz.func155, by kernel_rfl, by kernel_rfl⟩
theorem cb156 : Cb PG 156 := ⟨_, Tryz.func156, by kernel_rfl, by kernel_rfl⟩
theorem cb157 : Cb PG 157 := ⟨_, Tryz.func157, by kernel_rfl, by kernel_rfl⟩
theorem cb158 : Cb PG 158 := ⟨_, Tryz.func158, by kernel_rfl, by kernel_rfl⟩
theorem cb159 : Cb PG 159 := ⟨_, Tryz.func159, by kernel_rfl, by kernel_rfl⟩
theorem cb160 : Cb PG 160 := ⟨_, Tryz.func160, by kernel_rfl, by kernel_rfl⟩
theorem cb161 : Cb PG 161 := ⟨_, Tryz.func161, by kernel_rfl, by kernel_rfl⟩
theorem cb162 : Cb PG 162 := ⟨_, Tryz.func162, by kernel_rfl, by kernel_rfl⟩
theorem cb163 : Cb PG 163 := ⟨_, Tryz.func163, by kernel_rfl, by kernel_rfl⟩
theorem cb164 : Cb PG 164 := ⟨_, Tryz.func164, by kernel_rfl, by kernel_rfl⟩
theorem cb165 : Cb PG 165 := ⟨_, Tryz.func165, by kernel_rfl, by kernel_rfl⟩
theorem cb166 : Cb PG 166 := ⟨_, Tryz.func166, by kernel_rfl, by kernel_rfl⟩
theorem cb167 : Cb PG 167 := ⟨_, Tryz.func167, by kernel_rfl, by kernel_rfl⟩
theorem cb168 : Cb PG 168 := ⟨_, Tryz.func168, by kernel_rfl, by kernel_rfl⟩
theorem cb169 : Cb PG 169 := ⟨_, Tryz.func169, by kernel_rfl, by kernel_rfl⟩
theorem cb170 : Cb PG 170 := ⟨_, Tryz.func170, by kernel_rfl, by kernel_rfl⟩
theorem cb171 : Cb PG 171 := ⟨_, Tryz.func171, by kernel_rfl, by kernel_rfl⟩
theorem cb172 : Cb PG 172 := ⟨_, Tryz.func172, by kernel_rfl, by kernel_rfl⟩
theorem cb173 : Cb PG 173 := ⟨_, Tryz.func173, by kernel_rfl, by kernel_rfl⟩
theorem cb174 : Cb PG 174 := ⟨_, Tryz.func174, by kernel_rfl, by kernel_rfl⟩
theorem cb175 : Cb PG 175 := ⟨_, Tryz.func175, by kernel_rfl, by kernel_rfl⟩
theorem cb176 : Cb PG 176 := ⟨_, Tryz.func176, by kernel_rfl, by kernel_rfl⟩
theorem cb177 : Cb PG 177 := ⟨_, Tryz.func177, by kernel_rfl, by kernel_rfl⟩
theorem cb178 : Cb PG 178 := ⟨_, Tryz.func178, by kernel_rfl, by kernel_rfl⟩
theorem cb179 : Cb PG 179 := ⟨_, Tryz.func179, by kernel_rfl, by kernel_rfl⟩
theorem cb180 : Cb PG 180 := ⟨_, Tryz.func180, by kernel_rfl, by kernel_rfl⟩
theorem cb181 : Cb PG 181 := ⟨_, Tryz.func181, by kernel_rfl, by kernel_rfl⟩
theorem cb182 : Cb PG 182 := ⟨_, Tryz.func182, by kernel_rfl, by kernel_rfl⟩
theorem cb183 : Cb PG 183 := ⟨_, Tryz.func183, by kernel_rfl, by kernel_rfl⟩
theorem cb184 : Cb PG 184 := ⟨_, Tryz.func184, by kernel_rfl, by kernel_rfl⟩
theorem cb185 : Cb PG 185 := ⟨_, Tryz.func185, by kernel_rfl, by kernel_rfl⟩
theorem cb190 : Cb PG 190 := ⟨_, Tryz.func190, by kernel_rfl, by kernel_rfl⟩
theorem cb191 : Cb PG 191 := ⟨_, Tryz.func191, by kernel_rfl, by kernel_rfl⟩
theorem cb192 : Cb PG 192 := ⟨_, Tryz.func192, by kernel_rfl, by kernel_rfl⟩
theorem cb193 : Cb PG 193 := ⟨_, Tryz.func193, by kernel_rfl, by kernel_rfl⟩
theorem cb194 : Cb PG 194 := ⟨_, Tryz.func194, by kernel_rfl, by kernel_rfl⟩
theorem cb195 : Cb PG 195 := ⟨_, Tryz.func195, by kernel_rfl, by kernel_rfl⟩
theorem cb196 : Cb PG 196 := ⟨_, Tryz.func196, by kernel_rfl, by kernel_rfl⟩
theorem cb197 : Cb PG 197 := ⟨_, Tryz.func197, by kernel_rfl, by kernel_rfl⟩
theorem cb198 : Cb PG 198 := ⟨_, Tryz.func198, by kernel_rfl, by kernel_rfl⟩
theorem cb199 : Cb PG 199 := ⟨_, Tryz.func199, by kernel_rfl, by kernel_rfl⟩
theorem cb200 : Cb PG 200 := ⟨_, Tryz.func200, by kernel_rfl, by kernel_rfl⟩
theorem cb201 : Cb PG 201 := ⟨_, Tryz.func201, by kernel_rfl, by kernel_rfl⟩
theorem cb202 : Cb PG 202 := ⟨_, Tryz.func202, by kernel_rfl, by kernel_rfl⟩
theorem cb203 : Cb PG 203 := ⟨_, Tryz.func203, by kernel_rfl, by kernel_rfl⟩
theorem cb204 : Cb PG 204 := ⟨_, Tryz.func204, by kernel_rfl, by kernel_rfl⟩
theorem cb205 : Cb PG 205 := ⟨_, Tryz.func205, by kernel_rfl, by kernel_rfl⟩
theorem cb206 : Cb PG 206 := ⟨_, Tryz.func206, by kernel_rfl, by kernel_rfl⟩
theorem cb207 : Cb PG 207 := ⟨_, Tryz.func207, by kernel_rfl, by kernel_rfl⟩
theorem cb208 : Cb PG 208 := ⟨_, Tryz.func208, by kernel_rfl, by kernel_rfl⟩
theorem cb209 : Cb PG 209 := ⟨_, Tryz.func209, by kernel_rfl, by kernel_rfl⟩
theorem cb210 : Cb PG 210 := ⟨_, Tryz.func210, by kernel_rfl, by kernel_rfl⟩
theorem cb211 : Cb PG 211 := ⟨_, Tryz.func211, by kernel_rfl, by kernel_rfl⟩
theorem cb212 : Cb PG 212 := ⟨_, Tryz.func212, by kernel_rfl, by kernel_rfl⟩
theorem cb213 : Cb PG 213 := ⟨_, Tryz.func213, by kernel_rfl, by kernel_rfl⟩
theorem cb214 : Cb PG 214 := ⟨_, Tryz.func214, by kernel_rfl, by kernel_rfl⟩
theorem cb215 : Cb PG 215 := ⟨_, Tryz.func215, by kernel_rfl, by kernel_rfl⟩
theorem cb216 : Cb PG 216 := ⟨_, Tryz.func216, by kernel_rfl, by kernel_rfl⟩
theorem cb217 : Cb PG 217 := ⟨_, Tryz.func217, by kernel_rfl, by kernel_rfl⟩
theorem cb220 : Cb PG 220 := ⟨_, Tryz.func220, by kernel_rfl, by kernel_rfl⟩
theorem cb221 : Cb PG 221 := ⟨_, Tryz.func221, by kernel_rfl, by kernel_rfl⟩
theorem cb222 : Cb PG 222 := ⟨_, Tryz.func222, by kernel_rfl, by kernel_rfl⟩
theorem cb223 : Cb PG 223 := ⟨_, Tryz.func223, by kernel_rfl, by kernel_rfl⟩
theorem cb224 : Cb PG 224 := ⟨_, Tryz.func224, by kernel_rfl, by kernel_rfl⟩
theorem mixed : PG.follows .mixedOrders = true := by kernel_rfl
end Go.Bus
