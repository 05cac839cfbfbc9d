/- What the loaded program says of its types. -/
import Derived.Test.YthemeobgfgmblaaProg
import Derived.Test.YthemeobgfgmblaaFa
namespace Go.Proofs.Ythemeobgfgmblaa.X
open Go Go.RowKit Go.Sx

theorem fol : Try.prog.follows .mixedOrders = true := by kernel_rfl
def K_api_OperatingPoint : EK OperatingPoint where
  E := 25
  sz := 3
  enc x := [.int .u64 x.Frequency, .int .u64 x.Voltage, .int .u64 x.Power]
  z := OperatingPoint.zero
  len _ := rfl
  one x v h := by simp only [List.mem_cons, List.not_mem_nil, or_false] at h; rcases h with rfl | rfl | rfl <;> rfl
  pos := by decide
def K_api_PerfOp : EK PerfOp where
  E := 40
  sz := 2
  enc x := [.bool x.Voltage, .int .u64 x.Value]
  z := PerfOp.zero
  len _ := rfl
  one x v h := by simp only [List.mem_cons, List.not_mem_nil, or_false] at h; rcases h with rfl | rfl <;> rfl
  pos := by decide
def K_int : EK Int where
  E := 3
  sz := 1
  enc x := [.int .i64 x]
  z := 0
  len _ := rfl
  one x v h := by simp only [List.mem_cons, List.not_mem_nil, or_false] at h; rcases h with rfl <;> rfl
  pos := by decide
def K_api_GovernorParams : EK GovernorParams where
  E := 45
  sz := 3
  enc x := [.int .i64 x.Up, .int .i64 x.Down, .int .i64 x.Samples]
  z := GovernorParams.zero
  len _ := rfl
  one x v h := by simp only [List.mem_cons, List.not_mem_nil, or_false] at h; rcases h with rfl | rfl | rfl <;> rfl
  pos := by decide
theorem bt_25 : BT Try.prog 25 [.int .u64 0, .int .u64 0, .int .u64 0] [(0, 1), (1, 1), (2, 1)] := ⟨_, .agg #[.int .u64 0, .int .u64 0, .int .u64 0], 24, Try.underlying25, by unfold TI; kernel_rfl, rfl, by kernel_rfl⟩
theorem ep_25 : EP Try.prog K_api_OperatingPoint 24 := ⟨.agg #[.int .u64 0, .int .u64 0, .int .u64 0], by unfold TI; kernel_rfl, rfl⟩
theorem sa_22 : SA Try.prog 22 25 3 := ⟨Try.underlying22, by kernel_rfl⟩
theorem ag_25 : AG Try.prog 25 3 := ⟨_, Try.underlying25, rfl, by kernel_rfl⟩
theorem ti_25 : TI Try.prog 25 (.agg #[.int .u64 0, .int .u64 0, .int .u64 0]) 3 24 := by unfold TI; kernel_rfl
theorem sz_25 : (Try.prog.info? 25).map (·.size) = some 3 := by kernel_rfl
theorem fa_25_0 : FA Try.prog 25 0 0 := ⟨_, _, 1, Try.underlying25, rfl, rfl, by kernel_rfl, by decide⟩
theorem sc_23 : SC Try.prog 23 := ⟨_, Try.underlying23, rfl⟩
theorem fa_25_1 : FA Try.prog 25 1 1 := ⟨_, _, 1, Try.underlying25, rfl, rfl, by kernel_rfl, by decide⟩
theorem fa_25_2 : FA Try.prog 25 2 2 := ⟨_, _, 1, Try.underlying25, rfl, rfl, by kernel_rfl, by decide⟩
theorem cf_17 : CF Try.prog 17 := ⟨Try.f17, Try.func17, by kernel_rfl, rfl⟩
theorem cf_35 : CF Try.prog 35 := ⟨Try.f35, Try.func35, by kernel_rfl, rfl⟩
theorem bt_40 : BT Try.prog 40 [.bool false, .int .u64 0] [(0, 1), (1, 1)] := ⟨_, .agg #[.bool false, .int .u64 0], 16, Try.underlying40, by unfold TI; kernel_rfl, rfl, by kernel_rfl⟩
theorem ep_40 : EP Try.prog K_api_PerfOp 16 := ⟨.agg #[.bool false, .int .u64 0], by unfold TI; kernel_rfl, rfl⟩
theorem sa_35 : SA Try.prog 35 40 2 := ⟨Try.underlying35, by kernel_rfl⟩
theorem sz_40 : (Try.prog.info? 40).map (·.size) = some 2 := by kernel_rfl
theorem cf_36 : CF Try.prog 36 := ⟨Try.f36, Try.func36, by kernel_rfl, rfl⟩
theorem cf_19 : CF Try.prog 19 := ⟨Try.f19, Try.func19, by kernel_rfl, rfl⟩
theorem cf_34 : CF Try.prog 34 := ⟨Try.f34, Try.func34, by kernel_rfl, rfl⟩
theorem cf_33 : CF Try.prog 33 := ⟨Try.f33, Try.func33, by kernel_rfl, rfl⟩
theorem cf_15 : CF Try.prog 15 := ⟨Try.f15, Try.func15, by kernel_rfl, rfl⟩
theorem ag_40 : AG Try.prog 40 2 := ⟨_, Try.underlying40, rfl, by kernel_rfl⟩
theorem cf_21 : CF Try.prog 21 := ⟨Try.f21, Try.func21, by kernel_rfl, rfl⟩
theorem ti_23 : TI Try.prog 23 (.int .u64 0) 1 8 := by unfold TI; kernel_rfl
theorem sz_23 : (Try.prog.info? 23).map (·.size) = some 1 := by kernel_rfl
theorem ti_40 : TI Try.prog 40 (.agg #[.bool false, .int .u64 0]) 2 16 := by unfold TI; kernel_rfl
theorem fa_40_0 : FA Try.prog 40 0 0 := ⟨_, _, 1, Try.underlying40, rfl, rfl, by kernel_rfl, by decide⟩
theorem sc_4 : SC Try.prog 4 := ⟨_, Try.underlying4, rfl⟩
theorem fa_40_1 : FA Try.prog 40 1 1 := ⟨_, _, 1, Try.underlying40, rfl, rfl, by kernel_rfl, by decide⟩
theorem cf_37 : CF Try.prog 37 := ⟨Try.f37, Try.func37, by kernel_rfl, rfl⟩
theorem cf_22 : CF Try.prog 22 := ⟨Try.f22, Try.func22, by kernel_rfl, rfl⟩
theorem cf_12 : CF Try.prog 12 := ⟨Try.f12, Try.func12, by kernel_rfl, rfl⟩
theorem cf_13 : CF Try.prog 13 := ⟨Try.f13, Try.func13, by kernel_rfl, rfl⟩
theorem cf_14 : CF Try.prog 14 := ⟨Try.f14, Try.func14, by kernel_rfl, rfl⟩
theorem ba_29 : BA Try.prog 29 22 3 1 [.slice none 0 0, .slice none 0 0, .slice none 0 0] := ⟨.agg #[.slice none 0 0, .slice none 0 0, .slice none 0 0], 72, Try.underlying29, by unfold TI; kernel_rfl, rfl, by kernel_rfl⟩
theorem ia_29 : IA Try.prog 29 22 3 1 := ⟨Try.underlying29, by kernel_rfl⟩
theorem sc_22 : SC Try.prog 22 := ⟨_, Try.underlying22, rfl⟩
theorem cf_18 : CF Try.prog 18 := ⟨Try.f18, Try.func18, by kernel_rfl, rfl⟩
theorem cf_16 : CF Try.prog 16 := ⟨Try.f16, Try.func16, by kernel_rfl, rfl⟩
theorem cf_20 : CF Try.prog 20 := ⟨Try.f20, Try.func20, by kernel_rfl, rfl⟩
theorem cf_23 : CF Try.prog 23 := ⟨Try.f23, Try.func23, by kernel_rfl, rfl⟩
theorem ag_45 : AG Try.prog 45 3 := ⟨_, Try.underlying45, rfl, by kernel_rfl⟩
theorem ti_45 : TI Try.prog 45 (.agg #[.int .i64 0, .int .i64 0, .int .i64 0]) 3 24 := by unfold TI; kernel_rfl
theorem fa_45_0 : FA Try.prog 45 0 0 := ⟨_, _, 1, Try.underlying45, rfl, rfl, by kernel_rfl, by decide⟩
theorem sc_3 : SC Try.prog 3 := ⟨_, Try.underlying3, rfl⟩
theorem fa_45_1 : FA Try.prog 45 1 1 := ⟨_, _, 1, Try.underlying45, rfl, rfl, by kernel_rfl, by decide⟩
theorem fa_45_2 : FA Try.prog 45 2 2 := ⟨_, _, 1, Try.underlying45, rfl, rfl, by kernel_rfl, by decide⟩
theorem bt_45 : BT Try.prog 45 [.int .i64 0, .int .i64 0, .int .i64 0] [(0, 1), (1, 1), (2, 1)] := ⟨_, .agg #[.int .i64 0, .int .i64 0, .int .i64 0], 24, Try.underlying45, by unfold TI; kernel_rfl, rfl, by kernel_rfl⟩
theorem sz_45 : (Try.prog.info? 45).map (·.size) = some 3 := by kernel_rfl
theorem cf_24 : CF Try.prog 24 := ⟨Try.f24, Try.func24, by kernel_rfl, rfl⟩
theorem cf_38 : CF Try.prog 38 := ⟨Try.f38, Try.func38, by kernel_rfl, rfl⟩
theorem bt_66 : BT Try.prog 66 [.slice none 0 0, .int .i64 0, .int .i64 0, .int .i64 0, .int .i64 0, .int .i64 0, .int .i64 0, .int .i64 0] [(0, 1), (1, 3), (4, 1), (5, 1), (6, 1), (7, 1)] := ⟨_, .agg #[.slice none 0 0, .int .i64 0, .int .i64 0, .int .i64 0, .int .i64 0, .int .i64 0, .int .i64 0, .int .i64 0], 80, Try.underlying66, by unfold TI; kernel_rfl, rfl, by kernel_rfl⟩
theorem cf_25 : CF Try.prog 25 := ⟨Try.f25, Try.func25, by kernel_rfl, rfl⟩
theorem fa_66_1 : FA Try.prog 66 1 1 := ⟨_, _, 3, Try.underlying66, rfl, rfl, by kernel_rfl, by decide⟩
theorem fa_66_3 : FA Try.prog 66 3 5 := ⟨_, _, 1, Try.underlying66, rfl, rfl, by kernel_rfl, by decide⟩
theorem fa_66_4 : FA Try.prog 66 4 6 := ⟨_, _, 1, Try.underlying66, rfl, rfl, by kernel_rfl, by decide⟩
theorem sz_3 : (Try.prog.info? 3).map (·.size) = some 1 := by kernel_rfl
theorem fa_66_5 : FA Try.prog 66 5 7 := ⟨_, _, 1, Try.underlying66, rfl, rfl, by kernel_rfl, by decide⟩
theorem fa_66_2 : FA Try.prog 66 2 4 := ⟨_, _, 1, Try.underlying66, rfl, rfl, by kernel_rfl, by decide⟩
theorem fa_66_0 : FA Try.prog 66 0 0 := ⟨_, _, 1, Try.underlying66, rfl, rfl, by kernel_rfl, by decide⟩
theorem cf_39 : CF Try.prog 39 := ⟨Try.f39, Try.func39, by kernel_rfl, rfl⟩
theorem cf_26 : CF Try.prog 26 := ⟨Try.f26, Try.func26, by kernel_rfl, rfl⟩
theorem cf_27 : CF Try.prog 27 := ⟨Try.f27, Try.func27, by kernel_rfl, rfl⟩
theorem sa_52 : SA Try.prog 52 3 1 := ⟨Try.underlying52, by kernel_rfl⟩
theorem bt_69 : BT Try.prog 69 [.slice none 0 0, .int .i64 0, .int .i64 0, .int .i64 0, .int .i64 0, .int .i64 0, .int .i64 0, .int .i64 0] [(0, 1), (1, 3), (4, 1), (5, 1), (6, 1), (7, 1)] := ⟨_, .agg #[.slice none 0 0, .int .i64 0, .int .i64 0, .int .i64 0, .int .i64 0, .int .i64 0, .int .i64 0, .int .i64 0], 80, Try.underlying69, by unfold TI; kernel_rfl, rfl, by kernel_rfl⟩
theorem cf_28 : CF Try.prog 28 := ⟨Try.f28, Try.func28, by kernel_rfl, rfl⟩
theorem cf_29 : CF Try.prog 29 := ⟨Try.f29, Try.func29, by kernel_rfl, rfl⟩
theorem fa_69_0 : FA Try.prog 69 0 0 := ⟨_, _, 1, Try.underlying69, rfl, rfl, by kernel_rfl, by decide⟩
theorem fa_69_2 : FA Try.prog 69 2 4 := ⟨_, _, 1, Try.underlying69, rfl, rfl, by kernel_rfl, by decide⟩
theorem fa_69_3 : FA Try.prog 69 3 5 := ⟨_, _, 1, Try.underlying69, rfl, rfl, by kernel_rfl, by decide⟩
theorem fa_69_5 : FA Try.prog 69 5 7 := ⟨_, _, 1, Try.underlying69, rfl, rfl, by kernel_rfl, by decide⟩
theorem fa_69_4 : FA Try.prog 69 4 6 := ⟨_, _, 1, Try.underlying69, rfl, rfl, by kernel_rfl, by decide⟩
theorem fa_69_1 : FA Try.prog 69 1 1 := ⟨_, _, 3, Try.underlying69, rfl, rfl, by kernel_rfl, by decide⟩
theorem cf_30 : CF Try.prog 30 := ⟨Try.f30, Try.func30, by kernel_rfl, rfl⟩
theorem cf_31 : CF Try.prog 31 := ⟨Try.f31, Try.func31, by kernel_rfl, rfl⟩
theorem cf_32 : CF Try.prog 32 := ⟨Try.f32, Try.func32, by kernel_rfl, rfl⟩

end Go.Proofs.Ythemeobgfgmblaa.X
