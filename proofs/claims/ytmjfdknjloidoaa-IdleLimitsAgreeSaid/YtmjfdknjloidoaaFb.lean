/- What the loaded program says of its types. -/
import Derived.Test.YtmjfdknjloidoaaProg
import Derived.Test.YtmjfdknjloidoaaFa
namespace Go.Proofs.Ytmjfdknjloidoaa.X
open Go Go.RowKit Go.Sx

theorem fol : Try.prog.follows .mixedOrders = true := by kernel_rfl
def K_uint64 : EK Int where
  E := 23
  sz := 1
  enc x := [.int .u64 x]
  z := 0
  len _ := rfl
  one x v h := by simp only [List.mem_cons, List.not_mem_nil, or_false] at h; rcases h with rfl <;> rfl
  pos := by decide
def K_api_IdleState : EK IdleState where
  E := 25
  sz := 3
  enc x := [.int .u64 x.Latency, .int .u64 x.Residency, .int .u64 x.Power]
  z := IdleState.zero
  len _ := rfl
  one x v h := by simp only [List.mem_cons, List.not_mem_nil, or_false] at h; rcases h with rfl | rfl | rfl <;> rfl
  pos := by decide
def K_platformfwlaw37_Request : EK Request where
  E := 49
  sz := 4
  enc x := [.int .i64 x.Client, .int .u64 x.Latency, .bool x.Remove, .bool x.Raw]
  z := Request.zero
  len _ := rfl
  one x v h := by simp only [List.mem_cons, List.not_mem_nil, or_false] at h; rcases h with rfl | rfl | rfl | rfl <;> rfl
  pos := by decide
theorem bt_25 : BT Try.prog 25 [.int .u64 0, .int .u64 0, .int .u64 0] [(0, 1), (1, 1), (2, 1)] := ⟨_, .agg #[.int .u64 0, .int .u64 0, .int .u64 0], 24, Try.underlying25, by unfold TI; kernel_rfl, rfl, by kernel_rfl⟩
theorem ep_25 : EP Try.prog K_api_IdleState 24 := ⟨.agg #[.int .u64 0, .int .u64 0, .int .u64 0], by unfold TI; kernel_rfl, rfl⟩
theorem sa_22 : SA Try.prog 22 25 3 := ⟨Try.underlying22, by kernel_rfl⟩
theorem fa_25_0 : FA Try.prog 25 0 0 := ⟨_, _, 1, Try.underlying25, rfl, rfl, by kernel_rfl, by decide⟩
theorem sc_23 : SC Try.prog 23 := ⟨_, Try.underlying23, rfl⟩
theorem fa_25_1 : FA Try.prog 25 1 1 := ⟨_, _, 1, Try.underlying25, rfl, rfl, by kernel_rfl, by decide⟩
theorem ag_25 : AG Try.prog 25 3 := ⟨_, Try.underlying25, rfl, by kernel_rfl⟩
theorem ti_25 : TI Try.prog 25 (.agg #[.int .u64 0, .int .u64 0, .int .u64 0]) 3 24 := by unfold TI; kernel_rfl
theorem sz_25 : (Try.prog.info? 25).map (·.size) = some 3 := by kernel_rfl
theorem fa_25_2 : FA Try.prog 25 2 2 := ⟨_, _, 1, Try.underlying25, rfl, rfl, by kernel_rfl, by decide⟩
theorem cf_18 : CF Try.prog 18 := ⟨Try.f18, Try.func18, by kernel_rfl, rfl⟩
theorem cf_16 : CF Try.prog 16 := ⟨Try.f16, Try.func16, by kernel_rfl, rfl⟩
theorem cf_20 : CF Try.prog 20 := ⟨Try.f20, Try.func20, by kernel_rfl, rfl⟩
theorem cf_13 : CF Try.prog 13 := ⟨Try.f13, Try.func13, by kernel_rfl, rfl⟩
theorem mt_62 : MT Try.prog 62 3 23 .i64 .u64 := ⟨Try.underlying62, Try.underlying3, by kernel_rfl⟩
theorem bt_64 : BT Try.prog 64 [.map none] [(0, 1)] := ⟨_, .agg #[.map none], 8, Try.underlying64, by unfold TI; kernel_rfl, rfl, by kernel_rfl⟩
theorem cf_22 : CF Try.prog 22 := ⟨Try.f22, Try.func22, by kernel_rfl, rfl⟩
theorem cf_15 : CF Try.prog 15 := ⟨Try.f15, Try.func15, by kernel_rfl, rfl⟩
theorem sa_39 : SA Try.prog 39 23 1 := ⟨Try.underlying39, by kernel_rfl⟩
theorem cf_36 : CF Try.prog 36 := ⟨Try.f36, Try.func36, by kernel_rfl, rfl⟩
theorem fa_64_0 : FA Try.prog 64 0 0 := ⟨_, _, 1, Try.underlying64, rfl, rfl, by kernel_rfl, by decide⟩
theorem sc_62 : SC Try.prog 62 := ⟨_, Try.underlying62, rfl⟩
theorem cf_23 : CF Try.prog 23 := ⟨Try.f23, Try.func23, by kernel_rfl, rfl⟩
theorem cf_24 : CF Try.prog 24 := ⟨Try.f24, Try.func24, by kernel_rfl, rfl⟩
theorem bt_69 : BT Try.prog 69 [.bool false, .bool false, .bool false, .bool false, .bool false, .bool false, .bool false, .bool false, .bool false, .bool false, .bool false, .bool false, .bool false, .bool false, .bool false, .bool false, .bool false, .bool false, .bool false, .bool false, .bool false, .bool false, .bool false, .bool false, .bool false, .bool false, .bool false, .bool false, .bool false, .bool false, .bool false, .bool false, .int .u64 0, .int .u64 0, .int .u64 0, .int .u64 0, .int .u64 0, .int .u64 0, .int .u64 0, .int .u64 0, .int .u64 0, .int .u64 0, .int .u64 0, .int .u64 0, .int .u64 0, .int .u64 0, .int .u64 0, .int .u64 0, .int .u64 0, .int .u64 0, .int .u64 0, .int .u64 0, .int .u64 0, .int .u64 0, .int .u64 0, .int .u64 0, .int .u64 0, .int .u64 0, .int .u64 0, .int .u64 0, .int .u64 0, .int .u64 0, .int .u64 0, .int .u64 0] [(0, 32), (32, 32)] := ⟨_, .agg #[.bool false, .bool false, .bool false, .bool false, .bool false, .bool false, .bool false, .bool false, .bool false, .bool false, .bool false, .bool false, .bool false, .bool false, .bool false, .bool false, .bool false, .bool false, .bool false, .bool false, .bool false, .bool false, .bool false, .bool false, .bool false, .bool false, .bool false, .bool false, .bool false, .bool false, .bool false, .bool false, .int .u64 0, .int .u64 0, .int .u64 0, .int .u64 0, .int .u64 0, .int .u64 0, .int .u64 0, .int .u64 0, .int .u64 0, .int .u64 0, .int .u64 0, .int .u64 0, .int .u64 0, .int .u64 0, .int .u64 0, .int .u64 0, .int .u64 0, .int .u64 0, .int .u64 0, .int .u64 0, .int .u64 0, .int .u64 0, .int .u64 0, .int .u64 0, .int .u64 0, .int .u64 0, .int .u64 0, .int .u64 0, .int .u64 0, .int .u64 0, .int .u64 0, .int .u64 0], 288, Try.underlying69, by unfold TI; kernel_rfl, rfl, by kernel_rfl⟩
theorem cf_25 : CF Try.prog 25 := ⟨Try.f25, Try.func25, by kernel_rfl, rfl⟩
theorem sa_45 : SA Try.prog 45 49 4 := ⟨Try.underlying45, by kernel_rfl⟩
theorem ag_49 : AG Try.prog 49 4 := ⟨_, Try.underlying49, rfl, by kernel_rfl⟩
theorem ti_49 : TI Try.prog 49 (.agg #[.int .i64 0, .int .u64 0, .bool false, .bool false]) 4 24 := by unfold TI; kernel_rfl
theorem sz_49 : (Try.prog.info? 49).map (·.size) = some 4 := by kernel_rfl
theorem fa_49_0 : FA Try.prog 49 0 0 := ⟨_, _, 1, Try.underlying49, rfl, rfl, by kernel_rfl, by decide⟩
theorem sc_3 : SC Try.prog 3 := ⟨_, Try.underlying3, rfl⟩
theorem fa_49_3 : FA Try.prog 49 3 3 := ⟨_, _, 1, Try.underlying49, rfl, rfl, by kernel_rfl, by decide⟩
theorem sc_4 : SC Try.prog 4 := ⟨_, Try.underlying4, rfl⟩
theorem fa_49_2 : FA Try.prog 49 2 2 := ⟨_, _, 1, Try.underlying49, rfl, rfl, by kernel_rfl, by decide⟩
theorem cf_26 : CF Try.prog 26 := ⟨Try.f26, Try.func26, by kernel_rfl, rfl⟩
theorem fa_69_0 : FA Try.prog 69 0 0 := ⟨_, _, 32, Try.underlying69, rfl, rfl, by kernel_rfl, by decide⟩
theorem ia_66 : IA Try.prog 66 4 32 1 := ⟨Try.underlying66, by kernel_rfl⟩
theorem sz_4 : (Try.prog.info? 4).map (·.size) = some 1 := by kernel_rfl
theorem cf_27 : CF Try.prog 27 := ⟨Try.f27, Try.func27, by kernel_rfl, rfl⟩
theorem fa_49_1 : FA Try.prog 49 1 1 := ⟨_, _, 1, Try.underlying49, rfl, rfl, by kernel_rfl, by decide⟩
theorem fa_69_1 : FA Try.prog 69 1 32 := ⟨_, _, 32, Try.underlying69, rfl, rfl, by kernel_rfl, by decide⟩
theorem ia_67 : IA Try.prog 67 23 32 1 := ⟨Try.underlying67, by kernel_rfl⟩
theorem sz_23 : (Try.prog.info? 23).map (·.size) = some 1 := by kernel_rfl
theorem cf_28 : CF Try.prog 28 := ⟨Try.f28, Try.func28, by kernel_rfl, rfl⟩
theorem cf_29 : CF Try.prog 29 := ⟨Try.f29, Try.func29, by kernel_rfl, rfl⟩
theorem cf_14 : CF Try.prog 14 := ⟨Try.f14, Try.func14, by kernel_rfl, rfl⟩

end Go.Proofs.Ytmjfdknjloidoaa.X
