/- What the loaded program says of its types. -/
import Derived.Test.YtmjfdknjloidoaaProg
import Derived.Test.YtmjfdknjloidoaaFa
namespace Go.Proofs.Ytmjfdknjloidoaa.X
open Go Go.RowKit Go.Sx

theorem fol : Try.prog.follows .mixedOrders = true := by kernel_rfl
def K_api_IdleState : EK IdleState where
  E := 25
  sz := 3
  enc x := [.int .u64 x.Latency, .int .u64 x.Residency, .int .u64 x.Power]
  z := IdleState.zero
  len _ := rfl
  one x v h := by simp only [List.mem_cons, List.not_mem_nil, or_false] at h; rcases h with rfl | rfl | rfl <;> rfl
  pos := by decide
def K_uint64 : EK Int where
  E := 23
  sz := 1
  enc x := [.int .u64 x]
  z := 0
  len _ := rfl
  one x v h := by simp only [List.mem_cons, List.not_mem_nil, or_false] at h; rcases h with rfl <;> rfl
  pos := by decide
theorem bt_25 : BT Try.prog 25 [.int .u64 0, .int .u64 0, .int .u64 0] [(0, 1), (1, 1), (2, 1)] := ⟨_, .agg #[.int .u64 0, .int .u64 0, .int .u64 0], 24, Try.underlying25, by unfold TI; kernel_rfl, rfl, by kernel_rfl⟩
theorem ep_25 : EP Try.prog K_api_IdleState 24 := ⟨.agg #[.int .u64 0, .int .u64 0, .int .u64 0], by unfold TI; kernel_rfl, rfl⟩
theorem sa_22 : SA Try.prog 22 25 3 := ⟨Try.underlying22, by kernel_rfl⟩
theorem fa_25_0 : FA Try.prog 25 0 0 := ⟨_, _, 1, Try.underlying25, rfl, rfl, by kernel_rfl, by decide⟩
theorem sc_23 : SC Try.prog 23 := ⟨_, Try.underlying23, rfl⟩
theorem fa_25_1 : FA Try.prog 25 1 1 := ⟨_, _, 1, Try.underlying25, rfl, rfl, by kernel_rfl, by decide⟩
theorem ag_25 : AG Try.prog 25 3 := ⟨_, Try.underlying25, rfl, by kernel_rfl⟩
theorem ti_25 : TI Try.prog 25 (.agg #[.int .u64 0, .int .u64 0, .int .u64 0]) 3 24 := by unfold TI; kernel_rfl
theorem sz_25 : (Try.prog.info? 25).map (·.size) = some 3 := by kernel_rfl
theorem fa_25_2 : FA Try.prog 25 2 2 := ⟨_, _, 1, Try.underlying25, rfl, rfl, by kernel_rfl, by decide⟩
theorem cf_18 : CF Try.prog 18 := ⟨Try.f18, Try.func18, by kernel_rfl, rfl⟩
theorem cf_16 : CF Try.prog 16 := ⟨Try.f16, Try.func16, by kernel_rfl, rfl⟩
theorem cf_20 : CF Try.prog 20 := ⟨Try.f20, Try.func20, by kernel_rfl, rfl⟩
theorem cf_13 : CF Try.prog 13 := ⟨Try.f13, Try.func13, by kernel_rfl, rfl⟩
theorem sz_23 : (Try.prog.info? 23).map (·.size) = some 1 := by kernel_rfl
theorem cf_14 : CF Try.prog 14 := ⟨Try.f14, Try.func14, by kernel_rfl, rfl⟩
theorem cf_15 : CF Try.prog 15 := ⟨Try.f15, Try.func15, by kernel_rfl, rfl⟩
theorem ba_29 : BA Try.prog 29 22 3 1 [.slice none 0 0, .slice none 0 0, .slice none 0 0] := ⟨.agg #[.slice none 0 0, .slice none 0 0, .slice none 0 0], 72, Try.underlying29, by unfold TI; kernel_rfl, rfl, by kernel_rfl⟩
theorem ia_29 : IA Try.prog 29 22 3 1 := ⟨Try.underlying29, by kernel_rfl⟩
theorem sc_22 : SC Try.prog 22 := ⟨_, Try.underlying22, rfl⟩
theorem cf_19 : CF Try.prog 19 := ⟨Try.f19, Try.func19, by kernel_rfl, rfl⟩
theorem cf_17 : CF Try.prog 17 := ⟨Try.f17, Try.func17, by kernel_rfl, rfl⟩
theorem cf_21 : CF Try.prog 21 := ⟨Try.f21, Try.func21, by kernel_rfl, rfl⟩
theorem bt_72 : BT Try.prog 72 [.slice none 0 0] [(0, 1)] := ⟨_, .agg #[.slice none 0 0], 24, Try.underlying72, by unfold TI; kernel_rfl, rfl, by kernel_rfl⟩
theorem cf_30 : CF Try.prog 30 := ⟨Try.f30, Try.func30, by kernel_rfl, rfl⟩
theorem bt_74 : BT Try.prog 74 [.slice none 0 0] [(0, 1)] := ⟨_, .agg #[.slice none 0 0], 24, Try.underlying74, by unfold TI; kernel_rfl, rfl, by kernel_rfl⟩
theorem cf_31 : CF Try.prog 31 := ⟨Try.f31, Try.func31, by kernel_rfl, rfl⟩
theorem sa_39 : SA Try.prog 39 23 1 := ⟨Try.underlying39, by kernel_rfl⟩
theorem fa_72_0 : FA Try.prog 72 0 0 := ⟨_, _, 1, Try.underlying72, rfl, rfl, by kernel_rfl, by decide⟩
theorem sc_39 : SC Try.prog 39 := ⟨_, Try.underlying39, rfl⟩
theorem ep_23 : EP Try.prog K_uint64 8 := ⟨.int .u64 0, by unfold TI; kernel_rfl, rfl⟩
theorem sz_39 : (Try.prog.info? 39).map (·.size) = some 1 := by kernel_rfl
theorem cf_37 : CF Try.prog 37 := ⟨Try.f37, Try.func37, by kernel_rfl, rfl⟩
theorem cf_32 : CF Try.prog 32 := ⟨Try.f32, Try.func32, by kernel_rfl, rfl⟩
theorem fa_74_0 : FA Try.prog 74 0 0 := ⟨_, _, 1, Try.underlying74, rfl, rfl, by kernel_rfl, by decide⟩
theorem cf_33 : CF Try.prog 33 := ⟨Try.f33, Try.func33, by kernel_rfl, rfl⟩
theorem cf_38 : CF Try.prog 38 := ⟨Try.f38, Try.func38, by kernel_rfl, rfl⟩
theorem cf_34 : CF Try.prog 34 := ⟨Try.f34, Try.func34, by kernel_rfl, rfl⟩
theorem cf_35 : CF Try.prog 35 := ⟨Try.f35, Try.func35, by kernel_rfl, rfl⟩

end Go.Proofs.Ytmjfdknjloidoaa.X
