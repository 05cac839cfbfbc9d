/- What the loaded program says of its types. -/
import Derived.Test.YtkcmohmnmapnbaaProg
import Derived.Test.YtkcmohmnmapnbaaFa
namespace Go.Proofs.Ytkcmohmnmapnbaa.X
open Go Go.RowKit Go.Sx

theorem fol : Try.prog.follows .mixedOrders = true := by kernel_rfl
def K_api_Trip : EK Trip where
  E := 24
  sz := 3
  enc x := [.int .i64 x.Kind, .int .i64 x.Temperature, .int .i64 x.Hysteresis]
  z := Trip.zero
  len _ := rfl
  one x v h := by simp only [List.mem_cons, List.not_mem_nil, or_false] at h; rcases h with rfl | rfl | rfl <;> rfl
  pos := by decide
def K_api_Actor : EK Actor where
  E := 56
  sz := 3
  enc x := [.int .u64 x.Request, .int .u64 x.Min, .int .u64 x.Max]
  z := Actor.zero
  len _ := rfl
  one x v h := by simp only [List.mem_cons, List.not_mem_nil, or_false] at h; rcases h with rfl | rfl | rfl <;> rfl
  pos := by decide
def K_uint64 : EK Int where
  E := 37
  sz := 1
  enc x := [.int .u64 x]
  z := 0
  len _ := rfl
  one x v h := by simp only [List.mem_cons, List.not_mem_nil, or_false] at h; rcases h with rfl <;> rfl
  pos := by decide
def K_bool : EK Bool where
  E := 4
  sz := 1
  enc x := [.bool x]
  z := false
  len _ := rfl
  one x v h := by simp only [List.mem_cons, List.not_mem_nil, or_false] at h; rcases h with rfl <;> rfl
  pos := by decide
def K_int64 : EK Int where
  E := 2
  sz := 1
  enc x := [.int .i64 x]
  z := 0
  len _ := rfl
  one x v h := by simp only [List.mem_cons, List.not_mem_nil, or_false] at h; rcases h with rfl <;> rfl
  pos := by decide
theorem bt_56 : BT Try.prog 56 [.int .u64 0, .int .u64 0, .int .u64 0] [(0, 1), (1, 1), (2, 1)] := ⟨_, .agg #[.int .u64 0, .int .u64 0, .int .u64 0], 24, Try.underlying56, by unfold TI; kernel_rfl, rfl, by kernel_rfl⟩
theorem ep_56 : EP Try.prog K_api_Actor 24 := ⟨.agg #[.int .u64 0, .int .u64 0, .int .u64 0], by unfold TI; kernel_rfl, rfl⟩
theorem sa_38 : SA Try.prog 38 56 3 := ⟨Try.underlying38, by kernel_rfl⟩
theorem ag_56 : AG Try.prog 56 3 := ⟨_, Try.underlying56, rfl, by kernel_rfl⟩
theorem fa_56_1 : FA Try.prog 56 1 1 := ⟨_, _, 1, Try.underlying56, rfl, rfl, by kernel_rfl, by decide⟩
theorem sc_37 : SC Try.prog 37 := ⟨_, Try.underlying37, rfl⟩
theorem fa_56_2 : FA Try.prog 56 2 2 := ⟨_, _, 1, Try.underlying56, rfl, rfl, by kernel_rfl, by decide⟩
theorem cf_43 : CF Try.prog 43 := ⟨Try.f43, Try.func43, by kernel_rfl, rfl⟩
theorem cf_44 : CF Try.prog 44 := ⟨Try.f44, Try.func44, by kernel_rfl, rfl⟩
theorem cf_42 : CF Try.prog 42 := ⟨Try.f42, Try.func42, by kernel_rfl, rfl⟩
theorem cf_33 : CF Try.prog 33 := ⟨Try.f33, Try.func33, by kernel_rfl, rfl⟩
theorem ti_56 : TI Try.prog 56 (.agg #[.int .u64 0, .int .u64 0, .int .u64 0]) 3 24 := by unfold TI; kernel_rfl
theorem sz_56 : (Try.prog.info? 56).map (·.size) = some 3 := by kernel_rfl
theorem fa_56_0 : FA Try.prog 56 0 0 := ⟨_, _, 1, Try.underlying56, rfl, rfl, by kernel_rfl, by decide⟩
theorem cf_36 : CF Try.prog 36 := ⟨Try.f36, Try.func36, by kernel_rfl, rfl⟩
theorem cf_35 : CF Try.prog 35 := ⟨Try.f35, Try.func35, by kernel_rfl, rfl⟩
theorem cf_34 : CF Try.prog 34 := ⟨Try.f34, Try.func34, by kernel_rfl, rfl⟩
theorem ep_37 : EP Try.prog K_uint64 8 := ⟨.int .u64 0, by unfold TI; kernel_rfl, rfl⟩
theorem cf_18 : CF Try.prog 18 := ⟨Try.f18, Try.func18, by kernel_rfl, rfl⟩
theorem bt_24 : BT Try.prog 24 [.int .i64 0, .int .i64 0, .int .i64 0] [(0, 1), (1, 1), (2, 1)] := ⟨_, .agg #[.int .i64 0, .int .i64 0, .int .i64 0], 24, Try.underlying24, by unfold TI; kernel_rfl, rfl, by kernel_rfl⟩
theorem ep_24 : EP Try.prog K_api_Trip 24 := ⟨.agg #[.int .i64 0, .int .i64 0, .int .i64 0], by unfold TI; kernel_rfl, rfl⟩
theorem sa_22 : SA Try.prog 22 24 3 := ⟨Try.underlying22, by kernel_rfl⟩
theorem ag_24 : AG Try.prog 24 3 := ⟨_, Try.underlying24, rfl, by kernel_rfl⟩
theorem ti_24 : TI Try.prog 24 (.agg #[.int .i64 0, .int .i64 0, .int .i64 0]) 3 24 := by unfold TI; kernel_rfl
theorem sz_24 : (Try.prog.info? 24).map (·.size) = some 3 := by kernel_rfl
theorem fa_24_0 : FA Try.prog 24 0 0 := ⟨_, _, 1, Try.underlying24, rfl, rfl, by kernel_rfl, by decide⟩
theorem sc_3 : SC Try.prog 3 := ⟨_, Try.underlying3, rfl⟩
theorem fa_24_1 : FA Try.prog 24 1 1 := ⟨_, _, 1, Try.underlying24, rfl, rfl, by kernel_rfl, by decide⟩
theorem sc_2 : SC Try.prog 2 := ⟨_, Try.underlying2, rfl⟩
theorem fa_24_2 : FA Try.prog 24 2 2 := ⟨_, _, 1, Try.underlying24, rfl, rfl, by kernel_rfl, by decide⟩
theorem cf_15 : CF Try.prog 15 := ⟨Try.f15, Try.func15, by kernel_rfl, rfl⟩
theorem cf_32 : CF Try.prog 32 := ⟨Try.f32, Try.func32, by kernel_rfl, rfl⟩
theorem ep_4 : EP Try.prog K_bool 1 := ⟨.bool false, by unfold TI; kernel_rfl, rfl⟩
theorem bt_62 : BT Try.prog 62 [.slice none 0 0, .slice none 0 0, .int .i64 0, .int .i64 0] [(0, 1), (1, 1), (2, 1), (3, 1)] := ⟨_, .agg #[.slice none 0 0, .slice none 0 0, .int .i64 0, .int .i64 0], 64, Try.underlying62, by unfold TI; kernel_rfl, rfl, by kernel_rfl⟩
theorem cf_13 : CF Try.prog 13 := ⟨Try.f13, Try.func13, by kernel_rfl, rfl⟩
theorem sa_40 : SA Try.prog 40 37 1 := ⟨Try.underlying40, by kernel_rfl⟩
theorem cf_20 : CF Try.prog 20 := ⟨Try.f20, Try.func20, by kernel_rfl, rfl⟩
theorem fa_62_0 : FA Try.prog 62 0 0 := ⟨_, _, 1, Try.underlying62, rfl, rfl, by kernel_rfl, by decide⟩
theorem sc_22 : SC Try.prog 22 := ⟨_, Try.underlying22, rfl⟩
theorem fa_62_1 : FA Try.prog 62 1 1 := ⟨_, _, 1, Try.underlying62, rfl, rfl, by kernel_rfl, by decide⟩
theorem sc_52 : SC Try.prog 52 := ⟨_, Try.underlying52, rfl⟩
theorem sa_52 : SA Try.prog 52 4 1 := ⟨Try.underlying52, by kernel_rfl⟩
theorem sz_4 : (Try.prog.info? 4).map (·.size) = some 1 := by kernel_rfl
theorem sc_4 : SC Try.prog 4 := ⟨_, Try.underlying4, rfl⟩
theorem cf_40 : CF Try.prog 40 := ⟨Try.f40, Try.func40, by kernel_rfl, rfl⟩
theorem fa_62_3 : FA Try.prog 62 3 3 := ⟨_, _, 1, Try.underlying62, rfl, rfl, by kernel_rfl, by decide⟩
theorem fa_62_2 : FA Try.prog 62 2 2 := ⟨_, _, 1, Try.underlying62, rfl, rfl, by kernel_rfl, by decide⟩
theorem sz_3 : (Try.prog.info? 3).map (·.size) = some 1 := by kernel_rfl
theorem cf_22 : CF Try.prog 22 := ⟨Try.f22, Try.func22, by kernel_rfl, rfl⟩
theorem cf_10 : CF Try.prog 10 := ⟨Try.f10, Try.func10, by kernel_rfl, rfl⟩
theorem cf_12 : CF Try.prog 12 := ⟨Try.f12, Try.func12, by kernel_rfl, rfl⟩
theorem cf_11 : CF Try.prog 11 := ⟨Try.f11, Try.func11, by kernel_rfl, rfl⟩
theorem cf_16 : CF Try.prog 16 := ⟨Try.f16, Try.func16, by kernel_rfl, rfl⟩
theorem bt_64 : BT Try.prog 64 [.slice none 0 0, .slice none 0 0, .int .i64 0, .int .i64 0] [(0, 1), (1, 1), (2, 1), (3, 1)] := ⟨_, .agg #[.slice none 0 0, .slice none 0 0, .int .i64 0, .int .i64 0], 64, Try.underlying64, by unfold TI; kernel_rfl, rfl, by kernel_rfl⟩
theorem cf_14 : CF Try.prog 14 := ⟨Try.f14, Try.func14, by kernel_rfl, rfl⟩
theorem cf_17 : CF Try.prog 17 := ⟨Try.f17, Try.func17, by kernel_rfl, rfl⟩
theorem cf_37 : CF Try.prog 37 := ⟨Try.f37, Try.func37, by kernel_rfl, rfl⟩
theorem cf_39 : CF Try.prog 39 := ⟨Try.f39, Try.func39, by kernel_rfl, rfl⟩
theorem cf_38 : CF Try.prog 38 := ⟨Try.f38, Try.func38, by kernel_rfl, rfl⟩
theorem sz_37 : (Try.prog.info? 37).map (·.size) = some 1 := by kernel_rfl
theorem cf_19 : CF Try.prog 19 := ⟨Try.f19, Try.func19, by kernel_rfl, rfl⟩
theorem sa_46 : SA Try.prog 46 2 1 := ⟨Try.underlying46, by kernel_rfl⟩
theorem cf_21 : CF Try.prog 21 := ⟨Try.f21, Try.func21, by kernel_rfl, rfl⟩
theorem fa_64_0 : FA Try.prog 64 0 0 := ⟨_, _, 1, Try.underlying64, rfl, rfl, by kernel_rfl, by decide⟩
theorem fa_64_1 : FA Try.prog 64 1 1 := ⟨_, _, 1, Try.underlying64, rfl, rfl, by kernel_rfl, by decide⟩
theorem fa_64_3 : FA Try.prog 64 3 3 := ⟨_, _, 1, Try.underlying64, rfl, rfl, by kernel_rfl, by decide⟩
theorem fa_64_2 : FA Try.prog 64 2 2 := ⟨_, _, 1, Try.underlying64, rfl, rfl, by kernel_rfl, by decide⟩
theorem cf_23 : CF Try.prog 23 := ⟨Try.f23, Try.func23, by kernel_rfl, rfl⟩
theorem cf_24 : CF Try.prog 24 := ⟨Try.f24, Try.func24, by kernel_rfl, rfl⟩
theorem cf_25 : CF Try.prog 25 := ⟨Try.f25, Try.func25, by kernel_rfl, rfl⟩
theorem cf_41 : CF Try.prog 41 := ⟨Try.f41, Try.func41, by kernel_rfl, rfl⟩
theorem cf_27 : CF Try.prog 27 := ⟨Try.f27, Try.func27, by kernel_rfl, rfl⟩
theorem cf_28 : CF Try.prog 28 := ⟨Try.f28, Try.func28, by kernel_rfl, rfl⟩
theorem cf_26 : CF Try.prog 26 := ⟨Try.f26, Try.func26, by kernel_rfl, rfl⟩
theorem cf_29 : CF Try.prog 29 := ⟨Try.f29, Try.func29, by kernel_rfl, rfl⟩
theorem cf_30 : CF Try.prog 30 := ⟨Try.f30, Try.func30, by kernel_rfl, rfl⟩
theorem cf_31 : CF Try.prog 31 := ⟨Try.f31, Try.func31, by kernel_rfl, rfl⟩

end Go.Proofs.Ytkcmohmnmapnbaa.X
