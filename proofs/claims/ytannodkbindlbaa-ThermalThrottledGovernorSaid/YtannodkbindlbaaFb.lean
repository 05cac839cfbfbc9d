/- What the loaded program says of its types. -/
import Derived.Test.YtannodkbindlbaaProg
import Derived.Test.YtannodkbindlbaaFa
namespace Go.Proofs.Ytannodkbindlbaa.X
open Go Go.RowKit Go.Sx

theorem fol : Try.prog.follows .mixedOrders = true := by kernel_rfl
def K_api_OperatingPoint : EK OperatingPoint where
  E := 30
  sz := 3
  enc x := [.int .u64 x.Frequency, .int .u64 x.Voltage, .int .u64 x.Power]
  z := OperatingPoint.zero
  len _ := rfl
  one x v h := by simp only [List.mem_cons, List.not_mem_nil, or_false] at h; rcases h with rfl | rfl | rfl <;> rfl
  pos := by decide
def K_api_Actor : EK Actor where
  E := 69
  sz := 3
  enc x := [.int .u64 x.Request, .int .u64 x.Min, .int .u64 x.Max]
  z := Actor.zero
  len _ := rfl
  one x v h := by simp only [List.mem_cons, List.not_mem_nil, or_false] at h; rcases h with rfl | rfl | rfl <;> rfl
  pos := by decide
def K_uint64 : EK Int where
  E := 23
  sz := 1
  enc x := [.int .u64 x]
  z := 0
  len _ := rfl
  one x v h := by simp only [List.mem_cons, List.not_mem_nil, or_false] at h; rcases h with rfl <;> rfl
  pos := by decide
def K_api_Trip : EK Trip where
  E := 55
  sz := 3
  enc x := [.int .i64 x.Kind, .int .i64 x.Temperature, .int .i64 x.Hysteresis]
  z := Trip.zero
  len _ := rfl
  one x v h := by simp only [List.mem_cons, List.not_mem_nil, or_false] at h; rcases h with rfl | rfl | rfl <;> rfl
  pos := by decide
def K_bool : EK Bool where
  E := 4
  sz := 1
  enc x := [.bool x]
  z := false
  len _ := rfl
  one x v h := by simp only [List.mem_cons, List.not_mem_nil, or_false] at h; rcases h with rfl <;> rfl
  pos := by decide
def K_int64 : EK Int where
  E := 2
  sz := 1
  enc x := [.int .i64 x]
  z := 0
  len _ := rfl
  one x v h := by simp only [List.mem_cons, List.not_mem_nil, or_false] at h; rcases h with rfl <;> rfl
  pos := by decide
def K_api_HeatDomain : EK HeatDomain where
  E := 33
  sz := 2
  enc x := [.int .i64 x.Capacity, .int .i64 x.Ambient]
  z := HeatDomain.zero
  len _ := rfl
  one x v h := by simp only [List.mem_cons, List.not_mem_nil, or_false] at h; rcases h with rfl | rfl <;> rfl
  pos := by decide
def K_api_HeatLink : EK HeatLink where
  E := 84
  sz := 3
  enc x := [.int .i64 x.A, .int .i64 x.B, .int .i64 x.Conductance]
  z := HeatLink.zero
  len _ := rfl
  one x v h := by simp only [List.mem_cons, List.not_mem_nil, or_false] at h; rcases h with rfl | rfl | rfl <;> rfl
  pos := by decide
def K_int : EK Int where
  E := 3
  sz := 1
  enc x := [.int .i64 x]
  z := 0
  len _ := rfl
  one x v h := by simp only [List.mem_cons, List.not_mem_nil, or_false] at h; rcases h with rfl <;> rfl
  pos := by decide
theorem bt_69 : BT Try.prog 69 [.int .u64 0, .int .u64 0, .int .u64 0] [(0, 1), (1, 1), (2, 1)] := ⟨_, .agg #[.int .u64 0, .int .u64 0, .int .u64 0], 24, Try.underlying69, by unfold TI; kernel_rfl, rfl, by kernel_rfl⟩
theorem ep_69 : EP Try.prog K_api_Actor 24 := ⟨.agg #[.int .u64 0, .int .u64 0, .int .u64 0], by unfold TI; kernel_rfl, rfl⟩
theorem sa_60 : SA Try.prog 60 69 3 := ⟨Try.underlying60, by kernel_rfl⟩
theorem ag_69 : AG Try.prog 69 3 := ⟨_, Try.underlying69, rfl, by kernel_rfl⟩
theorem fa_69_1 : FA Try.prog 69 1 1 := ⟨_, _, 1, Try.underlying69, rfl, rfl, by kernel_rfl, by decide⟩
theorem sc_23 : SC Try.prog 23 := ⟨_, Try.underlying23, rfl⟩
theorem fa_69_2 : FA Try.prog 69 2 2 := ⟨_, _, 1, Try.underlying69, rfl, rfl, by kernel_rfl, by decide⟩
theorem cf_50 : CF Try.prog 50 := ⟨Try.f50, Try.func50, by kernel_rfl, rfl⟩
theorem cf_55 : CF Try.prog 55 := ⟨Try.f55, Try.func55, by kernel_rfl, rfl⟩
theorem cf_49 : CF Try.prog 49 := ⟨Try.f49, Try.func49, by kernel_rfl, rfl⟩
theorem cf_37 : CF Try.prog 37 := ⟨Try.f37, Try.func37, by kernel_rfl, rfl⟩
theorem ti_69 : TI Try.prog 69 (.agg #[.int .u64 0, .int .u64 0, .int .u64 0]) 3 24 := by unfold TI; kernel_rfl
theorem sz_69 : (Try.prog.info? 69).map (·.size) = some 3 := by kernel_rfl
theorem fa_69_0 : FA Try.prog 69 0 0 := ⟨_, _, 1, Try.underlying69, rfl, rfl, by kernel_rfl, by decide⟩
theorem cf_40 : CF Try.prog 40 := ⟨Try.f40, Try.func40, by kernel_rfl, rfl⟩
theorem cf_39 : CF Try.prog 39 := ⟨Try.f39, Try.func39, by kernel_rfl, rfl⟩
theorem cf_38 : CF Try.prog 38 := ⟨Try.f38, Try.func38, by kernel_rfl, rfl⟩
theorem ep_23 : EP Try.prog K_uint64 8 := ⟨.int .u64 0, by unfold TI; kernel_rfl, rfl⟩
theorem cf_22 : CF Try.prog 22 := ⟨Try.f22, Try.func22, by kernel_rfl, rfl⟩
theorem bt_55 : BT Try.prog 55 [.int .i64 0, .int .i64 0, .int .i64 0] [(0, 1), (1, 1), (2, 1)] := ⟨_, .agg #[.int .i64 0, .int .i64 0, .int .i64 0], 24, Try.underlying55, by unfold TI; kernel_rfl, rfl, by kernel_rfl⟩
theorem ep_55 : EP Try.prog K_api_Trip 24 := ⟨.agg #[.int .i64 0, .int .i64 0, .int .i64 0], by unfold TI; kernel_rfl, rfl⟩
theorem sa_56 : SA Try.prog 56 55 3 := ⟨Try.underlying56, by kernel_rfl⟩
theorem ag_55 : AG Try.prog 55 3 := ⟨_, Try.underlying55, rfl, by kernel_rfl⟩
theorem ti_55 : TI Try.prog 55 (.agg #[.int .i64 0, .int .i64 0, .int .i64 0]) 3 24 := by unfold TI; kernel_rfl
theorem sz_55 : (Try.prog.info? 55).map (·.size) = some 3 := by kernel_rfl
theorem fa_55_0 : FA Try.prog 55 0 0 := ⟨_, _, 1, Try.underlying55, rfl, rfl, by kernel_rfl, by decide⟩
theorem sc_3 : SC Try.prog 3 := ⟨_, Try.underlying3, rfl⟩
theorem fa_55_1 : FA Try.prog 55 1 1 := ⟨_, _, 1, Try.underlying55, rfl, rfl, by kernel_rfl, by decide⟩
theorem sc_2 : SC Try.prog 2 := ⟨_, Try.underlying2, rfl⟩
theorem fa_55_2 : FA Try.prog 55 2 2 := ⟨_, _, 1, Try.underlying55, rfl, rfl, by kernel_rfl, by decide⟩
theorem cf_27 : CF Try.prog 27 := ⟨Try.f27, Try.func27, by kernel_rfl, rfl⟩
theorem cf_35 : CF Try.prog 35 := ⟨Try.f35, Try.func35, by kernel_rfl, rfl⟩
theorem ep_4 : EP Try.prog K_bool 1 := ⟨.bool false, by unfold TI; kernel_rfl, rfl⟩
theorem bt_95 : BT Try.prog 95 [.slice none 0 0, .slice none 0 0, .int .i64 0, .int .i64 0] [(0, 1), (1, 1), (2, 1), (3, 1)] := ⟨_, .agg #[.slice none 0 0, .slice none 0 0, .int .i64 0, .int .i64 0], 64, Try.underlying95, by unfold TI; kernel_rfl, rfl, by kernel_rfl⟩
theorem cf_19 : CF Try.prog 19 := ⟨Try.f19, Try.func19, by kernel_rfl, rfl⟩
theorem sa_62 : SA Try.prog 62 23 1 := ⟨Try.underlying62, by kernel_rfl⟩
theorem cf_26 : CF Try.prog 26 := ⟨Try.f26, Try.func26, by kernel_rfl, rfl⟩
theorem fa_95_0 : FA Try.prog 95 0 0 := ⟨_, _, 1, Try.underlying95, rfl, rfl, by kernel_rfl, by decide⟩
theorem sc_56 : SC Try.prog 56 := ⟨_, Try.underlying56, rfl⟩
theorem fa_95_1 : FA Try.prog 95 1 1 := ⟨_, _, 1, Try.underlying95, rfl, rfl, by kernel_rfl, by decide⟩
theorem sc_93 : SC Try.prog 93 := ⟨_, Try.underlying93, rfl⟩
theorem sa_93 : SA Try.prog 93 4 1 := ⟨Try.underlying93, by kernel_rfl⟩
theorem sz_4 : (Try.prog.info? 4).map (·.size) = some 1 := by kernel_rfl
theorem sc_4 : SC Try.prog 4 := ⟨_, Try.underlying4, rfl⟩
theorem cf_36 : CF Try.prog 36 := ⟨Try.f36, Try.func36, by kernel_rfl, rfl⟩
theorem fa_95_3 : FA Try.prog 95 3 3 := ⟨_, _, 1, Try.underlying95, rfl, rfl, by kernel_rfl, by decide⟩
theorem fa_95_2 : FA Try.prog 95 2 2 := ⟨_, _, 1, Try.underlying95, rfl, rfl, by kernel_rfl, by decide⟩
theorem sz_3 : (Try.prog.info? 3).map (·.size) = some 1 := by kernel_rfl
theorem cf_20 : CF Try.prog 20 := ⟨Try.f20, Try.func20, by kernel_rfl, rfl⟩
theorem cf_9 : CF Try.prog 9 := ⟨Try.f9, Try.func9, by kernel_rfl, rfl⟩
theorem bt_30 : BT Try.prog 30 [.int .u64 0, .int .u64 0, .int .u64 0] [(0, 1), (1, 1), (2, 1)] := ⟨_, .agg #[.int .u64 0, .int .u64 0, .int .u64 0], 24, Try.underlying30, by unfold TI; kernel_rfl, rfl, by kernel_rfl⟩
theorem ep_30 : EP Try.prog K_api_OperatingPoint 24 := ⟨.agg #[.int .u64 0, .int .u64 0, .int .u64 0], by unfold TI; kernel_rfl, rfl⟩
theorem sa_22 : SA Try.prog 22 30 3 := ⟨Try.underlying22, by kernel_rfl⟩
theorem fa_30_0 : FA Try.prog 30 0 0 := ⟨_, _, 1, Try.underlying30, rfl, rfl, by kernel_rfl, by decide⟩
theorem fa_30_1 : FA Try.prog 30 1 1 := ⟨_, _, 1, Try.underlying30, rfl, rfl, by kernel_rfl, by decide⟩
theorem fa_30_2 : FA Try.prog 30 2 2 := ⟨_, _, 1, Try.underlying30, rfl, rfl, by kernel_rfl, by decide⟩
theorem sz_30 : (Try.prog.info? 30).map (·.size) = some 3 := by kernel_rfl
theorem ag_30 : AG Try.prog 30 3 := ⟨_, Try.underlying30, rfl, by kernel_rfl⟩
theorem ti_30 : TI Try.prog 30 (.agg #[.int .u64 0, .int .u64 0, .int .u64 0]) 3 24 := by unfold TI; kernel_rfl
theorem sz_23 : (Try.prog.info? 23).map (·.size) = some 1 := by kernel_rfl
theorem cf_10 : CF Try.prog 10 := ⟨Try.f10, Try.func10, by kernel_rfl, rfl⟩
theorem cf_28 : CF Try.prog 28 := ⟨Try.f28, Try.func28, by kernel_rfl, rfl⟩
theorem cf_11 : CF Try.prog 11 := ⟨Try.f11, Try.func11, by kernel_rfl, rfl⟩
theorem cf_29 : CF Try.prog 29 := ⟨Try.f29, Try.func29, by kernel_rfl, rfl⟩
theorem cf_12 : CF Try.prog 12 := ⟨Try.f12, Try.func12, by kernel_rfl, rfl⟩
theorem ag_33 : AG Try.prog 33 2 := ⟨_, Try.underlying33, rfl, by kernel_rfl⟩
theorem ep_33 : EP Try.prog K_api_HeatDomain 16 := ⟨.agg #[.int .i64 0, .int .i64 0], by unfold TI; kernel_rfl, rfl⟩
theorem ti_38 : TI Try.prog 38 (.agg #[(.slice none 0 0), (.slice none 0 0), .int .i64 0]) 3 56 := by unfold TI; kernel_rfl
theorem bt_38 : BT Try.prog 38 [.slice none 0 0, .slice none 0 0, .int .i64 0] [(0, 1), (1, 1), (2, 1)] := ⟨_, .agg #[.slice none 0 0, .slice none 0 0, .int .i64 0], 56, Try.underlying38, by unfold TI; kernel_rfl, rfl, by kernel_rfl⟩
theorem sz_38 : (Try.prog.info? 38).map (·.size) = some 3 := by kernel_rfl
theorem fa_38_0 : FA Try.prog 38 0 0 := ⟨_, _, 1, Try.underlying38, rfl, rfl, by kernel_rfl, by decide⟩
theorem sc_35 : SC Try.prog 35 := ⟨_, Try.underlying35, rfl⟩
theorem bt_33 : BT Try.prog 33 [.int .i64 0, .int .i64 0] [(0, 1), (1, 1)] := ⟨_, .agg #[.int .i64 0, .int .i64 0], 16, Try.underlying33, by unfold TI; kernel_rfl, rfl, by kernel_rfl⟩
theorem sa_35 : SA Try.prog 35 33 2 := ⟨Try.underlying35, by kernel_rfl⟩
theorem sz_33 : (Try.prog.info? 33).map (·.size) = some 2 := by kernel_rfl
theorem fa_33_1 : FA Try.prog 33 1 1 := ⟨_, _, 1, Try.underlying33, rfl, rfl, by kernel_rfl, by decide⟩
theorem sz_2 : (Try.prog.info? 2).map (·.size) = some 1 := by kernel_rfl
theorem fa_33_0 : FA Try.prog 33 0 0 := ⟨_, _, 1, Try.underlying33, rfl, rfl, by kernel_rfl, by decide⟩
theorem sa_36 : SA Try.prog 36 84 3 := ⟨Try.underlying36, by kernel_rfl⟩
theorem fa_84_0 : FA Try.prog 84 0 0 := ⟨_, _, 1, Try.underlying84, rfl, rfl, by kernel_rfl, by decide⟩
theorem cf_18 : CF Try.prog 18 := ⟨Try.f18, Try.func18, by kernel_rfl, rfl⟩
theorem fa_84_1 : FA Try.prog 84 1 1 := ⟨_, _, 1, Try.underlying84, rfl, rfl, by kernel_rfl, by decide⟩
theorem fa_84_2 : FA Try.prog 84 2 2 := ⟨_, _, 1, Try.underlying84, rfl, rfl, by kernel_rfl, by decide⟩
theorem bt_84 : BT Try.prog 84 [.int .i64 0, .int .i64 0, .int .i64 0] [(0, 1), (1, 1), (2, 1)] := ⟨_, .agg #[.int .i64 0, .int .i64 0, .int .i64 0], 24, Try.underlying84, by unfold TI; kernel_rfl, rfl, by kernel_rfl⟩
theorem ti_84 : TI Try.prog 84 (.agg #[.int .i64 0, .int .i64 0, .int .i64 0]) 3 24 := by unfold TI; kernel_rfl
theorem sz_84 : (Try.prog.info? 84).map (·.size) = some 3 := by kernel_rfl
theorem fa_38_1 : FA Try.prog 38 1 1 := ⟨_, _, 1, Try.underlying38, rfl, rfl, by kernel_rfl, by decide⟩
theorem sc_36 : SC Try.prog 36 := ⟨_, Try.underlying36, rfl⟩
theorem ag_84 : AG Try.prog 84 3 := ⟨_, Try.underlying84, rfl, by kernel_rfl⟩
theorem ep_84 : EP Try.prog K_api_HeatLink 24 := ⟨.agg #[.int .i64 0, .int .i64 0, .int .i64 0], by unfold TI; kernel_rfl, rfl⟩
theorem sz_36 : (Try.prog.info? 36).map (·.size) = some 1 := by kernel_rfl
theorem ag_38 : AG Try.prog 38 3 := ⟨_, Try.underlying38, rfl, by kernel_rfl⟩
theorem cf_13 : CF Try.prog 13 := ⟨Try.f13, Try.func13, by kernel_rfl, rfl⟩
theorem fa_38_2 : FA Try.prog 38 2 2 := ⟨_, _, 1, Try.underlying38, rfl, rfl, by kernel_rfl, by decide⟩
theorem cf_44 : CF Try.prog 44 := ⟨Try.f44, Try.func44, by kernel_rfl, rfl⟩
theorem cf_53 : CF Try.prog 53 := ⟨Try.f53, Try.func53, by kernel_rfl, rfl⟩
theorem cf_52 : CF Try.prog 52 := ⟨Try.f52, Try.func52, by kernel_rfl, rfl⟩
theorem cf_56 : CF Try.prog 56 := ⟨Try.f56, Try.func56, by kernel_rfl, rfl⟩
theorem cf_51 : CF Try.prog 51 := ⟨Try.f51, Try.func51, by kernel_rfl, rfl⟩
theorem cf_45 : CF Try.prog 45 := ⟨Try.f45, Try.func45, by kernel_rfl, rfl⟩
theorem ti_33 : TI Try.prog 33 (.agg #[.int .i64 0, .int .i64 0]) 2 16 := by unfold TI; kernel_rfl
theorem cf_30 : CF Try.prog 30 := ⟨Try.f30, Try.func30, by kernel_rfl, rfl⟩
theorem cf_31 : CF Try.prog 31 := ⟨Try.f31, Try.func31, by kernel_rfl, rfl⟩
theorem cf_32 : CF Try.prog 32 := ⟨Try.f32, Try.func32, by kernel_rfl, rfl⟩
theorem bt_89 : BT Try.prog 89 [.slice none 0 0, .slice none 0 0, .int .i64 0, .slice none 0 0, .int .i64 0] [(0, 1), (1, 1), (2, 1), (3, 1), (4, 1)] := ⟨_, .agg #[.slice none 0 0, .slice none 0 0, .int .i64 0, .slice none 0 0, .int .i64 0], 88, Try.underlying89, by unfold TI; kernel_rfl, rfl, by kernel_rfl⟩
theorem fa_89_3 : FA Try.prog 89 3 3 := ⟨_, _, 1, Try.underlying89, rfl, rfl, by kernel_rfl, by decide⟩
theorem sc_34 : SC Try.prog 34 := ⟨_, Try.underlying34, rfl⟩
theorem ep_2 : EP Try.prog K_int64 8 := ⟨.int .i64 0, by unfold TI; kernel_rfl, rfl⟩
theorem sz_34 : (Try.prog.info? 34).map (·.size) = some 1 := by kernel_rfl
theorem cf_15 : CF Try.prog 15 := ⟨Try.f15, Try.func15, by kernel_rfl, rfl⟩
theorem cf_14 : CF Try.prog 14 := ⟨Try.f14, Try.func14, by kernel_rfl, rfl⟩
theorem sa_34 : SA Try.prog 34 2 1 := ⟨Try.underlying34, by kernel_rfl⟩
theorem cf_16 : CF Try.prog 16 := ⟨Try.f16, Try.func16, by kernel_rfl, rfl⟩
theorem fa_89_0 : FA Try.prog 89 0 0 := ⟨_, _, 1, Try.underlying89, rfl, rfl, by kernel_rfl, by decide⟩
theorem cf_47 : CF Try.prog 47 := ⟨Try.f47, Try.func47, by kernel_rfl, rfl⟩
theorem cf_54 : CF Try.prog 54 := ⟨Try.f54, Try.func54, by kernel_rfl, rfl⟩
theorem cf_46 : CF Try.prog 46 := ⟨Try.f46, Try.func46, by kernel_rfl, rfl⟩
theorem cf_33 : CF Try.prog 33 := ⟨Try.f33, Try.func33, by kernel_rfl, rfl⟩
theorem cf_48 : CF Try.prog 48 := ⟨Try.f48, Try.func48, by kernel_rfl, rfl⟩
theorem cf_34 : CF Try.prog 34 := ⟨Try.f34, Try.func34, by kernel_rfl, rfl⟩
theorem fa_89_2 : FA Try.prog 89 2 2 := ⟨_, _, 1, Try.underlying89, rfl, rfl, by kernel_rfl, by decide⟩
theorem fa_89_4 : FA Try.prog 89 4 4 := ⟨_, _, 1, Try.underlying89, rfl, rfl, by kernel_rfl, by decide⟩
theorem fa_89_1 : FA Try.prog 89 1 1 := ⟨_, _, 1, Try.underlying89, rfl, rfl, by kernel_rfl, by decide⟩
theorem cf_17 : CF Try.prog 17 := ⟨Try.f17, Try.func17, by kernel_rfl, rfl⟩
theorem cf_21 : CF Try.prog 21 := ⟨Try.f21, Try.func21, by kernel_rfl, rfl⟩
theorem sa_67 : SA Try.prog 67 62 1 := ⟨Try.underlying67, by kernel_rfl⟩
theorem sc_62 : SC Try.prog 62 := ⟨_, Try.underlying62, rfl⟩
theorem bt_76 : BT Try.prog 76 [.int .i64 0, .int .i64 0, .int .i64 0] [(0, 1), (1, 1), (2, 1)] := ⟨_, .agg #[.int .i64 0, .int .i64 0, .int .i64 0], 24, Try.underlying76, by unfold TI; kernel_rfl, rfl, by kernel_rfl⟩
theorem fa_76_0 : FA Try.prog 76 0 0 := ⟨_, _, 1, Try.underlying76, rfl, rfl, by kernel_rfl, by decide⟩
theorem fa_76_1 : FA Try.prog 76 1 1 := ⟨_, _, 1, Try.underlying76, rfl, rfl, by kernel_rfl, by decide⟩
theorem fa_76_2 : FA Try.prog 76 2 2 := ⟨_, _, 1, Try.underlying76, rfl, rfl, by kernel_rfl, by decide⟩
theorem cf_41 : CF Try.prog 41 := ⟨Try.f41, Try.func41, by kernel_rfl, rfl⟩
theorem ag_76 : AG Try.prog 76 3 := ⟨_, Try.underlying76, rfl, by kernel_rfl⟩
theorem bt_102 : BT Try.prog 102 [.slice none 0 0, .int .i64 0, .int .i64 0, .int .i64 0, .int .i64 0, .int .i64 0, .int .i64 0, .int .i64 0] [(0, 1), (1, 3), (4, 1), (5, 1), (6, 1), (7, 1)] := ⟨_, .agg #[.slice none 0 0, .int .i64 0, .int .i64 0, .int .i64 0, .int .i64 0, .int .i64 0, .int .i64 0, .int .i64 0], 80, Try.underlying102, by unfold TI; kernel_rfl, rfl, by kernel_rfl⟩
theorem cf_23 : CF Try.prog 23 := ⟨Try.f23, Try.func23, by kernel_rfl, rfl⟩
theorem fa_102_0 : FA Try.prog 102 0 0 := ⟨_, _, 1, Try.underlying102, rfl, rfl, by kernel_rfl, by decide⟩
theorem sc_22 : SC Try.prog 22 := ⟨_, Try.underlying22, rfl⟩
theorem cf_42 : CF Try.prog 42 := ⟨Try.f42, Try.func42, by kernel_rfl, rfl⟩
theorem fa_102_2 : FA Try.prog 102 2 4 := ⟨_, _, 1, Try.underlying102, rfl, rfl, by kernel_rfl, by decide⟩
theorem fa_102_3 : FA Try.prog 102 3 5 := ⟨_, _, 1, Try.underlying102, rfl, rfl, by kernel_rfl, by decide⟩
theorem fa_102_5 : FA Try.prog 102 5 7 := ⟨_, _, 1, Try.underlying102, rfl, rfl, by kernel_rfl, by decide⟩
theorem fa_102_4 : FA Try.prog 102 4 6 := ⟨_, _, 1, Try.underlying102, rfl, rfl, by kernel_rfl, by decide⟩
theorem cf_24 : CF Try.prog 24 := ⟨Try.f24, Try.func24, by kernel_rfl, rfl⟩
theorem sa_71 : SA Try.prog 71 3 1 := ⟨Try.underlying71, by kernel_rfl⟩
theorem fa_102_1 : FA Try.prog 102 1 1 := ⟨_, _, 3, Try.underlying102, rfl, rfl, by kernel_rfl, by decide⟩
theorem cf_43 : CF Try.prog 43 := ⟨Try.f43, Try.func43, by kernel_rfl, rfl⟩
theorem cf_25 : CF Try.prog 25 := ⟨Try.f25, Try.func25, by kernel_rfl, rfl⟩

end Go.Proofs.Ytannodkbindlbaa.X
