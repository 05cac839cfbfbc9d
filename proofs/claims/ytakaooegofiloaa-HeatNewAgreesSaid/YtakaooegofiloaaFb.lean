/- What the loaded program says of its types. -/
import Derived.Test.YtakaooegofiloaaProg
import Derived.Test.YtakaooegofiloaaFa
namespace Go.Proofs.Ytakaooegofiloaa.X
open Go Go.RowKit Go.Sx

theorem fol : Try.prog.follows .mixedOrders = true := by kernel_rfl
def K_api_HeatDomain : EK HeatDomain where
  E := 34
  sz := 2
  enc x := [.int .i64 x.Capacity, .int .i64 x.Ambient]
  z := HeatDomain.zero
  len _ := rfl
  one x v h := by simp only [List.mem_cons, List.not_mem_nil, or_false] at h; rcases h with rfl | rfl <;> rfl
  pos := by decide
def K_api_HeatLink : EK HeatLink where
  E := 43
  sz := 3
  enc x := [.int .i64 x.A, .int .i64 x.B, .int .i64 x.Conductance]
  z := HeatLink.zero
  len _ := rfl
  one x v h := by simp only [List.mem_cons, List.not_mem_nil, or_false] at h; rcases h with rfl | rfl | rfl <;> rfl
  pos := by decide
def K_int64 : EK Int where
  E := 2
  sz := 1
  enc x := [.int .i64 x]
  z := 0
  len _ := rfl
  one x v h := by simp only [List.mem_cons, List.not_mem_nil, or_false] at h; rcases h with rfl <;> rfl
  pos := by decide
theorem bt_34 : BT Try.prog 34 [.int .i64 0, .int .i64 0] [(0, 1), (1, 1)] := ⟨_, .agg #[.int .i64 0, .int .i64 0], 16, Try.underlying34, by unfold TI; kernel_rfl, rfl, by kernel_rfl⟩
theorem ep_34 : EP Try.prog K_api_HeatDomain 16 := ⟨.agg #[.int .i64 0, .int .i64 0], by unfold TI; kernel_rfl, rfl⟩
theorem cf_39 : CF Try.prog 39 := ⟨Try.f39, Try.func39, by kernel_rfl, rfl⟩
theorem sa_23 : SA Try.prog 23 43 3 := ⟨Try.underlying23, by kernel_rfl⟩
theorem ag_43 : AG Try.prog 43 3 := ⟨_, Try.underlying43, rfl, by kernel_rfl⟩
theorem ti_43 : TI Try.prog 43 (.agg #[.int .i64 0, .int .i64 0, .int .i64 0]) 3 24 := by unfold TI; kernel_rfl
theorem sz_43 : (Try.prog.info? 43).map (·.size) = some 3 := by kernel_rfl
theorem fa_43_0 : FA Try.prog 43 0 0 := ⟨_, _, 1, Try.underlying43, rfl, rfl, by kernel_rfl, by decide⟩
theorem sc_3 : SC Try.prog 3 := ⟨_, Try.underlying3, rfl⟩
theorem fa_43_1 : FA Try.prog 43 1 1 := ⟨_, _, 1, Try.underlying43, rfl, rfl, by kernel_rfl, by decide⟩
theorem fa_43_2 : FA Try.prog 43 2 2 := ⟨_, _, 1, Try.underlying43, rfl, rfl, by kernel_rfl, by decide⟩
theorem sc_2 : SC Try.prog 2 := ⟨_, Try.underlying2, rfl⟩
theorem cf_46 : CF Try.prog 46 := ⟨Try.f46, Try.func46, by kernel_rfl, rfl⟩
theorem cf_45 : CF Try.prog 45 := ⟨Try.f45, Try.func45, by kernel_rfl, rfl⟩
theorem cf_48 : CF Try.prog 48 := ⟨Try.f48, Try.func48, by kernel_rfl, rfl⟩
theorem cf_44 : CF Try.prog 44 := ⟨Try.f44, Try.func44, by kernel_rfl, rfl⟩
theorem cf_40 : CF Try.prog 40 := ⟨Try.f40, Try.func40, by kernel_rfl, rfl⟩
theorem sa_22 : SA Try.prog 22 34 2 := ⟨Try.underlying22, by kernel_rfl⟩
theorem ag_34 : AG Try.prog 34 2 := ⟨_, Try.underlying34, rfl, by kernel_rfl⟩
theorem ti_34 : TI Try.prog 34 (.agg #[.int .i64 0, .int .i64 0]) 2 16 := by unfold TI; kernel_rfl
theorem sz_34 : (Try.prog.info? 34).map (·.size) = some 2 := by kernel_rfl
theorem fa_34_0 : FA Try.prog 34 0 0 := ⟨_, _, 1, Try.underlying34, rfl, rfl, by kernel_rfl, by decide⟩
theorem fa_34_1 : FA Try.prog 34 1 1 := ⟨_, _, 1, Try.underlying34, rfl, rfl, by kernel_rfl, by decide⟩
theorem cf_29 : CF Try.prog 29 := ⟨Try.f29, Try.func29, by kernel_rfl, rfl⟩
theorem cf_30 : CF Try.prog 30 := ⟨Try.f30, Try.func30, by kernel_rfl, rfl⟩
theorem ep_43 : EP Try.prog K_api_HeatLink 24 := ⟨.agg #[.int .i64 0, .int .i64 0, .int .i64 0], by unfold TI; kernel_rfl, rfl⟩
theorem cf_31 : CF Try.prog 31 := ⟨Try.f31, Try.func31, by kernel_rfl, rfl⟩
theorem bt_64 : BT Try.prog 64 [.slice none 0 0, .slice none 0 0, .int .i64 0, .slice none 0 0, .int .i64 0] [(0, 1), (1, 1), (2, 1), (3, 1), (4, 1)] := ⟨_, .agg #[.slice none 0 0, .slice none 0 0, .int .i64 0, .slice none 0 0, .int .i64 0], 88, Try.underlying64, by unfold TI; kernel_rfl, rfl, by kernel_rfl⟩
theorem fa_64_3 : FA Try.prog 64 3 3 := ⟨_, _, 1, Try.underlying64, rfl, rfl, by kernel_rfl, by decide⟩
theorem sc_35 : SC Try.prog 35 := ⟨_, Try.underlying35, rfl⟩
theorem ep_2 : EP Try.prog K_int64 8 := ⟨.int .i64 0, by unfold TI; kernel_rfl, rfl⟩
theorem sz_35 : (Try.prog.info? 35).map (·.size) = some 1 := by kernel_rfl
theorem cf_13 : CF Try.prog 13 := ⟨Try.f13, Try.func13, by kernel_rfl, rfl⟩
theorem fa_64_0 : FA Try.prog 64 0 0 := ⟨_, _, 1, Try.underlying64, rfl, rfl, by kernel_rfl, by decide⟩
theorem sc_22 : SC Try.prog 22 := ⟨_, Try.underlying22, rfl⟩
theorem sa_35 : SA Try.prog 35 2 1 := ⟨Try.underlying35, by kernel_rfl⟩
theorem cf_17 : CF Try.prog 17 := ⟨Try.f17, Try.func17, by kernel_rfl, rfl⟩
theorem cf_42 : CF Try.prog 42 := ⟨Try.f42, Try.func42, by kernel_rfl, rfl⟩
theorem cf_47 : CF Try.prog 47 := ⟨Try.f47, Try.func47, by kernel_rfl, rfl⟩
theorem cf_41 : CF Try.prog 41 := ⟨Try.f41, Try.func41, by kernel_rfl, rfl⟩
theorem cf_32 : CF Try.prog 32 := ⟨Try.f32, Try.func32, by kernel_rfl, rfl⟩
theorem cf_43 : CF Try.prog 43 := ⟨Try.f43, Try.func43, by kernel_rfl, rfl⟩
theorem cf_33 : CF Try.prog 33 := ⟨Try.f33, Try.func33, by kernel_rfl, rfl⟩
theorem fa_64_2 : FA Try.prog 64 2 2 := ⟨_, _, 1, Try.underlying64, rfl, rfl, by kernel_rfl, by decide⟩
theorem sz_2 : (Try.prog.info? 2).map (·.size) = some 1 := by kernel_rfl
theorem fa_64_4 : FA Try.prog 64 4 4 := ⟨_, _, 1, Try.underlying64, rfl, rfl, by kernel_rfl, by decide⟩
theorem fa_64_1 : FA Try.prog 64 1 1 := ⟨_, _, 1, Try.underlying64, rfl, rfl, by kernel_rfl, by decide⟩
theorem sc_23 : SC Try.prog 23 := ⟨_, Try.underlying23, rfl⟩
theorem cf_15 : CF Try.prog 15 := ⟨Try.f15, Try.func15, by kernel_rfl, rfl⟩
theorem cf_16 : CF Try.prog 16 := ⟨Try.f16, Try.func16, by kernel_rfl, rfl⟩
theorem cf_11 : CF Try.prog 11 := ⟨Try.f11, Try.func11, by kernel_rfl, rfl⟩
theorem ti_27 : TI Try.prog 27 (.agg #[(.slice none 0 0), (.slice none 0 0), .int .i64 0]) 3 56 := by unfold TI; kernel_rfl
theorem bt_27 : BT Try.prog 27 [.slice none 0 0, .slice none 0 0, .int .i64 0] [(0, 1), (1, 1), (2, 1)] := ⟨_, .agg #[.slice none 0 0, .slice none 0 0, .int .i64 0], 56, Try.underlying27, by unfold TI; kernel_rfl, rfl, by kernel_rfl⟩
theorem sz_27 : (Try.prog.info? 27).map (·.size) = some 3 := by kernel_rfl
theorem fa_27_0 : FA Try.prog 27 0 0 := ⟨_, _, 1, Try.underlying27, rfl, rfl, by kernel_rfl, by decide⟩
theorem cf_26 : CF Try.prog 26 := ⟨Try.f26, Try.func26, by kernel_rfl, rfl⟩
theorem bt_43 : BT Try.prog 43 [.int .i64 0, .int .i64 0, .int .i64 0] [(0, 1), (1, 1), (2, 1)] := ⟨_, .agg #[.int .i64 0, .int .i64 0, .int .i64 0], 24, Try.underlying43, by unfold TI; kernel_rfl, rfl, by kernel_rfl⟩
theorem fa_27_1 : FA Try.prog 27 1 1 := ⟨_, _, 1, Try.underlying27, rfl, rfl, by kernel_rfl, by decide⟩
theorem sz_23 : (Try.prog.info? 23).map (·.size) = some 1 := by kernel_rfl
theorem ag_27 : AG Try.prog 27 3 := ⟨_, Try.underlying27, rfl, by kernel_rfl⟩
theorem cf_12 : CF Try.prog 12 := ⟨Try.f12, Try.func12, by kernel_rfl, rfl⟩
theorem fa_27_2 : FA Try.prog 27 2 2 := ⟨_, _, 1, Try.underlying27, rfl, rfl, by kernel_rfl, by decide⟩
theorem sa_24 : SA Try.prog 24 35 1 := ⟨Try.underlying24, by kernel_rfl⟩
theorem cf_14 : CF Try.prog 14 := ⟨Try.f14, Try.func14, by kernel_rfl, rfl⟩
theorem ag_64 : AG Try.prog 64 5 := ⟨_, Try.underlying64, rfl, by kernel_rfl⟩
theorem ti_64 : TI Try.prog 64 (.agg #[(.slice none 0 0), (.slice none 0 0), .int .i64 0, (.slice none 0 0), .int .i64 0]) 5 88 := by unfold TI; kernel_rfl
theorem sz_64 : (Try.prog.info? 64).map (·.size) = some 5 := by kernel_rfl
theorem cf_34 : CF Try.prog 34 := ⟨Try.f34, Try.func34, by kernel_rfl, rfl⟩
theorem cf_18 : CF Try.prog 18 := ⟨Try.f18, Try.func18, by kernel_rfl, rfl⟩
theorem cf_19 : CF Try.prog 19 := ⟨Try.f19, Try.func19, by kernel_rfl, rfl⟩
theorem cf_35 : CF Try.prog 35 := ⟨Try.f35, Try.func35, by kernel_rfl, rfl⟩
theorem bt_69 : BT Try.prog 69 [.slice none 0 0, .slice none 0 0, .int .i64 0, .slice none 0 0, .int .i64 0] [(0, 1), (1, 1), (2, 1), (3, 1), (4, 1)] := ⟨_, .agg #[.slice none 0 0, .slice none 0 0, .int .i64 0, .slice none 0 0, .int .i64 0], 88, Try.underlying69, by unfold TI; kernel_rfl, rfl, by kernel_rfl⟩
theorem fa_69_3 : FA Try.prog 69 3 3 := ⟨_, _, 1, Try.underlying69, rfl, rfl, by kernel_rfl, by decide⟩
theorem cf_20 : CF Try.prog 20 := ⟨Try.f20, Try.func20, by kernel_rfl, rfl⟩
theorem fa_69_0 : FA Try.prog 69 0 0 := ⟨_, _, 1, Try.underlying69, rfl, rfl, by kernel_rfl, by decide⟩
theorem cf_36 : CF Try.prog 36 := ⟨Try.f36, Try.func36, by kernel_rfl, rfl⟩
theorem cf_38 : CF Try.prog 38 := ⟨Try.f38, Try.func38, by kernel_rfl, rfl⟩
theorem cf_25 : CF Try.prog 25 := ⟨Try.f25, Try.func25, by kernel_rfl, rfl⟩
theorem cf_37 : CF Try.prog 37 := ⟨Try.f37, Try.func37, by kernel_rfl, rfl⟩
theorem fa_69_2 : FA Try.prog 69 2 2 := ⟨_, _, 1, Try.underlying69, rfl, rfl, by kernel_rfl, by decide⟩
theorem fa_69_4 : FA Try.prog 69 4 4 := ⟨_, _, 1, Try.underlying69, rfl, rfl, by kernel_rfl, by decide⟩
theorem fa_69_1 : FA Try.prog 69 1 1 := ⟨_, _, 1, Try.underlying69, rfl, rfl, by kernel_rfl, by decide⟩
theorem cf_21 : CF Try.prog 21 := ⟨Try.f21, Try.func21, by kernel_rfl, rfl⟩
theorem cf_22 : CF Try.prog 22 := ⟨Try.f22, Try.func22, by kernel_rfl, rfl⟩
theorem cf_23 : CF Try.prog 23 := ⟨Try.f23, Try.func23, by kernel_rfl, rfl⟩
theorem cf_24 : CF Try.prog 24 := ⟨Try.f24, Try.func24, by kernel_rfl, rfl⟩
theorem ba_53 : BA Try.prog 53 27 3 3 [.slice none 0 0, .slice none 0 0, .int .i64 0, .slice none 0 0, .slice none 0 0, .int .i64 0, .slice none 0 0, .slice none 0 0, .int .i64 0] := ⟨.agg #[.slice none 0 0, .slice none 0 0, .int .i64 0, .slice none 0 0, .slice none 0 0, .int .i64 0, .slice none 0 0, .slice none 0 0, .int .i64 0], 168, Try.underlying53, by unfold TI; kernel_rfl, rfl, by kernel_rfl⟩
theorem ia_53 : IA Try.prog 53 27 3 3 := ⟨Try.underlying53, by kernel_rfl⟩
theorem cf_27 : CF Try.prog 27 := ⟨Try.f27, Try.func27, by kernel_rfl, rfl⟩
theorem cf_28 : CF Try.prog 28 := ⟨Try.f28, Try.func28, by kernel_rfl, rfl⟩

end Go.Proofs.Ytakaooegofiloaa.X
