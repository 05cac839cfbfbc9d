/- What the loaded program says of its types. -/
import Derived.Test.YtigadacjaglfeaaProg
import Derived.Test.YtigadacjaglfeaaFa
namespace Go.Proofs.Ytigadacjaglfeaa.X
open Go Go.RowKit Go.Sx
theorem fol : Try.prog.follows .mixedOrders = true := by kernel_rfl
def Fm : NF (Nat × Nat) mapping where
  T := 80
  blk g := g.1
  cells g x := [.int .u64 x.r.Base, .int .u64 x.r.Len, .int .i64 x.owner, .map (some g.2)]
  more g x := [mp g.2 .u64 .u8 x.data]
def Ff : NF Nat fault where
  T := 90
  blk g := g
  cells g x := [.int .i64 x.space, .int .u64 x.r.Base, .int .u64 x.r.Len, .int .i64 x.n]
  more g x := []
def Km : EK (Option Nat) := PK 76
def Kf : EK (Option Nat) := PK 88
def Kt : EK Traced where
  E := 63
  sz := 8
  enc x := [.int .i64 x.Access.Space, .int .u64 x.Access.Addr, .int .i64 x.Access.Width, .bool x.Access.Write, .int .u64 x.Access.Value, .int .i64 x.Owner, .bool x.Live, .bool x.Failed]
  z := Traced.zero
  len _ := rfl
  one x v h := by simp only [List.mem_cons, List.not_mem_nil, or_false] at h; rcases h with rfl | rfl | rfl | rfl | rfl | rfl | rfl | rfl <;> rfl
  pos := by decide
def K_uint8 : EK Int where
  E := 5
  sz := 1
  enc x := [.int .u8 x]
  z := 0
  len _ := rfl
  one x v h := by simp only [List.mem_cons, List.not_mem_nil, or_false] at h; rcases h with rfl <;> rfl
  pos := by decide
def K_int : EK Int where
  E := 3
  sz := 1
  enc x := [.int .i64 x]
  z := 0
  len _ := rfl
  one x v h := by simp only [List.mem_cons, List.not_mem_nil, or_false] at h; rcases h with rfl <;> rfl
  pos := by decide
def K_platformfwlaw09_Op : EK Op where
  E := 43
  sz := 9
  enc x := [.int .i64 x.Kind, .int .i64 x.Space, .int .u64 x.Addr, .int .u64 x.Len, .int .i64 x.Width, .int .i64 x.Owner, .bool x.Write, .int .u64 x.Value, .bool x.Raw]
  z := Op.zero
  len _ := rfl
  one x v h := by simp only [List.mem_cons, List.not_mem_nil, or_false] at h; rcases h with rfl | rfl | rfl | rfl | rfl | rfl | rfl | rfl | rfl <;> rfl
  pos := by decide
def KR : EK (SlV × ref09_mapping) where
  E := 100
  sz := 5
  enc x := [.int .i64 x.2.space, .int .u64 x.2.m.Base, .int .u64 x.2.m.Len, .int .i64 x.2.owner, x.1.v]
  z := (SlV.zero, ref09_mapping.zero)
  len _ := rfl
  one x v h := by simp only [List.mem_cons, List.not_mem_nil, or_false] at h; rcases h with rfl | rfl | rfl | rfl | rfl <;> rfl
  pos := by decide
def KF : EK ref09_fault where
  E := 103
  sz := 4
  enc x := [.int .i64 x.space, .int .u64 x.m.Base, .int .u64 x.m.Len, .int .i64 x.left]
  z := ref09_fault.zero
  len _ := rfl
  one x v h := by simp only [List.mem_cons, List.not_mem_nil, or_false] at h; rcases h with rfl | rfl | rfl | rfl <;> rfl
  pos := by decide
def FR : NV SlV ref09_mapping where
  more g x := [osl K_uint8 g.v x.bytes]
theorem bt_71 : BT Try.prog 71 [.slice none 0 0, .slice none 0 0, .slice none 0 0, .bool false, .bool false, .bool false, .bool false, .bool false, .bool false, .bool false, .bool false, .bool false, .bool false, .bool false, .bool false, .bool false, .bool false, .bool false, .bool false, .bool false, .bool false, .bool false, .bool false, .bool false, .bool false, .bool false, .bool false, .bool false, .bool false, .bool false, .bool false, .bool false, .bool false, .bool false, .bool false, .bool false, .bool false, .bool false, .bool false, .bool false, .bool false, .bool false, .bool false, .bool false, .bool false, .bool false, .bool false, .bool false, .bool false, .bool false, .bool false, .bool false, .bool false, .bool false, .bool false, .bool false, .bool false, .bool false, .bool false, .bool false, .bool false, .bool false, .bool false, .bool false, .bool false, .bool false, .bool false, .bool false, .bool false, .bool false, .bool false, .bool false, .bool false, .bool false, .bool false, .bool false, .bool false, .bool false, .bool false, .bool false, .bool false, .bool false, .bool false, .bool false, .bool false, .bool false, .bool false, .bool false, .bool false, .bool false, .bool false, .bool false, .bool false, .bool false, .bool false, .bool false, .bool false, .bool false, .bool false, .bool false, .bool false, .bool false, .bool false, .bool false, .bool false, .bool false, .bool false, .bool false, .bool false, .bool false, .bool false, .bool false, .bool false, .bool false, .bool false, .bool false, .bool false, .bool false, .bool false, .bool false, .bool false, .bool false, .bool false, .bool false, .bool false, .bool false, .bool false, .bool false, .bool false, .bool false, .bool false, .bool false, .bool false, .bool false, .bool false, .bool false, .bool false, .bool false, .bool false, .bool false, .bool false, .bool false, .bool false, .bool false, .bool false, .bool false, .bool false, .bool false, .bool false, .bool false, .bool false, .bool false, .bool false, .bool false, .bool false, .bool false, .bool false, .bool false, .bool false, .bool false, .bool false, .bool false, .bool false, .bool false, .bool false, .bool false, .bool false, .bool false, .bool false, .bool false, .bool false, .bool false, .bool false, .bool false, .bool false, .bool false, .bool false, .bool false, .bool false, .bool false, .bool false, .bool false, .bool false, .bool false, .bool false, .bool false, .bool false, .bool false, .bool false, .bool false, .bool false, .bool false, .bool false, .bool false, .bool false, .bool false, .bool false, .bool false, .bool false, .bool false, .bool false, .bool false, .bool false, .bool false, .bool false, .bool false, .bool false, .bool false, .bool false, .bool false, .bool false, .bool false, .bool false, .bool false, .bool false, .bool false, .bool false, .bool false, .bool false, .bool false, .bool false, .bool false, .bool false, .bool false, .bool false, .bool false, .bool false, .bool false, .bool false, .bool false, .bool false, .bool false, .bool false, .bool false, .bool false, .bool false, .bool false, .bool false, .bool false, .bool false, .bool false, .bool false, .bool false, .bool false, .bool false, .bool false, .bool false, .bool false, .bool false, .bool false, .bool false, .bool false, .bool false, .bool false, .bool false, .bool false, .bool false, .bool false, .bool false, .slice none 0 0, .slice none 0 0] [(0, 3), (3, 256), (259, 1), (260, 1)] := ⟨_, .agg #[.slice none 0 0, .slice none 0 0, .slice none 0 0, .bool false, .bool false, .bool false, .bool false, .bool false, .bool false, .bool false, .bool false, .bool false, .bool false, .bool false, .bool false, .bool false, .bool false, .bool false, .bool false, .bool false, .bool false, .bool false, .bool false, .bool false, .bool false, .bool false, .bool false, .bool false, .bool false, .bool false, .bool false, .bool false, .bool false, .bool false, .bool false, .bool false, .bool false, .bool false, .bool false, .bool false, .bool false, .bool false, .bool false, .bool false, .bool false, .bool false, .bool false, .bool false, .bool false, .bool false, .bool false, .bool false, .bool false, .bool false, .bool false, .bool false, .bool false, .bool false, .bool false, .bool false, .bool false, .bool false, .bool false, .bool false, .bool false, .bool false, .bool false, .bool false, .bool false, .bool false, .bool false, .bool false, .bool false, .bool false, .bool false, .bool false, .bool false, .bool false, .bool false, .bool false, .bool false, .bool false, .bool false, .bool false, .bool false, .bool false, .bool false, .bool false, .bool false, .bool false, .bool false, .bool false, .bool false, .bool false, .bool false, .bool false, .bool false, .bool false, .bool false, .bool false, .bool false, .bool false, .bool false, .bool false, .bool false, .bool false, .bool false, .bool false, .bool false, .bool false, .bool false, .bool false, .bool false, .bool false, .bool false, .bool false, .bool false, .bool false, .bool false, .bool false, .bool false, .bool false, .bool false, .bool false, .bool false, .bool false, .bool false, .bool false, .bool false, .bool false, .bool false, .bool false, .bool false, .bool false, .bool false, .bool false, .bool false, .bool false, .bool false, .bool false, .bool false, .bool false, .bool false, .bool false, .bool false, .bool false, .bool false, .bool false, .bool false, .bool false, .bool false, .bool false, .bool false, .bool false, .bool false, .bool false, .bool false, .bool false, .bool false, .bool false, .bool false, .bool false, .bool false, .bool false, .bool false, .bool false, .bool false, .bool false, .bool false, .bool false, .bool false, .bool false, .bool false, .bool false, .bool false, .bool false, .bool false, .bool false, .bool false, .bool false, .bool false, .bool false, .bool false, .bool false, .bool false, .bool false, .bool false, .bool false, .bool false, .bool false, .bool false, .bool false, .bool false, .bool false, .bool false, .bool false, .bool false, .bool false, .bool false, .bool false, .bool false, .bool false, .bool false, .bool false, .bool false, .bool false, .bool false, .bool false, .bool false, .bool false, .bool false, .bool false, .bool false, .bool false, .bool false, .bool false, .bool false, .bool false, .bool false, .bool false, .bool false, .bool false, .bool false, .bool false, .bool false, .bool false, .bool false, .bool false, .bool false, .bool false, .bool false, .bool false, .bool false, .bool false, .bool false, .bool false, .bool false, .bool false, .bool false, .bool false, .bool false, .bool false, .bool false, .bool false, .bool false, .bool false, .bool false, .bool false, .bool false, .bool false, .bool false, .bool false, .bool false, .bool false, .bool false, .bool false, .bool false, .bool false, .bool false, .slice none 0 0, .slice none 0 0], 376, Try.underlying71, by unfold TI; kernel_rfl, rfl, by kernel_rfl⟩
theorem cf_25 : CF Try.prog 25 := ⟨Try.f25, Try.func25, by kernel_rfl, rfl⟩
theorem fa_71_1 : FA Try.prog 71 1 3 := ⟨_, _, 256, Try.underlying71, rfl, rfl, by kernel_rfl, by decide⟩
theorem ia_52 : IA Try.prog 52 4 256 1 := ⟨Try.underlying52, by kernel_rfl⟩
theorem sz_4 : (Try.prog.info? 4).map (·.size) = some 1 := by kernel_rfl
theorem sc_4 : SC Try.prog 4 := ⟨_, Try.underlying4, rfl⟩
theorem fa_71_3 : FA Try.prog 71 3 260 := ⟨_, _, 1, Try.underlying71, rfl, rfl, by kernel_rfl, by decide⟩
theorem sc_54 : SC Try.prog 54 := ⟨_, Try.underlying54, rfl⟩
theorem sz_54 : (Try.prog.info? 54).map (·.size) = some 1 := by kernel_rfl
theorem fa_80_2 : FA Try.prog 80 2 3 := ⟨_, _, 1, Try.underlying80, rfl, rfl, by kernel_rfl, by decide⟩
theorem sc_78 : SC Try.prog 78 := ⟨_, Try.underlying78, rfl⟩
theorem mt_78 : MT Try.prog 78 22 5 .u64 .u8 := ⟨Try.underlying78, Try.underlying22, by kernel_rfl⟩
theorem fa_37_2 : FA Try.prog 37 2 2 := ⟨_, _, 1, Try.underlying37, rfl, rfl, by kernel_rfl, by decide⟩
theorem sc_3 : SC Try.prog 3 := ⟨_, Try.underlying3, rfl⟩
theorem fa_37_0 : FA Try.prog 37 0 0 := ⟨_, _, 1, Try.underlying37, rfl, rfl, by kernel_rfl, by decide⟩
theorem cf_23 : CF Try.prog 23 := ⟨Try.f23, Try.func23, by kernel_rfl, rfl⟩
theorem fa_37_1 : FA Try.prog 37 1 1 := ⟨_, _, 1, Try.underlying37, rfl, rfl, by kernel_rfl, by decide⟩
theorem sc_22 : SC Try.prog 22 := ⟨_, Try.underlying22, rfl⟩
theorem fa_32_0 : FA Try.prog 32 0 0 := ⟨_, _, 1, Try.underlying32, rfl, rfl, by kernel_rfl, by decide⟩
theorem ag_32 : AG Try.prog 32 2 := ⟨_, Try.underlying32, rfl, by kernel_rfl⟩
theorem fa_32_1 : FA Try.prog 32 1 1 := ⟨_, _, 1, Try.underlying32, rfl, rfl, by kernel_rfl, by decide⟩
theorem cf_33 : CF Try.prog 33 := ⟨Try.f33, Try.func33, by kernel_rfl, rfl⟩
theorem fa_71_0 : FA Try.prog 71 0 0 := ⟨_, _, 3, Try.underlying71, rfl, rfl, by kernel_rfl, by decide⟩
theorem ia_68 : IA Try.prog 68 67 3 1 := ⟨Try.underlying68, by kernel_rfl⟩
theorem sc_67 : SC Try.prog 67 := ⟨_, Try.underlying67, rfl⟩
theorem sa_67 : SA Try.prog 67 76 1 := ⟨Try.underlying67, by kernel_rfl⟩
theorem sc_76 : SC Try.prog 76 := ⟨_, Try.underlying76, rfl⟩
theorem fa_80_0 : FA Try.prog 80 0 0 := ⟨_, _, 2, Try.underlying80, rfl, rfl, by kernel_rfl, by decide⟩
theorem cf_32 : CF Try.prog 32 := ⟨Try.f32, Try.func32, by kernel_rfl, rfl⟩
theorem fa_80_1 : FA Try.prog 80 1 2 := ⟨_, _, 1, Try.underlying80, rfl, rfl, by kernel_rfl, by decide⟩
theorem bt_32 : BT Try.prog 32 [.int .u64 0, .int .u64 0] [(0, 1), (1, 1)] := ⟨_, .agg #[.int .u64 0, .int .u64 0], 16, Try.underlying32, by unfold TI; kernel_rfl, rfl, by kernel_rfl⟩
theorem ti_32 : TI Try.prog 32 (.agg #[.int .u64 0, .int .u64 0]) 2 16 := by unfold TI; kernel_rfl
theorem sz_32 : (Try.prog.info? 32).map (·.size) = some 2 := by kernel_rfl
theorem fa_71_2 : FA Try.prog 71 2 259 := ⟨_, _, 1, Try.underlying71, rfl, rfl, by kernel_rfl, by decide⟩
theorem sc_69 : SC Try.prog 69 := ⟨_, Try.underlying69, rfl⟩
theorem sa_69 : SA Try.prog 69 88 1 := ⟨Try.underlying69, by kernel_rfl⟩
theorem sc_88 : SC Try.prog 88 := ⟨_, Try.underlying88, rfl⟩
theorem fa_90_0 : FA Try.prog 90 0 0 := ⟨_, _, 1, Try.underlying90, rfl, rfl, by kernel_rfl, by decide⟩
theorem fa_90_1 : FA Try.prog 90 1 1 := ⟨_, _, 2, Try.underlying90, rfl, rfl, by kernel_rfl, by decide⟩
theorem cf_28 : CF Try.prog 28 := ⟨Try.f28, Try.func28, by kernel_rfl, rfl⟩
theorem cf_53 : CF Try.prog 53 := ⟨Try.f53, Try.func53, by kernel_rfl, rfl⟩
theorem cf_52 : CF Try.prog 52 := ⟨Try.f52, Try.func52, by kernel_rfl, rfl⟩
theorem fa_90_2 : FA Try.prog 90 2 3 := ⟨_, _, 1, Try.underlying90, rfl, rfl, by kernel_rfl, by decide⟩
theorem sz_3 : (Try.prog.info? 3).map (·.size) = some 1 := by kernel_rfl
theorem cf_54 : CF Try.prog 54 := ⟨Try.f54, Try.func54, by kernel_rfl, rfl⟩
theorem sz_69 : (Try.prog.info? 69).map (·.size) = some 1 := by kernel_rfl
theorem cf_24 : CF Try.prog 24 := ⟨Try.f24, Try.func24, by kernel_rfl, rfl⟩
theorem bt_90 : BT Try.prog 90 [.int .i64 0, .int .u64 0, .int .u64 0, .int .i64 0] [(0, 1), (1, 2), (3, 1)] := ⟨_, .agg #[.int .i64 0, .int .u64 0, .int .u64 0, .int .i64 0], 32, Try.underlying90, by unfold TI; kernel_rfl, rfl, by kernel_rfl⟩
theorem ep_88 : EP Try.prog Kf 8 := ⟨.pointer none, by unfold TI; kernel_rfl, rfl⟩
theorem ag_68 : AG Try.prog 68 3 := ⟨_, Try.underlying68, rfl, by kernel_rfl⟩
theorem cf_27 : CF Try.prog 27 := ⟨Try.f27, Try.func27, by kernel_rfl, rfl⟩
theorem cf_49 : CF Try.prog 49 := ⟨Try.f49, Try.func49, by kernel_rfl, rfl⟩
theorem cf_26 : CF Try.prog 26 := ⟨Try.f26, Try.func26, by kernel_rfl, rfl⟩
theorem bt_80 : BT Try.prog 80 [.int .u64 0, .int .u64 0, .int .i64 0, .map none] [(0, 2), (2, 1), (3, 1)] := ⟨_, .agg #[.int .u64 0, .int .u64 0, .int .i64 0, .map none], 32, Try.underlying80, by unfold TI; kernel_rfl, rfl, by kernel_rfl⟩
theorem ep_76 : EP Try.prog Km 8 := ⟨.pointer none, by unfold TI; kernel_rfl, rfl⟩
theorem cf_29 : CF Try.prog 29 := ⟨Try.f29, Try.func29, by kernel_rfl, rfl⟩
theorem sz_67 : (Try.prog.info? 67).map (·.size) = some 1 := by kernel_rfl
theorem ag_37 : AG Try.prog 37 5 := ⟨_, Try.underlying37, rfl, by kernel_rfl⟩
theorem cf_30 : CF Try.prog 30 := ⟨Try.f30, Try.func30, by kernel_rfl, rfl⟩
theorem fa_37_4 : FA Try.prog 37 4 4 := ⟨_, _, 1, Try.underlying37, rfl, rfl, by kernel_rfl, by decide⟩
theorem cf_31 : CF Try.prog 31 := ⟨Try.f31, Try.func31, by kernel_rfl, rfl⟩
theorem sz_22 : (Try.prog.info? 22).map (·.size) = some 1 := by kernel_rfl
theorem bt_63 : BT Try.prog 63 [.int .i64 0, .int .u64 0, .int .i64 0, .bool false, .int .u64 0, .int .i64 0, .bool false, .bool false] [(0, 5), (5, 1), (6, 1), (7, 1)] := ⟨_, .agg #[.int .i64 0, .int .u64 0, .int .i64 0, .bool false, .int .u64 0, .int .i64 0, .bool false, .bool false], 56, Try.underlying63, by unfold TI; kernel_rfl, rfl, by kernel_rfl⟩
theorem ti_63 : TI Try.prog 63 (.agg #[.int .i64 0, .int .u64 0, .int .i64 0, .bool false, .int .u64 0, .int .i64 0, .bool false, .bool false]) 8 56 := by unfold TI; kernel_rfl
theorem sz_63 : (Try.prog.info? 63).map (·.size) = some 8 := by kernel_rfl
theorem fa_63_1 : FA Try.prog 63 1 5 := ⟨_, _, 1, Try.underlying63, rfl, rfl, by kernel_rfl, by decide⟩
theorem fa_63_2 : FA Try.prog 63 2 6 := ⟨_, _, 1, Try.underlying63, rfl, rfl, by kernel_rfl, by decide⟩
theorem cf_34 : CF Try.prog 34 := ⟨Try.f34, Try.func34, by kernel_rfl, rfl⟩
theorem fa_63_3 : FA Try.prog 63 3 7 := ⟨_, _, 1, Try.underlying63, rfl, rfl, by kernel_rfl, by decide⟩
theorem fa_37_3 : FA Try.prog 37 3 3 := ⟨_, _, 1, Try.underlying37, rfl, rfl, by kernel_rfl, by decide⟩
theorem fa_63_0 : FA Try.prog 63 0 0 := ⟨_, _, 5, Try.underlying63, rfl, rfl, by kernel_rfl, by decide⟩
theorem cf_35 : CF Try.prog 35 := ⟨Try.f35, Try.func35, by kernel_rfl, rfl⟩
theorem cf_36 : CF Try.prog 36 := ⟨Try.f36, Try.func36, by kernel_rfl, rfl⟩
theorem ag_63 : AG Try.prog 63 8 := ⟨_, Try.underlying63, rfl, by kernel_rfl⟩
theorem ep_63 : EP Try.prog Kt 56 := ⟨.agg #[.int .i64 0, .int .u64 0, .int .i64 0, .bool false, .int .u64 0, .int .i64 0, .bool false, .bool false], by unfold TI; kernel_rfl, rfl⟩
theorem cf_58 : CF Try.prog 58 := ⟨Try.f58, Try.func58, by kernel_rfl, rfl⟩
theorem cf_59 : CF Try.prog 59 := ⟨Try.f59, Try.func59, by kernel_rfl, rfl⟩
theorem cf_8 : CF Try.prog 8 := ⟨Try.f8, Try.func8, by kernel_rfl, rfl⟩
theorem cf_11 : CF Try.prog 11 := ⟨Try.f11, Try.func11, by kernel_rfl, rfl⟩
theorem bt_37 : BT Try.prog 37 [.int .i64 0, .int .u64 0, .int .i64 0, .bool false, .int .u64 0] [(0, 1), (1, 1), (2, 1), (3, 1), (4, 1)] := ⟨_, .agg #[.int .i64 0, .int .u64 0, .int .i64 0, .bool false, .int .u64 0], 40, Try.underlying37, by unfold TI; kernel_rfl, rfl, by kernel_rfl⟩
theorem cf_13 : CF Try.prog 13 := ⟨Try.f13, Try.func13, by kernel_rfl, rfl⟩
theorem cf_12 : CF Try.prog 12 := ⟨Try.f12, Try.func12, by kernel_rfl, rfl⟩
theorem cf_21 : CF Try.prog 21 := ⟨Try.f21, Try.func21, by kernel_rfl, rfl⟩
theorem sa_54 : SA Try.prog 54 63 8 := ⟨Try.underlying54, by kernel_rfl⟩
theorem cf_9 : CF Try.prog 9 := ⟨Try.f9, Try.func9, by kernel_rfl, rfl⟩
theorem ep_3 : EP Try.prog K_int 8 := ⟨.int .i64 0, by unfold TI; kernel_rfl, rfl⟩
theorem sa_27 : SA Try.prog 27 3 1 := ⟨Try.underlying27, by kernel_rfl⟩
theorem cf_10 : CF Try.prog 10 := ⟨Try.f10, Try.func10, by kernel_rfl, rfl⟩
theorem sa_23 : SA Try.prog 23 5 1 := ⟨Try.underlying23, by kernel_rfl⟩
theorem sc_5 : SC Try.prog 5 := ⟨_, Try.underlying5, rfl⟩
theorem cf_14 : CF Try.prog 14 := ⟨Try.f14, Try.func14, by kernel_rfl, rfl⟩
theorem sa_40 : SA Try.prog 40 43 9 := ⟨Try.underlying40, by kernel_rfl⟩
theorem ag_43 : AG Try.prog 43 9 := ⟨_, Try.underlying43, rfl, by kernel_rfl⟩
theorem ti_43 : TI Try.prog 43 (.agg #[.int .i64 0, .int .i64 0, .int .u64 0, .int .u64 0, .int .i64 0, .int .i64 0, .bool false, .int .u64 0, .bool false]) 9 72 := by unfold TI; kernel_rfl
theorem sz_43 : (Try.prog.info? 43).map (·.size) = some 9 := by kernel_rfl
theorem fa_43_2 : FA Try.prog 43 2 2 := ⟨_, _, 1, Try.underlying43, rfl, rfl, by kernel_rfl, by decide⟩
theorem fa_43_3 : FA Try.prog 43 3 3 := ⟨_, _, 1, Try.underlying43, rfl, rfl, by kernel_rfl, by decide⟩
theorem cf_15 : CF Try.prog 15 := ⟨Try.f15, Try.func15, by kernel_rfl, rfl⟩
theorem cf_16 : CF Try.prog 16 := ⟨Try.f16, Try.func16, by kernel_rfl, rfl⟩
theorem cf_17 : CF Try.prog 17 := ⟨Try.f17, Try.func17, by kernel_rfl, rfl⟩
theorem fa_56_3 : FA Try.prog 56 3 258 := ⟨_, _, 1, Try.underlying56, rfl, rfl, by kernel_rfl, by decide⟩
theorem fa_56_1 : FA Try.prog 56 1 1 := ⟨_, _, 256, Try.underlying56, rfl, rfl, by kernel_rfl, by decide⟩
theorem fa_56_0 : FA Try.prog 56 0 0 := ⟨_, _, 1, Try.underlying56, rfl, rfl, by kernel_rfl, by decide⟩
theorem sc_51 : SC Try.prog 51 := ⟨_, Try.underlying51, rfl⟩
theorem sa_51 : SA Try.prog 51 100 5 := ⟨Try.underlying51, by kernel_rfl⟩
theorem fa_100_0 : FA Try.prog 100 0 0 := ⟨_, _, 1, Try.underlying100, rfl, rfl, by kernel_rfl, by decide⟩
theorem fa_100_1 : FA Try.prog 100 1 1 := ⟨_, _, 2, Try.underlying100, rfl, rfl, by kernel_rfl, by decide⟩
theorem cf_64 : CF Try.prog 64 := ⟨Try.f64, Try.func64, by kernel_rfl, rfl⟩
theorem cf_60 : CF Try.prog 60 := ⟨Try.f60, Try.func60, by kernel_rfl, rfl⟩
theorem fa_100_2 : FA Try.prog 100 2 3 := ⟨_, _, 1, Try.underlying100, rfl, rfl, by kernel_rfl, by decide⟩
theorem fa_100_3 : FA Try.prog 100 3 4 := ⟨_, _, 1, Try.underlying100, rfl, rfl, by kernel_rfl, by decide⟩
theorem sc_23 : SC Try.prog 23 := ⟨_, Try.underlying23, rfl⟩
theorem sz_5 : (Try.prog.info? 5).map (·.size) = some 1 := by kernel_rfl
theorem cf_55 : CF Try.prog 55 := ⟨Try.f55, Try.func55, by kernel_rfl, rfl⟩
theorem cf_56 : CF Try.prog 56 := ⟨Try.f56, Try.func56, by kernel_rfl, rfl⟩
theorem fa_56_2 : FA Try.prog 56 2 257 := ⟨_, _, 1, Try.underlying56, rfl, rfl, by kernel_rfl, by decide⟩
theorem sc_53 : SC Try.prog 53 := ⟨_, Try.underlying53, rfl⟩
theorem sa_53 : SA Try.prog 53 103 4 := ⟨Try.underlying53, by kernel_rfl⟩
theorem fa_103_2 : FA Try.prog 103 2 3 := ⟨_, _, 1, Try.underlying103, rfl, rfl, by kernel_rfl, by decide⟩
theorem bt_103 : BT Try.prog 103 [.int .i64 0, .int .u64 0, .int .u64 0, .int .i64 0] [(0, 1), (1, 2), (3, 1)] := ⟨_, .agg #[.int .i64 0, .int .u64 0, .int .u64 0, .int .i64 0], 32, Try.underlying103, by unfold TI; kernel_rfl, rfl, by kernel_rfl⟩
theorem ep_103 : EP Try.prog KF 32 := ⟨.agg #[.int .i64 0, .int .u64 0, .int .u64 0, .int .i64 0], by unfold TI; kernel_rfl, rfl⟩
theorem sz_53 : (Try.prog.info? 53).map (·.size) = some 1 := by kernel_rfl
theorem cf_57 : CF Try.prog 57 := ⟨Try.f57, Try.func57, by kernel_rfl, rfl⟩
theorem ep_5 : EP Try.prog K_uint8 1 := ⟨.int .u8 0, by unfold TI; kernel_rfl, rfl⟩
theorem bt_100 : BT Try.prog 100 [.int .i64 0, .int .u64 0, .int .u64 0, .int .i64 0, .slice none 0 0] [(0, 1), (1, 2), (3, 1), (4, 1)] := ⟨_, .agg #[.int .i64 0, .int .u64 0, .int .u64 0, .int .i64 0, .slice none 0 0], 56, Try.underlying100, by unfold TI; kernel_rfl, rfl, by kernel_rfl⟩
theorem ep_100 : EP Try.prog KR 56 := ⟨.agg #[.int .i64 0, .int .u64 0, .int .u64 0, .int .i64 0, (.slice none 0 0)], by unfold TI; kernel_rfl, rfl⟩
theorem sz_51 : (Try.prog.info? 51).map (·.size) = some 1 := by kernel_rfl
theorem fa_103_0 : FA Try.prog 103 0 0 := ⟨_, _, 1, Try.underlying103, rfl, rfl, by kernel_rfl, by decide⟩
theorem fa_103_1 : FA Try.prog 103 1 1 := ⟨_, _, 2, Try.underlying103, rfl, rfl, by kernel_rfl, by decide⟩
theorem cf_61 : CF Try.prog 61 := ⟨Try.f61, Try.func61, by kernel_rfl, rfl⟩
theorem cf_46 : CF Try.prog 46 := ⟨Try.f46, Try.func46, by kernel_rfl, rfl⟩
theorem cf_62 : CF Try.prog 62 := ⟨Try.f62, Try.func62, by kernel_rfl, rfl⟩
theorem fa_43_0 : FA Try.prog 43 0 0 := ⟨_, _, 1, Try.underlying43, rfl, rfl, by kernel_rfl, by decide⟩
theorem fa_58_0 : FA Try.prog 58 0 0 := ⟨_, _, 1, Try.underlying58, rfl, rfl, by kernel_rfl, by decide⟩
theorem sc_24 : SC Try.prog 24 := ⟨_, Try.underlying24, rfl⟩
theorem fa_43_1 : FA Try.prog 43 1 1 := ⟨_, _, 1, Try.underlying43, rfl, rfl, by kernel_rfl, by decide⟩
theorem fa_43_5 : FA Try.prog 43 5 5 := ⟨_, _, 1, Try.underlying43, rfl, rfl, by kernel_rfl, by decide⟩
theorem fa_58_1 : FA Try.prog 58 1 1 := ⟨_, _, 1, Try.underlying58, rfl, rfl, by kernel_rfl, by decide⟩
theorem sc_50 : SC Try.prog 50 := ⟨_, Try.underlying50, rfl⟩
theorem cf_37 : CF Try.prog 37 := ⟨Try.f37, Try.func37, by kernel_rfl, rfl⟩
theorem cf_38 : CF Try.prog 38 := ⟨Try.f38, Try.func38, by kernel_rfl, rfl⟩
theorem cf_39 : CF Try.prog 39 := ⟨Try.f39, Try.func39, by kernel_rfl, rfl⟩
theorem fa_43_6 : FA Try.prog 43 6 6 := ⟨_, _, 1, Try.underlying43, rfl, rfl, by kernel_rfl, by decide⟩
theorem cf_40 : CF Try.prog 40 := ⟨Try.f40, Try.func40, by kernel_rfl, rfl⟩
theorem fa_43_4 : FA Try.prog 43 4 4 := ⟨_, _, 1, Try.underlying43, rfl, rfl, by kernel_rfl, by decide⟩
theorem cf_41 : CF Try.prog 41 := ⟨Try.f41, Try.func41, by kernel_rfl, rfl⟩
theorem cf_22 : CF Try.prog 22 := ⟨Try.f22, Try.func22, by kernel_rfl, rfl⟩
theorem cf_20 : CF Try.prog 20 := ⟨Try.f20, Try.func20, by kernel_rfl, rfl⟩
theorem fa_43_7 : FA Try.prog 43 7 7 := ⟨_, _, 1, Try.underlying43, rfl, rfl, by kernel_rfl, by decide⟩
theorem cf_42 : CF Try.prog 42 := ⟨Try.f42, Try.func42, by kernel_rfl, rfl⟩
theorem cf_43 : CF Try.prog 43 := ⟨Try.f43, Try.func43, by kernel_rfl, rfl⟩
theorem ti_37 : TI Try.prog 37 (.agg #[.int .i64 0, .int .u64 0, .int .i64 0, .bool false, .int .u64 0]) 5 40 := by unfold TI; kernel_rfl
theorem sz_37 : (Try.prog.info? 37).map (·.size) = some 5 := by kernel_rfl
theorem cf_44 : CF Try.prog 44 := ⟨Try.f44, Try.func44, by kernel_rfl, rfl⟩
theorem cf_45 : CF Try.prog 45 := ⟨Try.f45, Try.func45, by kernel_rfl, rfl⟩
theorem cf_47 : CF Try.prog 47 := ⟨Try.f47, Try.func47, by kernel_rfl, rfl⟩
theorem cf_48 : CF Try.prog 48 := ⟨Try.f48, Try.func48, by kernel_rfl, rfl⟩
theorem bt_56 : BT Try.prog 56 [.slice none 0 0, .bool false, .bool false, .bool false, .bool false, .bool false, .bool false, .bool false, .bool false, .bool false, .bool false, .bool false, .bool false, .bool false, .bool false, .bool false, .bool false, .bool false, .bool false, .bool false, .bool false, .bool false, .bool false, .bool false, .bool false, .bool false, .bool false, .bool false, .bool false, .bool false, .bool false, .bool false, .bool false, .bool false, .bool false, .bool false, .bool false, .bool false, .bool false, .bool false, .bool false, .bool false, .bool false, .bool false, .bool false, .bool false, .bool false, .bool false, .bool false, .bool false, .bool false, .bool false, .bool false, .bool false, .bool false, .bool false, .bool false, .bool false, .bool false, .bool false, .bool false, .bool false, .bool false, .bool false, .bool false, .bool false, .bool false, .bool false, .bool false, .bool false, .bool false, .bool false, .bool false, .bool false, .bool false, .bool false, .bool false, .bool false, .bool false, .bool false, .bool false, .bool false, .bool false, .bool false, .bool false, .bool false, .bool false, .bool false, .bool false, .bool false, .bool false, .bool false, .bool false, .bool false, .bool false, .bool false, .bool false, .bool false, .bool false, .bool false, .bool false, .bool false, .bool false, .bool false, .bool false, .bool false, .bool false, .bool false, .bool false, .bool false, .bool false, .bool false, .bool false, .bool false, .bool false, .bool false, .bool false, .bool false, .bool false, .bool false, .bool false, .bool false, .bool false, .bool false, .bool false, .bool false, .bool false, .bool false, .bool false, .bool false, .bool false, .bool false, .bool false, .bool false, .bool false, .bool false, .bool false, .bool false, .bool false, .bool false, .bool false, .bool false, .bool false, .bool false, .bool false, .bool false, .bool false, .bool false, .bool false, .bool false, .bool false, .bool false, .bool false, .bool false, .bool false, .bool false, .bool false, .bool false, .bool false, .bool false, .bool false, .bool false, .bool false, .bool false, .bool false, .bool false, .bool false, .bool false, .bool false, .bool false, .bool false, .bool false, .bool false, .bool false, .bool false, .bool false, .bool false, .bool false, .bool false, .bool false, .bool false, .bool false, .bool false, .bool false, .bool false, .bool false, .bool false, .bool false, .bool false, .bool false, .bool false, .bool false, .bool false, .bool false, .bool false, .bool false, .bool false, .bool false, .bool false, .bool false, .bool false, .bool false, .bool false, .bool false, .bool false, .bool false, .bool false, .bool false, .bool false, .bool false, .bool false, .bool false, .bool false, .bool false, .bool false, .bool false, .bool false, .bool false, .bool false, .bool false, .bool false, .bool false, .bool false, .bool false, .bool false, .bool false, .bool false, .bool false, .bool false, .bool false, .bool false, .bool false, .bool false, .bool false, .bool false, .bool false, .bool false, .bool false, .bool false, .bool false, .bool false, .bool false, .bool false, .bool false, .bool false, .bool false, .bool false, .bool false, .bool false, .bool false, .bool false, .bool false, .bool false, .bool false, .bool false, .bool false, .bool false, .slice none 0 0, .slice none 0 0] [(0, 1), (1, 256), (257, 1), (258, 1)] := ⟨_, .agg #[.slice none 0 0, .bool false, .bool false, .bool false, .bool false, .bool false, .bool false, .bool false, .bool false, .bool false, .bool false, .bool false, .bool false, .bool false, .bool false, .bool false, .bool false, .bool false, .bool false, .bool false, .bool false, .bool false, .bool false, .bool false, .bool false, .bool false, .bool false, .bool false, .bool false, .bool false, .bool false, .bool false, .bool false, .bool false, .bool false, .bool false, .bool false, .bool false, .bool false, .bool false, .bool false, .bool false, .bool false, .bool false, .bool false, .bool false, .bool false, .bool false, .bool false, .bool false, .bool false, .bool false, .bool false, .bool false, .bool false, .bool false, .bool false, .bool false, .bool false, .bool false, .bool false, .bool false, .bool false, .bool false, .bool false, .bool false, .bool false, .bool false, .bool false, .bool false, .bool false, .bool false, .bool false, .bool false, .bool false, .bool false, .bool false, .bool false, .bool false, .bool false, .bool false, .bool false, .bool false, .bool false, .bool false, .bool false, .bool false, .bool false, .bool false, .bool false, .bool false, .bool false, .bool false, .bool false, .bool false, .bool false, .bool false, .bool false, .bool false, .bool false, .bool false, .bool false, .bool false, .bool false, .bool false, .bool false, .bool false, .bool false, .bool false, .bool false, .bool false, .bool false, .bool false, .bool false, .bool false, .bool false, .bool false, .bool false, .bool false, .bool false, .bool false, .bool false, .bool false, .bool false, .bool false, .bool false, .bool false, .bool false, .bool false, .bool false, .bool false, .bool false, .bool false, .bool false, .bool false, .bool false, .bool false, .bool false, .bool false, .bool false, .bool false, .bool false, .bool false, .bool false, .bool false, .bool false, .bool false, .bool false, .bool false, .bool false, .bool false, .bool false, .bool false, .bool false, .bool false, .bool false, .bool false, .bool false, .bool false, .bool false, .bool false, .bool false, .bool false, .bool false, .bool false, .bool false, .bool false, .bool false, .bool false, .bool false, .bool false, .bool false, .bool false, .bool false, .bool false, .bool false, .bool false, .bool false, .bool false, .bool false, .bool false, .bool false, .bool false, .bool false, .bool false, .bool false, .bool false, .bool false, .bool false, .bool false, .bool false, .bool false, .bool false, .bool false, .bool false, .bool false, .bool false, .bool false, .bool false, .bool false, .bool false, .bool false, .bool false, .bool false, .bool false, .bool false, .bool false, .bool false, .bool false, .bool false, .bool false, .bool false, .bool false, .bool false, .bool false, .bool false, .bool false, .bool false, .bool false, .bool false, .bool false, .bool false, .bool false, .bool false, .bool false, .bool false, .bool false, .bool false, .bool false, .bool false, .bool false, .bool false, .bool false, .bool false, .bool false, .bool false, .bool false, .bool false, .bool false, .bool false, .bool false, .bool false, .bool false, .bool false, .bool false, .bool false, .bool false, .bool false, .bool false, .bool false, .bool false, .bool false, .bool false, .bool false, .bool false, .bool false, .bool false, .slice none 0 0, .slice none 0 0], 328, Try.underlying56, by unfold TI; kernel_rfl, rfl, by kernel_rfl⟩
theorem bt_58 : BT Try.prog 58 [.pointer none, .pointer none] [(0, 1), (1, 1)] := ⟨_, .agg #[.pointer none, .pointer none], 16, Try.underlying58, by unfold TI; kernel_rfl, rfl, by kernel_rfl⟩
theorem ti_58 : TI Try.prog 58 (.agg #[.pointer none, .pointer none]) 2 16 := by unfold TI; kernel_rfl
theorem sz_58 : (Try.prog.info? 58).map (·.size) = some 2 := by kernel_rfl
theorem ag_58 : AG Try.prog 58 2 := ⟨_, Try.underlying58, rfl, by kernel_rfl⟩
theorem fa_43_8 : FA Try.prog 43 8 8 := ⟨_, _, 1, Try.underlying43, rfl, rfl, by kernel_rfl, by decide⟩
theorem cf_19 : CF Try.prog 19 := ⟨Try.f19, Try.func19, by kernel_rfl, rfl⟩
theorem cf_18 : CF Try.prog 18 := ⟨Try.f18, Try.func18, by kernel_rfl, rfl⟩
theorem ti_65 : TI Try.prog 65 (.agg #[.int .u8 0, .int .u8 0, .int .u8 0, .int .u8 0, .int .u8 0, .int .u8 0, .int .u8 0, .int .u8 0]) 8 8 := by unfold TI; kernel_rfl
theorem ia_65 : IA Try.prog 65 5 8 1 := ⟨Try.underlying65, by kernel_rfl⟩
end Go.Proofs.Ytigadacjaglfeaa.X
