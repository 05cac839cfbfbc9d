/- The pure side: types of values, functions with a number of rounds, each as the Go text computes. -/
import Derived.Test.YtmjfdknjloidoaaSx10
import Derived.Test.YtmjfdknjloidoaaSx12
import Derived.Test.YtmjfdknjloidoaaSx14
import Derived.Test.YtmjfdknjloidoaaSx16
import Derived.Test.YtmjfdknjloidoaaSx17
namespace Go.Proofs.Ytmjfdknjloidoaa.X
open Go Go.RowKit Go.Sx
set_option linter.unusedVariables false

structure IdleState where
  Latency : Int
  Residency : Int
  Power : Int
def IdleState.zero : IdleState := ⟨0, 0, 0⟩
structure Request where
  Client : Int
  Latency : Int
  Remove : Bool
  Raw : Bool
def Request.zero : Request := ⟨0, 0, false, false⟩
def IdleState.wf (s : IdleState) : Prop := inK .u64 s.Latency ∧ inK .u64 s.Residency ∧ inK .u64 s.Power
def Request.wf (s : Request) : Prop := inK .i64 s.Client ∧ inK .u64 s.Latency

def idle_Check.l1 : Nat → (List IdleState) → Int → Option (Ex (Unit) (Option (Int)))
  | 0, _, _ => none
  | k + 1, a0, y17 => (if y17 < (a0.length : Int) then (ck ((0 : Int) ≤ y17 ∧ y17 < (a0.length : Int)) (((if 1073741824 < ((gd IdleState.zero a0 y17).Latency) then (some true) else (if 1073741824 < ((gd IdleState.zero a0 y17).Residency) then (some true) else (some (decide (1048576 < ((gd IdleState.zero a0 y17).Power))))))).bind fun x29 => (if x29 = true then (some (.rt (some 1))) else (((if 0 < y17 then (ck ((0 : Int) ≤ (IntKind.i64.wrap (y17 - 1)) ∧ (IntKind.i64.wrap (y17 - 1)) < (a0.length : Int)) (if ((gd IdleState.zero a0 y17).Latency) ≤ ((gd IdleState.zero a0 (IntKind.i64.wrap (y17 - 1))).Latency) then (some true) else (if ((gd IdleState.zero a0 y17).Residency) ≤ ((gd IdleState.zero a0 (IntKind.i64.wrap (y17 - 1))).Residency) then (some true) else (some (decide (((gd IdleState.zero a0 (IntKind.i64.wrap (y17 - 1))).Power) ≤ ((gd IdleState.zero a0 y17).Power))))))) else (some false))).bind fun x37 => (if x37 = true then (some (.rt (some 1))) else (idle_Check.l1 k a0 (IntKind.i64.wrap (y17 + 1)))))))) else (some (.go ())))
def idle_Check.f (k : Nat) (a0 : (List IdleState)) : Option (Int) :=
  (((if (a0.length : Int) < 1 then (some true) else (if 10 < (a0.length : Int) then (some true) else (ck ((0 : Int) ≤ 0 ∧ 0 < (a0.length : Int)) (if ((gd IdleState.zero a0 0).Latency) = 0 then (some (!decide (((gd IdleState.zero a0 0).Residency) = 0))) else (some true)))))).bind fun x3 => (if x3 = true then (some 1) else (((idle_Check.l1 k a0 0) : Option (Ex (Unit) (Option (Int)))).bind fun x14 => x14.el (fun x14s => (some 0)) (fun o => o))))

def idle_Select.l1 : Nat → (List IdleState) → Int → Int → Int → Int → Option (Int)
  | 0, _, _, _, _, _ => none
  | k + 1, a0, a2, a1, y11, y12 => (if y12 < (a0.length : Int) then (((ck ((0 : Int) ≤ y12 ∧ y12 < (a0.length : Int)) (((if ((gd IdleState.zero a0 y12).Latency) ≤ a2 then (some (decide (((gd IdleState.zero a0 y12).Residency) ≤ a1))) else (some false))).bind fun x23 => (if x23 = true then (some y12) else (some y11))))).bind fun x18 => (idle_Select.l1 k a0 a2 a1 x18 (IntKind.i64.wrap (y12 + 1)))) else (some y11))
def idle_Select.f (k : Nat) (a0 : (List IdleState)) (a1 : Int) (a2 : Int) : Option (Int × Int) :=
  ((idle_Check.f k a0).bind fun s3 => (if s3 = 0 then (((idle_Select.l1 k a0 a2 a1 0 0)).bind fun x8 => (some (x8, 0))) else (some (0, s3))))

def idle_Energy.l1 : Nat → Int → (List IdleState) → Int → Int → Option (Int)
  | 0, _, _, _, _ => none
  | k + 1, a1, a0, y21, y22 => (if y22 ≤ a1 then (ck ((0 : Int) ≤ (IntKind.i64.wrap (y22 - 1)) ∧ (IntKind.i64.wrap (y22 - 1)) < (a0.length : Int)) (ck ((0 : Int) ≤ y22 ∧ y22 < (a0.length : Int)) (idle_Energy.l1 k a1 a0 (IntKind.u64.wrap (y21 + (IntKind.u64.wrap ((IntKind.u64.wrap (((gd IdleState.zero a0 (IntKind.i64.wrap (y22 - 1))).Power) - ((gd IdleState.zero a0 y22).Power))) * ((gd IdleState.zero a0 y22).Residency))))) (IntKind.i64.wrap (y22 + 1))))) else (some y21))
def idle_Energy.f (k : Nat) (a0 : (List IdleState)) (a1 : Int) (a2 : Int) : Option (Int × Int) :=
  ((idle_Check.f k a0).bind fun s3 => (if s3 = 0 then (((if a1 < 0 then (some true) else (if (a0.length : Int) ≤ a1 then (some true) else (some (decide (1099511627776 < a2)))))).bind fun x8 => (if x8 = true then (some (0, 1)) else (ck ((0 : Int) ≤ a1 ∧ a1 < (a0.length : Int)) (((idle_Energy.l1 k a1 a0 (IntKind.u64.wrap (((gd IdleState.zero a0 a1).Power) * a2)) 1)).bind fun x18 => (some (x18, 0)))))) else (some (0, s3))))

def law37_awake.f (k : Nat) : Option (Bool) :=
  ((idle_Select.f k [(⟨0, 0, 10⟩ : IdleState), (⟨5, 20, 4⟩ : IdleState), (⟨50, 200, 1⟩ : IdleState)] 500 50).bind fun s4 => ((idle_Select.f k [(⟨0, 0, 10⟩ : IdleState), (⟨5, 20, 4⟩ : IdleState), (⟨50, 200, 1⟩ : IdleState)] 500 40).bind fun s6 => ((idle_Energy.f k [(⟨0, 0, 10⟩ : IdleState), (⟨5, 20, 4⟩ : IdleState), (⟨50, 200, 1⟩ : IdleState)] 2 0).bind fun s8 => (if s4.2 = 0 then (if s6.2 = 0 then (if s8.2 = 0 then (if s4.1 = 2 then (if s6.1 = 1 then (if s8.1 = 720 then ((idle_Check.f k []).bind fun s16 => (some (decide (s16 = 1)))) else (some false)) else (some false)) else (some false)) else (some false)) else (some false)) else (some false)))))

def idle_NewLimits.f (k : Nat) : Option ((List (Int × Int))) :=
  (some [])

def help_Mod.f (k : Nat) (a0 : Int) (a1 : Int) : Option (Int) :=
  (ck ((IntKind.u64.wrap a1) ≠ (0 : Int)) (some (IntKind.i64.wrap (Int.tmod (IntKind.u64.wrap a0) (IntKind.u64.wrap a1)))))

def idle_isClient.f (k : Nat) (a0 : Int) : Option (Bool) :=
  (if 0 ≤ a0 then (some (decide (a0 < 32))) else (some false))

def idle_Limits_Set.f (k : Nat) (a0_requests : (List (Int × Int))) (a1 : Int) (a2 : Int) : Option ((List (Int × Int)) × Int) :=
  ((idle_isClient.f k a1).bind fun s3 => (if s3 = true then (some ((mput a0_requests a1 a2), 0)) else (some (a0_requests, 1))))

def idle_Limits_Limit.f (k : Nat) (a0_requests : (List (Int × Int))) : Option (Int) :=
  (if (a0_requests.length : Int) = 0 then (some 1152921504606846976) else (some (mmin a0_requests)))

def law37_IdleLimitIsMinimum.l1 : Nat → (List Int) → Int → (List (Int × Int)) → (List (Int × Int)) → Int → Option (Ex ((List (Int × Int)) × (List (Int × Int))) (Option (Bool)))
  | 0, _, _, _, _, _ => none
  | k + 1, a0, a1, y20, y21, y22 => (if y22 < (a0.length : Int) then ((help_Mod.f k a1 (a0.length : Int)).bind fun s30 => (ck ((a0.length : Int) ≠ (0 : Int)) (((ck ((0 : Int) ≤ y22 ∧ y22 < (a0.length : Int)) ((idle_Limits_Set.f k y20 y22 (gd 0 a0 y22)).bind fun s35 => (if s35.2 = 0 then (ck ((0 : Int) ≤ (Int.tmod (IntKind.i64.wrap (y22 + s30)) (a0.length : Int)) ∧ (Int.tmod (IntKind.i64.wrap (y22 + s30)) (a0.length : Int)) < (a0.length : Int)) ((idle_Limits_Set.f k y21 (Int.tmod (IntKind.i64.wrap (y22 + s30)) (a0.length : Int)) (gd 0 a0 (Int.tmod (IntKind.i64.wrap (y22 + s30)) (a0.length : Int)))).bind fun s38 => (some (s35.1, s38.1, (!decide (s38.2 = 0)))))) else (some (s35.1, y21, true)))))).bind fun x33 => (if x33.2.2 = true then (some (.rt (some false))) else (law37_IdleLimitIsMinimum.l1 k a0 a1 x33.1 x33.2.1 (IntKind.i64.wrap (y22 + 1))))))) else (some (.go (y20, y21))))
def law37_IdleLimitIsMinimum.l2 : Nat → (List Int) → ((List (Int × Int)) × (List (Int × Int))) → Bool → Int → Option (Ex (Bool) (Option (Bool)))
  | 0, _, _, _, _ => none
  | k + 1, a0, x17s, y56, y57 => (if y57 < (a0.length : Int) then ((((idle_Limits_Limit.f k x17s.1).bind fun s67 => (ck ((0 : Int) ≤ y57 ∧ y57 < (a0.length : Int)) (if (gd 0 a0 y57) < s67 then (some (.rt (some (.rt (some false))))) else (if y56 = true then (some (.go true)) else ((idle_Limits_Limit.f k x17s.1).bind fun s74 => (some (.go (decide (s74 = (gd 0 a0 y57)))))))))) : Option (Ex (Bool) (Option (Ex (Bool) (Option (Bool)))))).bind fun x63 => x63.el (fun x63s => (law37_IdleLimitIsMinimum.l2 k a0 x17s x63s (IntKind.i64.wrap (y57 + 1)))) (fun o => o)) else (some (.go y56)))
def law37_IdleLimitIsMinimum.f (k : Nat) (a0 : (List Int)) (a1 : Int) : Option (Bool) :=
  (if 20 < (a0.length : Int) then ((law37_awake.f k).bind fun s5 => (some s5)) else ((idle_NewLimits.f k).bind fun s7 => ((idle_NewLimits.f k).bind fun s10 => (((law37_IdleLimitIsMinimum.l1 k a0 a1 s7 s10 0) : Option (Ex ((List (Int × Int)) × (List (Int × Int))) (Option (Bool)))).bind fun x17 => x17.el (fun x17s => (if (a0.length : Int) = 0 then ((idle_Limits_Limit.f k x17s.1).bind fun s47 => (if s47 = 1152921504606846976 then ((law37_awake.f k).bind fun s49 => (some s49)) else (some false))) else (((law37_IdleLimitIsMinimum.l2 k a0 x17s false 0) : Option (Ex (Bool) (Option (Bool)))).bind fun x53 => x53.el (fun x53s => (if x53s = true then ((idle_Limits_Limit.f k x17s.2).bind fun s78 => ((idle_Limits_Limit.f k x17s.1).bind fun s79 => (if s78 = s79 then ((law37_awake.f k).bind fun s81 => (some s81)) else (some false)))) else (some false))) (fun o => o)))) (fun o => o)))))

def ref37_NewLimits.f (k : Nat) : Option ((List Bool) × (List Int)) :=
  (some ((List.replicate 32 false), (List.replicate 32 0)))

def idle_Limits_Remove.f (k : Nat) (a0_requests : (List (Int × Int))) (a1 : Int) : Option ((List (Int × Int)) × Int) :=
  ((idle_isClient.f k a1).bind fun s3 => (if s3 = true then (if (mget a0_requests a1).isSome = true then (some ((mdel a0_requests a1), 0)) else (some (a0_requests, 6))) else (some (a0_requests, 1))))

def ref37_Limits_Remove.f (k : Nat) (a0_Has : (List Bool)) (a0_Value : (List Int)) (a1 : Int) : Option ((List Bool) × Int) :=
  (((if a1 < 0 then (some true) else (some (decide (32 ≤ a1))))).bind fun x3 => (if x3 = true then (some (a0_Has, 1)) else (ck ((0 : Int) ≤ a1 ∧ a1 < 32) (if (gd false a0_Has a1) = true then (some ((a0_Has.set a1.toNat false), 0)) else (some (a0_Has, 6))))))

def ref37_Limits_Set.f (k : Nat) (a0_Has : (List Bool)) (a0_Value : (List Int)) (a1 : Int) (a2 : Int) : Option ((List Bool) × (List Int) × Int) :=
  (((if a1 < 0 then (some true) else (some (decide (32 ≤ a1))))).bind fun x3 => (if x3 = true then (some (a0_Has, a0_Value, 1)) else (ck ((0 : Int) ≤ a1 ∧ a1 < 32) (some ((a0_Has.set a1.toNat true), (a0_Value.set a1.toNat a2), 0)))))

def ref37_Limits_Limit.l1 : Nat → (List Bool) → (List Int) → Int → Bool → Int → Option (Int)
  | 0, _, _, _, _, _ => none
  | k + 1, a0_Has, a0_Value, y6, y7, y8 => (if y8 < 32 then (((((ck ((0 : Int) ≤ y8 ∧ y8 < 32) (if (gd false a0_Has y8) = true then (if y7 = true then (some (true, (decide ((gd 0 a0_Value y8) < y6)))) else (some (false, true))) else (some (y7, false))))).bind fun x16 => (if x16.2 = true then (ck ((0 : Int) ≤ y8 ∧ y8 < 32) (some ((gd 0 a0_Value y8), true))) else (some (y6, x16.1))))).bind fun x14 => (ref37_Limits_Limit.l1 k a0_Has a0_Value x14.1 x14.2 (IntKind.i64.wrap (y8 + 1)))) else (some y6))
def ref37_Limits_Limit.f (k : Nat) (a0_Has : (List Bool)) (a0_Value : (List Int)) : Option (Int) :=
  (((ref37_Limits_Limit.l1 k a0_Has a0_Value 1152921504606846976 false 0)).bind fun x3 => (some x3))

def law37_IdleLimitsAgree.l1 : Nat → (List Request) → (List (Int × Int)) → (List Bool) → (List Int) → Int → Option (Ex (Unit) (Option (Bool)))
  | 0, _, _, _, _, _ => none
  | k + 1, a0, y18, y19, y20, y21 => (if y21 < (a0.length : Int) then (ck ((0 : Int) ≤ y21 ∧ y21 < (a0.length : Int)) ((help_Mod.f k ((gd Request.zero a0 y21).Client) 5).bind fun s32 => (((if ((gd Request.zero a0 y21).Raw) = true then (some ((gd Request.zero a0 y21).Client)) else (some s32))).bind fun x34 => (((if ((gd Request.zero a0 y21).Remove) = true then ((idle_Limits_Remove.f k y18 x34).bind fun s42 => ((ref37_Limits_Remove.f k y19 y20 x34).bind fun s43 => (some (s42.1, s43.1, y20, s42.2, s43.2)))) else ((idle_Limits_Set.f k y18 x34 ((gd Request.zero a0 y21).Latency)).bind fun s45 => ((ref37_Limits_Set.f k y19 y20 x34 ((gd Request.zero a0 y21).Latency)).bind fun s46 => (some (s45.1, s46.1, s46.2.1, s45.2, s46.2.2)))))).bind fun x39 => (((if x39.2.2.2.1 = x39.2.2.2.2 then ((idle_Limits_Limit.f k x39.1).bind fun s50 => ((ref37_Limits_Limit.f k x39.2.1 x39.2.2.1).bind fun s51 => (some (!decide (s50 = s51))))) else (some true))).bind fun x48 => (if x48 = true then (some (.rt (some false))) else (law37_IdleLimitsAgree.l1 k a0 x39.1 x39.2.1 x39.2.2.1 (IntKind.i64.wrap (y21 + 1))))))))) else (some (.go ())))
def law37_IdleLimitsAgree.f (k : Nat) (a0 : (List Request)) : Option (Bool) :=
  (if 60 < (a0.length : Int) then ((law37_awake.f k).bind fun s5 => (some s5)) else ((idle_NewLimits.f k).bind fun s7 => ((ref37_NewLimits.f k).bind fun s10 => (((law37_IdleLimitsAgree.l1 k a0 s7 s10.1 s10.2 0) : Option (Ex (Unit) (Option (Bool)))).bind fun x15 => x15.el (fun x15s => ((law37_awake.f k).bind fun s57 => (some s57))) (fun o => o)))))

def law37_States.l1 : Nat → (List IdleState) → (List IdleState) → Int → Int → Option ((List IdleState))
  | 0, _, _, _, _ => none
  | k + 1, a0, y10, y11, y12 => (if 0 ≤ y12 then (((if y12 < (a0.length : Int) then (ck ((0 : Int) ≤ y12 ∧ y12 < (a0.length : Int)) (some (IntKind.u64.wrap (y11 + (Int.tmod ((gd IdleState.zero a0 y12).Power) 50))))) else (some y11))).bind fun x20 => (ck ((0 : Int) ≤ y12 ∧ y12 < (y10.length : Int)) (law37_States.l1 k a0 (y10.set y12.toNat (⟨((gd IdleState.zero y10 y12).Latency), ((gd IdleState.zero y10 y12).Residency), x20⟩ : IdleState)) (IntKind.u64.wrap (x20 + 1)) (IntKind.i64.wrap (y12 - 1))))) else (some y10))
def law37_States.l2 : Nat → (List IdleState) → (List IdleState) → Int → Option ((List IdleState))
  | 0, _, _, _ => none
  | k + 1, a0, y32, y33 => (if y33 < (mx 1 (mn (a0.length : Int) 7)) then (ck ((0 : Int) ≤ (IntKind.i64.wrap (y33 - 1)) ∧ (IntKind.i64.wrap (y33 - 1)) < (y32.length : Int)) (ck ((0 : Int) ≤ y33 ∧ y33 < (a0.length : Int)) (ck ((0 : Int) ≤ y33 ∧ y33 < (y32.length : Int)) (ck ((0 : Int) ≤ (IntKind.i64.wrap (y33 - 1)) ∧ (IntKind.i64.wrap (y33 - 1)) < ((y32.set y33.toNat (⟨(IntKind.u64.wrap ((IntKind.u64.wrap (((gd IdleState.zero y32 (IntKind.i64.wrap (y33 - 1))).Latency) + 1)) + (Int.tmod ((gd IdleState.zero a0 y33).Latency) 40))), ((gd IdleState.zero y32 y33).Residency), ((gd IdleState.zero y32 y33).Power)⟩ : IdleState)).length : Int)) (ck ((0 : Int) ≤ y33 ∧ y33 < ((y32.set y33.toNat (⟨(IntKind.u64.wrap ((IntKind.u64.wrap (((gd IdleState.zero y32 (IntKind.i64.wrap (y33 - 1))).Latency) + 1)) + (Int.tmod ((gd IdleState.zero a0 y33).Latency) 40))), ((gd IdleState.zero y32 y33).Residency), ((gd IdleState.zero y32 y33).Power)⟩ : IdleState)).length : Int)) (law37_States.l2 k a0 ((y32.set y33.toNat (⟨(IntKind.u64.wrap ((IntKind.u64.wrap (((gd IdleState.zero y32 (IntKind.i64.wrap (y33 - 1))).Latency) + 1)) + (Int.tmod ((gd IdleState.zero a0 y33).Latency) 40))), ((gd IdleState.zero y32 y33).Residency), ((gd IdleState.zero y32 y33).Power)⟩ : IdleState)).set y33.toNat (⟨((gd IdleState.zero (y32.set y33.toNat (⟨(IntKind.u64.wrap ((IntKind.u64.wrap (((gd IdleState.zero y32 (IntKind.i64.wrap (y33 - 1))).Latency) + 1)) + (Int.tmod ((gd IdleState.zero a0 y33).Latency) 40))), ((gd IdleState.zero y32 y33).Residency), ((gd IdleState.zero y32 y33).Power)⟩ : IdleState)) y33).Latency), (IntKind.u64.wrap ((IntKind.u64.wrap (((gd IdleState.zero (y32.set y33.toNat (⟨(IntKind.u64.wrap ((IntKind.u64.wrap (((gd IdleState.zero y32 (IntKind.i64.wrap (y33 - 1))).Latency) + 1)) + (Int.tmod ((gd IdleState.zero a0 y33).Latency) 40))), ((gd IdleState.zero y32 y33).Residency), ((gd IdleState.zero y32 y33).Power)⟩ : IdleState)) (IntKind.i64.wrap (y33 - 1))).Residency) + 1)) + (Int.tmod ((gd IdleState.zero a0 y33).Residency) 200))), ((gd IdleState.zero (y32.set y33.toNat (⟨(IntKind.u64.wrap ((IntKind.u64.wrap (((gd IdleState.zero y32 (IntKind.i64.wrap (y33 - 1))).Latency) + 1)) + (Int.tmod ((gd IdleState.zero a0 y33).Latency) 40))), ((gd IdleState.zero y32 y33).Residency), ((gd IdleState.zero y32 y33).Power)⟩ : IdleState)) y33).Power)⟩ : IdleState)) (IntKind.i64.wrap (y33 + 1)))))))) else (some y32))
def law37_States.f (k : Nat) (a0 : (List IdleState)) : Option ((List IdleState)) :=
  (ck ((0 : Int) ≤ (mx 1 (mn (a0.length : Int) 7)) ∧ (mx 1 (mn (a0.length : Int) 7)) ≤ 1048576) (((law37_States.l1 k a0 (List.replicate (mx 1 (mn (a0.length : Int) 7)).toNat IdleState.zero) 0 (IntKind.i64.wrap ((mx 1 (mn (a0.length : Int) 7)) - 1)))).bind fun x7 => (((law37_States.l2 k a0 x7 1)).bind fun x29 => (some x29))))

def law37_IdleTighterIsShallower.f (k : Nat) (a0 : (List IdleState)) (a1 : Int) (a2 : Int) (a3 : Int) (a4 : Int) : Option (Bool) :=
  (if 20 < (a0.length : Int) then ((law37_awake.f k).bind fun s5 => (some s5)) else ((law37_States.f k a0).bind fun s7 => ((idle_NewLimits.f k).bind fun s10 => ((idle_Limits_Set.f k s10 3 (Int.tmod a3 300)).bind fun s15 => (if s15.2 = 0 then ((idle_Limits_Limit.f k s15.1).bind fun s19 => ((idle_Select.f k s7 (Int.tmod a1 1500) s19).bind fun s20 => (ck ((IntKind.u64.wrap ((Int.tmod a1 1500) + 1)) ≠ (0 : Int)) ((idle_Limits_Limit.f k s15.1).bind fun s24 => ((idle_Select.f k s7 (IntKind.u64.wrap ((Int.tmod a1 1500) - (Int.tmod a2 (IntKind.u64.wrap ((Int.tmod a1 1500) + 1))))) s24).bind fun s25 => ((idle_Limits_Set.f k s15.1 7 (Int.tmod a4 300)).bind fun s28 => (if s28.2 = 0 then ((idle_Limits_Limit.f k s28.1).bind fun s31 => ((idle_Select.f k s7 (Int.tmod a1 1500) s31).bind fun s32 => ((idle_Limits_Remove.f k s28.1 7).bind fun s35 => (if s35.2 = 0 then ((idle_Limits_Limit.f k s35.1).bind fun s38 => ((idle_Select.f k s7 (Int.tmod a1 1500) s38).bind fun s39 => (if s20.2 = 0 then (if s25.2 = 0 then (if s32.2 = 0 then (if s39.2 = 0 then (if s25.1 ≤ s20.1 then (if s32.1 ≤ s20.1 then (if s39.1 = s20.1 then ((law37_awake.f k).bind fun s48 => (some s48)) else (some false)) else (some false)) else (some false)) else (some false)) else (some false)) else (some false)) else (some false)))) else (some false))))) else (some false)))))))) else (some false))))))

def law37_IdleLimitIsMinimum.Pure : Prop := ∀ (a0 : (List Int)) (a1 : Int), (a0.length : Int) ≤ 9223372036854775807 → (∀ x ∈ a0, inK .u64 x) → inK .i64 a1 → ∃ k, law37_IdleLimitIsMinimum.f k a0 a1 = some true

def law37_IdleLimitsAgree.Pure : Prop := ∀ (a0 : (List Request)), (a0.length : Int) ≤ 9223372036854775807 → (∀ x ∈ a0, Request.wf x) → ∃ k, law37_IdleLimitsAgree.f k a0 = some true

def law37_IdleTighterIsShallower.Pure : Prop := ∀ (a0 : (List IdleState)) (a1 : Int) (a2 : Int) (a3 : Int) (a4 : Int), (a0.length : Int) ≤ 9223372036854775807 → (∀ x ∈ a0, IdleState.wf x) → inK .u64 a1 → inK .u64 a2 → inK .u64 a3 → inK .u64 a4 → ∃ k, law37_IdleTighterIsShallower.f k a0 a1 a2 a3 a4 = some true

end Go.Proofs.Ytmjfdknjloidoaa.X
