/- The pure side: types of values, functions with a number of rounds, each as the Go text computes. -/
import Derived.Test.YtkcmohmnmapnbaaSx10
import Derived.Test.YtkcmohmnmapnbaaSx12
import Derived.Test.YtkcmohmnmapnbaaSx13
namespace Go.Proofs.Ytkcmohmnmapnbaa.X
open Go Go.RowKit Go.Sx
set_option linter.unusedVariables false

structure Trip where
  Kind : Int
  Temperature : Int
  Hysteresis : Int
def Trip.zero : Trip := ⟨0, 0, 0⟩
structure Actor where
  Request : Int
  Min : Int
  Max : Int
def Actor.zero : Actor := ⟨0, 0, 0⟩
def Trip.wf (s : Trip) : Prop := inK .i64 s.Kind ∧ inK .i64 s.Temperature ∧ inK .i64 s.Hysteresis
def Actor.wf (s : Actor) : Prop := inK .u64 s.Request ∧ inK .u64 s.Min ∧ inK .u64 s.Max

def thermal_validActors_1.f (k : Nat) (a0 : Actor) : Option (Bool) :=
  (if a0.Max < a0.Min then (some true) else (some (decide (4294967296 < a0.Max))))

def slices_IndexFunc_api_Actor_api_Actor__validActors_1.l1 : Nat → (List Actor) → Int → Option (Ex (Unit) (Option (Int)))
  | 0, _, _ => none
  | k + 1, a0, y5 => (if y5 < (a0.length : Int) then (ck ((0 : Int) ≤ y5 ∧ y5 < (a0.length : Int)) ((thermal_validActors_1.f k (⟨((gd Actor.zero a0 y5).Request), ((gd Actor.zero a0 y5).Min), ((gd Actor.zero a0 y5).Max)⟩ : Actor)).bind fun s15 => (if s15 = true then (some (.rt (some y5))) else (slices_IndexFunc_api_Actor_api_Actor__validActors_1.l1 k a0 (IntKind.i64.wrap (y5 + 1)))))) else (some (.go ())))
def slices_IndexFunc_api_Actor_api_Actor__validActors_1.f (k : Nat) (a0 : (List Actor)) : Option (Int) :=
  (((slices_IndexFunc_api_Actor_api_Actor__validActors_1.l1 k a0 0) : Option (Ex (Unit) (Option (Int)))).bind fun x2 => x2.el (fun x2s => (some (-1))) (fun o => o))

def slices_ContainsFunc_api_Actor_api_Actor__validActors_1.f (k : Nat) (a0 : (List Actor)) : Option (Bool) :=
  ((slices_IndexFunc_api_Actor_api_Actor__validActors_1.f k a0).bind fun s2 => (some (decide (0 ≤ s2))))

def thermal_validActors.f (k : Nat) (a0 : (List Actor)) : Option (Bool) :=
  (if (a0.length : Int) ≤ 32 then ((slices_ContainsFunc_api_Actor_api_Actor__validActors_1.f k a0).bind fun s3 => (some (!s3))) else (some false))

def thermal_want.f (k : Nat) (a0 : Actor) : Option (Int) :=
  (some (mn (mx a0.Request a0.Min) a0.Max))

def thermal_share.f (k : Nat) (a0 : Actor) (a1 : Int) : Option (Int) :=
  ((thermal_want.f k a0).bind fun s4 => (some (mn (mx a1 a0.Min) s4)))

def thermal_total.l1 : Nat → (List Actor) → Int → Int → Int → Option (Int)
  | 0, _, _, _, _ => none
  | k + 1, a0, a1, y6, y7 => (if y7 < (a0.length : Int) then (ck ((0 : Int) ≤ y7 ∧ y7 < (a0.length : Int)) ((thermal_share.f k (⟨((gd Actor.zero a0 y7).Request), ((gd Actor.zero a0 y7).Min), ((gd Actor.zero a0 y7).Max)⟩ : Actor) a1).bind fun s18 => (thermal_total.l1 k a0 a1 (IntKind.u64.wrap (y6 + s18)) (IntKind.i64.wrap (y7 + 1))))) else (some y6))
def thermal_total.f (k : Nat) (a0 : (List Actor)) (a1 : Int) : Option (Int) :=
  (((thermal_total.l1 k a0 a1 0 0)).bind fun x3 => (some x3))

def thermal_Allocate.l1 : Nat → (List Actor) → Int → Int → Int → Option (Int)
  | 0, _, _, _, _ => none
  | k + 1, a1, a0, y19, y20 => (if (IntKind.u64.wrap (y19 + 1)) < y20 then ((thermal_total.f k a1 (IntKind.u64.wrap (Int.tdiv (IntKind.u64.wrap (y19 + y20)) 2))).bind fun s28 => (if s28 ≤ a0 then (thermal_Allocate.l1 k a1 a0 (IntKind.u64.wrap (Int.tdiv (IntKind.u64.wrap (y19 + y20)) 2)) y20) else (thermal_Allocate.l1 k a1 a0 y19 (IntKind.u64.wrap (Int.tdiv (IntKind.u64.wrap (y19 + y20)) 2))))) else (some y19))
def thermal_Allocate.l2 : Nat → (List Actor) → Int → Int → (List Int) → Int → Option ((List Int))
  | 0, _, _, _, _, _ => none
  | k + 1, a1, x17, y41, y42, y43 => (if y43 < (a1.length : Int) then (ck ((0 : Int) ≤ y43 ∧ y43 < (a1.length : Int)) ((thermal_share.f k (⟨((gd Actor.zero a1 y43).Request), ((gd Actor.zero a1 y43).Min), ((gd Actor.zero a1 y43).Max)⟩ : Actor) x17).bind fun s54 => (((((if 0 < y41 then (if ((gd Actor.zero a1 y43).Min) ≤ x17 then ((thermal_want.f k (⟨((gd Actor.zero a1 y43).Request), ((gd Actor.zero a1 y43).Min), ((gd Actor.zero a1 y43).Max)⟩ : Actor)).bind fun s60 => (some (decide (x17 < s60)))) else (some false)) else (some false))).bind fun x57 => (if x57 = true then (some ((IntKind.u64.wrap (y41 - 1)), (IntKind.u64.wrap (s54 + 1)))) else (some (y41, s54))))).bind fun x56 => (ck ((y42.length : Int) + ([x56.2].length : Int) ≤ 1048576) (thermal_Allocate.l2 k a1 x17 x56.1 (y42 ++ [x56.2]) (IntKind.i64.wrap (y43 + 1))))))) else (some y42))
def thermal_Allocate.f (k : Nat) (a0 : Int) (a1 : (List Actor)) : Option ((List Int) × Int) :=
  ((thermal_validActors.f k a1).bind fun s4 => (if s4 = true then ((thermal_total.f k a1 0).bind fun s7 => (if a0 < s7 then (some (([] : List Int), 19)) else ((((thermal_total.f k a1 4294967296).bind fun s13 => (if s13 ≤ a0 then (some 4294967296) else (some 0)))).bind fun x12 => (((thermal_Allocate.l1 k a1 a0 x12 4294967296)).bind fun x17 => ((thermal_total.f k a1 x17).bind fun s33 => (((thermal_Allocate.l2 k a1 x17 (IntKind.u64.wrap (a0 - s33)) [] 0)).bind fun x36 => (some (x36, 0)))))))) else (some (([] : List Int), 1))))

def thermal_CheckTrips.l1 : Nat → (List Trip) → Int → Option (Ex (Unit) (Option (Int)))
  | 0, _, _ => none
  | k + 1, a0, y9 => (if y9 < (a0.length : Int) then (ck ((0 : Int) ≤ y9 ∧ y9 < (a0.length : Int)) (((if ((gd Trip.zero a0 y9).Kind) < 1 then (some true) else (if 3 < ((gd Trip.zero a0 y9).Kind) then (some true) else (if ((gd Trip.zero a0 y9).Temperature) < (-67108864) then (some true) else (if 67108864 < ((gd Trip.zero a0 y9).Temperature) then (some true) else (if ((gd Trip.zero a0 y9).Hysteresis) < 0 then (some true) else (some (decide (16777216 < ((gd Trip.zero a0 y9).Hysteresis)))))))))).bind fun x20 => (if x20 = true then (some (.rt (some 1))) else (thermal_CheckTrips.l1 k a0 (IntKind.i64.wrap (y9 + 1)))))) else (some (.go ())))
def thermal_CheckTrips.f (k : Nat) (a0 : (List Trip)) : Option (Int) :=
  (if 12 < (a0.length : Int) then (some 1) else (((thermal_CheckTrips.l1 k a0 0) : Option (Ex (Unit) (Option (Int)))).bind fun x6 => x6.el (fun x6s => (some 0)) (fun o => o)))

def slices_Clone_api_Trip_api_Trip.f (k : Nat) (a0 : (List Trip)) : Option ((List Trip)) :=
  (ck ((([] : List Trip).length : Int) + (a0.length : Int) ≤ 1048576) (some (([] : List Trip) ++ a0)))

def thermal_NewZone.f (k : Nat) (a0 : (List Trip)) (a1 : Int) : Option ((Option ((List Trip) × (List Bool) × Int × Int)) × Int) :=
  ((((thermal_CheckTrips.f k a0).bind fun s4 => (if s4 = 0 then (if a1 < 0 then (some true) else (some (decide (64 < a1)))) else (some true)))).bind fun x3 => (if x3 = true then (some (none, 1)) else ((slices_Clone_api_Trip_api_Trip.f k a0).bind fun s13 => (ck ((0 : Int) ≤ (a0.length : Int) ∧ (a0.length : Int) ≤ 1048576) (some ((some (s13, (List.replicate (a0.length : Int).toNat false), a1, 0)), 0))))))

def help_Equal_uint64.l1 : Nat → (List Int) → (List Int) → Int → Option (Ex (Unit) (Option (Bool)))
  | 0, _, _, _ => none
  | k + 1, a0, a1, y8 => (if y8 < (a0.length : Int) then (ck ((0 : Int) ≤ y8 ∧ y8 < (a0.length : Int)) (ck ((0 : Int) ≤ y8 ∧ y8 < (a1.length : Int)) (if (gd 0 a0 y8) = (gd 0 a1 y8) then (help_Equal_uint64.l1 k a0 a1 (IntKind.i64.wrap (y8 + 1))) else (some (.rt (some false)))))) else (some (.go ())))
def help_Equal_uint64.f (k : Nat) (a0 : (List Int)) (a1 : (List Int)) : Option (Bool) :=
  (if (a0.length : Int) = (a1.length : Int) then (((help_Equal_uint64.l1 k a0 a1 0) : Option (Ex (Unit) (Option (Bool)))).bind fun x5 => x5.el (fun x5s => (some true)) (fun o => o)) else (some false))

def thermal_Zone_any.l1 : Nat → (List Trip) → Int → (List Bool) → Int → Option (Ex (Unit) (Option (Bool)))
  | 0, _, _, _, _ => none
  | k + 1, a0_trips, a1, a0_active, y5 => (if y5 < (a0_trips.length : Int) then (ck ((0 : Int) ≤ y5 ∧ y5 < (a0_trips.length : Int)) (((if ((gd Trip.zero a0_trips y5).Kind) = a1 then (ck ((0 : Int) ≤ y5 ∧ y5 < (a0_active.length : Int)) (some (gd false a0_active y5))) else (some false))).bind fun x16 => (if x16 = true then (some (.rt (some true))) else (thermal_Zone_any.l1 k a0_trips a1 a0_active (IntKind.i64.wrap (y5 + 1)))))) else (some (.go ())))
def thermal_Zone_any.f (k : Nat) (a0_trips : (List Trip)) (a0_active : (List Bool)) (a0_levels : Int) (a0_level : Int) (a1 : Int) : Option (Bool) :=
  (((thermal_Zone_any.l1 k a0_trips a1 a0_active 0) : Option (Ex (Unit) (Option (Bool)))).bind fun x2 => x2.el (fun x2s => (some false)) (fun o => o))

def thermal_Zone_Update.l1 : Nat → (List Trip) → Int → (List Bool) → Int → Option ((List Bool))
  | 0, _, _, _, _ => none
  | k + 1, a0_trips, a1, y12, y13 => (if y13 < (a0_trips.length : Int) then (((ck ((0 : Int) ≤ y13 ∧ y13 < (a0_trips.length : Int)) (if ((gd Trip.zero a0_trips y13).Temperature) ≤ a1 then (ck ((0 : Int) ≤ y13 ∧ y13 < (y12.length : Int)) (some (y12.set y13.toNat true))) else (if a1 < (IntKind.i64.wrap (((gd Trip.zero a0_trips y13).Temperature) - ((gd Trip.zero a0_trips y13).Hysteresis))) then (ck ((0 : Int) ≤ y13 ∧ y13 < (y12.length : Int)) (some (y12.set y13.toNat false))) else (some y12))))).bind fun x19 => (thermal_Zone_Update.l1 k a0_trips a1 x19 (IntKind.i64.wrap (y13 + 1)))) else (some y12))
def thermal_Zone_Update.f (k : Nat) (a0_trips : (List Trip)) (a0_active : (List Bool)) (a0_levels : Int) (a0_level : Int) (a1 : Int) : Option (Int × (List Bool) × Int × Bool × Int) :=
  (((if a1 < (-134217728) then (some true) else (some (decide (134217728 < a1))))).bind fun x3 => (if x3 = true then (some (a0_level, a0_active, 0, false, 1)) else (((thermal_Zone_Update.l1 k a0_trips a1 a0_active 0)).bind fun x9 => ((((thermal_Zone_any.f k a0_trips x9 a0_levels a0_level 2).bind fun s35 => (if s35 = true then (some (mn (IntKind.i64.wrap (a0_level + 1)) a0_levels)) else (some (mx (IntKind.i64.wrap (a0_level - 1)) 0))))).bind fun x34 => ((thermal_Zone_any.f k a0_trips x9 a0_levels x34 3).bind fun s41 => (some (x34, x9, x34, s41, 0)))))))

def law39_awake.f (k : Nat) : Option (Bool) :=
  ((thermal_Allocate.f k 10 [(⟨9, 0, 9⟩ : Actor), (⟨1, 0, 9⟩ : Actor), (⟨9, 2, 9⟩ : Actor)]).bind fun s3 => ((thermal_NewZone.f k [(⟨2, 50, 5⟩ : Trip)] 3).bind fun s8 => s8.1.elim (((if s3.2 = 0 then (if s8.2 = 0 then (some ()) else (some ())) else (some ()))).bind fun x12 => (some false)) (fun c9 => (((if s3.2 = 0 then (if s8.2 = 0 then ((help_Equal_uint64.f k s3.1 [5, 1, 4]).bind fun s28 => (some (!s28))) else (some true)) else (some true))).bind fun x24 => (if x24 = true then (some false) else ((thermal_Zone_Update.f k c9.1 c9.2.1 c9.2.2.1 c9.2.2.2 50).bind fun s34 => ((thermal_Zone_Update.f k c9.1 s34.2.1 c9.2.2.1 s34.1 45).bind fun s37 => ((thermal_Zone_Update.f k c9.1 s37.2.1 c9.2.2.1 s37.1 44).bind fun s40 => (if s34.2.2.2.2 = 0 then (if s37.2.2.2.2 = 0 then (if s40.2.2.2.2 = 0 then (if s34.2.2.1 = 1 then (if s37.2.2.1 = 2 then (if s40.2.2.1 = 1 then ((thermal_CheckTrips.f k [(⟨0, 0, 0⟩ : Trip)]).bind fun s50 => (some (decide (s50 = 1)))) else (some false)) else (some false)) else (some false)) else (some false)) else (some false)) else (some false))))))))))

def help_Mod.f (k : Nat) (a0 : Int) (a1 : Int) : Option (Int) :=
  (ck ((IntKind.u64.wrap a1) ≠ (0 : Int)) (some (IntKind.i64.wrap (Int.tmod (IntKind.u64.wrap a0) (IntKind.u64.wrap a1)))))

def law39_Trips.l1 : Nat → (List Trip) → (List Trip) → Int → Option ((List Trip))
  | 0, _, _, _ => none
  | k + 1, a0, y8, y9 => (((if y9 < (a0.length : Int) then (some (decide (y9 < 6))) else (some false))).bind fun x13 => (if x13 = true then (ck ((0 : Int) ≤ y9 ∧ y9 < (a0.length : Int)) ((help_Mod.f k ((gd Trip.zero a0 y9).Kind) 3).bind fun s21 => (ck ((y8.length : Int) + ([(⟨(IntKind.i64.wrap (1 + s21)), (IntKind.i64.wrap ((IntKind.i64.wrap (Int.tmod (IntKind.u64.wrap ((gd Trip.zero a0 y9).Temperature)) 101)) - 50)), (IntKind.i64.wrap (Int.tmod (IntKind.u64.wrap ((gd Trip.zero a0 y9).Hysteresis)) 20))⟩ : Trip)].length : Int) ≤ 1048576) (law39_Trips.l1 k a0 (y8 ++ [(⟨(IntKind.i64.wrap (1 + s21)), (IntKind.i64.wrap ((IntKind.i64.wrap (Int.tmod (IntKind.u64.wrap ((gd Trip.zero a0 y9).Temperature)) 101)) - 50)), (IntKind.i64.wrap (Int.tmod (IntKind.u64.wrap ((gd Trip.zero a0 y9).Hysteresis)) 20))⟩ : Trip)]) (IntKind.i64.wrap (y9 + 1)))))) else (some y8)))
def law39_Trips.f (k : Nat) (a0 : (List Trip)) : Option ((List Trip)) :=
  (((law39_Trips.l1 k a0 [] 0)).bind fun x3 => (some x3))

def ref39_CheckTrips.l1 : Nat → (List Trip) → Int → Option (Ex (Unit) (Option (Int)))
  | 0, _, _ => none
  | k + 1, a0, y9 => (if y9 < (a0.length : Int) then (ck ((0 : Int) ≤ y9 ∧ y9 < (a0.length : Int)) (((if ((gd Trip.zero a0 y9).Kind) < 1 then (some true) else (if 3 < ((gd Trip.zero a0 y9).Kind) then (some true) else (if ((gd Trip.zero a0 y9).Temperature) < (-67108864) then (some true) else (if 67108864 < ((gd Trip.zero a0 y9).Temperature) then (some true) else (if ((gd Trip.zero a0 y9).Hysteresis) < 0 then (some true) else (some (decide (16777216 < ((gd Trip.zero a0 y9).Hysteresis)))))))))).bind fun x20 => (if x20 = true then (some (.rt (some 1))) else (ref39_CheckTrips.l1 k a0 (IntKind.i64.wrap (y9 + 1)))))) else (some (.go ())))
def ref39_CheckTrips.f (k : Nat) (a0 : (List Trip)) : Option (Int) :=
  (if 12 < (a0.length : Int) then (some 1) else (((ref39_CheckTrips.l1 k a0 0) : Option (Ex (Unit) (Option (Int)))).bind fun x6 => x6.el (fun x6s => (some 0)) (fun o => o)))

def ref39_NewZone.f (k : Nat) (a0 : (List Trip)) (a1 : Int) : Option ((Option ((List Bool) × Int × Int)) × Int) :=
  ((ref39_CheckTrips.f k a0).bind fun s3 => (if s3 = 0 then (((if a1 < 0 then (some true) else (some (decide (64 < a1))))).bind fun x8 => (if x8 = true then (some (none, 1)) else (ck ((0 : Int) ≤ (a0.length : Int) ∧ (a0.length : Int) ≤ 1048576) (some ((some ((List.replicate (a0.length : Int).toNat false), a1, 0)), 0))))) else (some (none, s3))))

def law39_ThermalTripsAgree.f (k : Nat) (a0 : (List Trip)) (a1 : Int) (a2 : Int) (a3 : Trip) : Option (Bool) :=
  (if 20 < (a0.length : Int) then ((law39_awake.f k).bind fun s6 => (some s6)) else ((law39_Trips.f k a0).bind fun s8 => (((if 0 < (s8.length : Int) then ((help_Mod.f k a3.Kind 5).bind fun s14 => ((help_Mod.f k a2 (s8.length : Int)).bind fun s16 => (ck ((0 : Int) ≤ s16 ∧ s16 < (s8.length : Int)) (some (s8.set s16.toNat (⟨s14, a3.Temperature, a3.Hysteresis⟩ : Trip)))))) else (some s8))).bind fun x11 => ((thermal_NewZone.f k a0 a1).bind fun s20 => s20.1.elim ((((ref39_NewZone.f k a0 a1).bind fun s24 => s24.1.elim (some s24.2) (fun c25 => (some s24.2)))).bind fun x23 => ((help_Mod.f k a1 70).bind fun s31 => ((thermal_NewZone.f k x11 (IntKind.i64.wrap (s31 - 2))).bind fun s32 => s32.1.elim ((((help_Mod.f k a1 70).bind fun s36 => ((ref39_NewZone.f k x11 (IntKind.i64.wrap (s36 - 2))).bind fun s37 => s37.1.elim (some s37.2) (fun c38 => (some s37.2))))).bind fun x35 => ((thermal_CheckTrips.f k a0).bind fun s43 => ((ref39_CheckTrips.f k a0).bind fun s44 => (if s43 = s44 then ((thermal_CheckTrips.f k x11).bind fun s46 => ((ref39_CheckTrips.f k x11).bind fun s47 => (if s46 = s47 then (if s20.2 = x23 then (if s32.2 = x35 then (if (true == (!decide (s20.2 = 0))) = true then (if (true == (!decide (s32.2 = 0))) = true then ((law39_awake.f k).bind fun s53 => (some s53)) else (some false)) else (some false)) else (some false)) else (some false)) else (some false)))) else (some false))))) (fun c33 => ((((help_Mod.f k a1 70).bind fun s66 => ((ref39_NewZone.f k x11 (IntKind.i64.wrap (s66 - 2))).bind fun s67 => s67.1.elim (some s67.2) (fun c68 => (some s67.2))))).bind fun x65 => ((thermal_CheckTrips.f k a0).bind fun s73 => ((ref39_CheckTrips.f k a0).bind fun s74 => (if s73 = s74 then ((thermal_CheckTrips.f k x11).bind fun s76 => ((ref39_CheckTrips.f k x11).bind fun s77 => (if s76 = s77 then (if s20.2 = x23 then (if s32.2 = x65 then (if (true == (!decide (s20.2 = 0))) = true then (if (false == (!decide (s32.2 = 0))) = true then ((law39_awake.f k).bind fun s83 => (some s83)) else (some false)) else (some false)) else (some false)) else (some false)) else (some false)))) else (some false))))))))) (fun c21 => ((((ref39_NewZone.f k a0 a1).bind fun s96 => s96.1.elim (some s96.2) (fun c97 => (some s96.2)))).bind fun x95 => ((help_Mod.f k a1 70).bind fun s103 => ((thermal_NewZone.f k x11 (IntKind.i64.wrap (s103 - 2))).bind fun s104 => s104.1.elim ((((help_Mod.f k a1 70).bind fun s108 => ((ref39_NewZone.f k x11 (IntKind.i64.wrap (s108 - 2))).bind fun s109 => s109.1.elim (some s109.2) (fun c110 => (some s109.2))))).bind fun x107 => ((thermal_CheckTrips.f k a0).bind fun s115 => ((ref39_CheckTrips.f k a0).bind fun s116 => (if s115 = s116 then ((thermal_CheckTrips.f k x11).bind fun s118 => ((ref39_CheckTrips.f k x11).bind fun s119 => (if s118 = s119 then (if s20.2 = x95 then (if s104.2 = x107 then (if (false == (!decide (s20.2 = 0))) = true then (if (true == (!decide (s104.2 = 0))) = true then ((law39_awake.f k).bind fun s125 => (some s125)) else (some false)) else (some false)) else (some false)) else (some false)) else (some false)))) else (some false))))) (fun c105 => ((((help_Mod.f k a1 70).bind fun s138 => ((ref39_NewZone.f k x11 (IntKind.i64.wrap (s138 - 2))).bind fun s139 => s139.1.elim (some s139.2) (fun c140 => (some s139.2))))).bind fun x137 => ((thermal_CheckTrips.f k a0).bind fun s145 => ((ref39_CheckTrips.f k a0).bind fun s146 => (if s145 = s146 then ((thermal_CheckTrips.f k x11).bind fun s148 => ((ref39_CheckTrips.f k x11).bind fun s149 => (if s148 = s149 then (if s20.2 = x95 then (if s104.2 = x137 then (if (false == (!decide (s20.2 = 0))) = true then (if (false == (!decide (s104.2 = 0))) = true then ((law39_awake.f k).bind fun s155 => (some s155)) else (some false)) else (some false)) else (some false)) else (some false)) else (some false)))) else (some false))))))))))))))

def law39_Actors.l1 : Nat → (List Actor) → (List Actor) → Int → Option ((List Actor))
  | 0, _, _, _ => none
  | k + 1, a0, y8, y9 => (((if y9 < (a0.length : Int) then (some (decide (y9 < 8))) else (some false))).bind fun x13 => (if x13 = true then (ck ((0 : Int) ≤ y9 ∧ y9 < (a0.length : Int)) (ck ((y8.length : Int) + ([(⟨(Int.tmod ((gd Actor.zero a0 y9).Request) 40), (Int.tmod ((gd Actor.zero a0 y9).Min) 10), (IntKind.u64.wrap ((Int.tmod ((gd Actor.zero a0 y9).Min) 10) + (Int.tmod ((gd Actor.zero a0 y9).Max) 30)))⟩ : Actor)].length : Int) ≤ 1048576) (law39_Actors.l1 k a0 (y8 ++ [(⟨(Int.tmod ((gd Actor.zero a0 y9).Request) 40), (Int.tmod ((gd Actor.zero a0 y9).Min) 10), (IntKind.u64.wrap ((Int.tmod ((gd Actor.zero a0 y9).Min) 10) + (Int.tmod ((gd Actor.zero a0 y9).Max) 30)))⟩ : Actor)]) (IntKind.i64.wrap (y9 + 1))))) else (some y8)))
def law39_Actors.f (k : Nat) (a0 : (List Actor)) : Option ((List Actor)) :=
  (((law39_Actors.l1 k a0 [] 0)).bind fun x3 => (some x3))

def ref39_valid.l1 : Nat → (List Actor) → Int → Option (Ex (Unit) (Option (Bool)))
  | 0, _, _ => none
  | k + 1, a0, y9 => (if y9 < (a0.length : Int) then (((ck ((0 : Int) ≤ y9 ∧ y9 < (a0.length : Int)) (if ((gd Actor.zero a0 y9).Max) < ((gd Actor.zero a0 y9).Min) then (some true) else (some (decide (4294967296 < ((gd Actor.zero a0 y9).Max))))))).bind fun x17 => (if x17 = true then (some (.rt (some false))) else (ref39_valid.l1 k a0 (IntKind.i64.wrap (y9 + 1))))) else (some (.go ())))
def ref39_valid.f (k : Nat) (a0 : (List Actor)) : Option (Bool) :=
  (if 32 < (a0.length : Int) then (some false) else (((ref39_valid.l1 k a0 0) : Option (Ex (Unit) (Option (Bool)))).bind fun x6 => x6.el (fun x6s => (some true)) (fun o => o)))

def ref39_want.f (k : Nat) (a0 : Actor) : Option (Int) :=
  (some (mn (mx a0.Request a0.Min) a0.Max))

def ref39_at.l1 : Nat → (List Actor) → Int → (List Int) → Int → Int → Option ((List Int) × Int)
  | 0, _, _, _, _, _ => none
  | k + 1, a0, a1, y9, y10, y11 => (if y11 < (a0.length : Int) then (ck ((0 : Int) ≤ y11 ∧ y11 < (a0.length : Int)) ((ref39_want.f k (⟨((gd Actor.zero a0 y11).Request), ((gd Actor.zero a0 y11).Min), ((gd Actor.zero a0 y11).Max)⟩ : Actor)).bind fun s21 => (ck ((y9.length : Int) + ([(mn (mx a1 ((gd Actor.zero a0 y11).Min)) s21)].length : Int) ≤ 1048576) (ref39_at.l1 k a0 a1 (y9 ++ [(mn (mx a1 ((gd Actor.zero a0 y11).Min)) s21)]) (IntKind.u64.wrap (y10 + (mn (mx a1 ((gd Actor.zero a0 y11).Min)) s21))) (IntKind.i64.wrap (y11 + 1)))))) else (some (y9, y10)))
def ref39_at.f (k : Nat) (a0 : (List Actor)) (a1 : Int) : Option ((List Int) × Int) :=
  (((ref39_at.l1 k a0 a1 [] 0 0)).bind fun x4 => (some (x4.1, x4.2)))

def ref39_Allocate.l1 : Nat → (List Actor) → Int → Int → Int → Option (Int)
  | 0, _, _, _, _ => none
  | k + 1, a1, a0, y23, y24 => (if 1 < (IntKind.u64.wrap (y24 - y23)) then ((ref39_at.f k a1 (IntKind.u64.wrap (Int.tdiv (IntKind.u64.wrap (y23 + y24)) 2))).bind fun s32 => (if s32.2 ≤ a0 then (ref39_Allocate.l1 k a1 a0 (IntKind.u64.wrap (Int.tdiv (IntKind.u64.wrap (y23 + y24)) 2)) y24) else (ref39_Allocate.l1 k a1 a0 y23 (IntKind.u64.wrap (Int.tdiv (IntKind.u64.wrap (y23 + y24)) 2))))) else (some y23))
def ref39_Allocate.l2 : Nat → (List Actor) → Int → Int → (List Int) → Int → Int → Option ((List Int))
  | 0, _, _, _, _, _, _ => none
  | k + 1, a1, a0, x21, y45, y46, y47 => (((if y47 < (a1.length : Int) then (some (decide (y46 < a0))) else (some false))).bind fun x51 => (if x51 = true then (((((ck ((0 : Int) ≤ y47 ∧ y47 < (a1.length : Int)) (if ((gd Actor.zero a1 y47).Min) ≤ x21 then ((ref39_want.f k (⟨((gd Actor.zero a1 y47).Request), ((gd Actor.zero a1 y47).Min), ((gd Actor.zero a1 y47).Max)⟩ : Actor)).bind fun s61 => (some (decide (x21 < s61)))) else (some false)))).bind fun x58 => (if x58 = true then (ck ((0 : Int) ≤ y47 ∧ y47 < (y45.length : Int)) (some ((y45.set y47.toNat (IntKind.u64.wrap ((gd 0 y45 y47) + 1))), (IntKind.u64.wrap (y46 + 1))))) else (some (y45, y46))))).bind fun x56 => (ref39_Allocate.l2 k a1 a0 x21 x56.1 x56.2 (IntKind.i64.wrap (y47 + 1)))) else (some y45)))
def ref39_Allocate.f (k : Nat) (a0 : Int) (a1 : (List Actor)) : Option ((List Int) × Int) :=
  ((ref39_valid.f k a1).bind fun s3 => (if s3 = true then ((ref39_at.f k a1 0).bind fun s7 => (if a0 < s7.2 then (some (([] : List Int), 19)) else ((ref39_at.f k a1 4294967296).bind fun s13 => (if s13.2 ≤ a0 then (some (s13.1, 0)) else (((ref39_Allocate.l1 k a1 a0 0 4294967296)).bind fun x21 => ((ref39_at.f k a1 x21).bind fun s39 => (((ref39_Allocate.l2 k a1 a0 x21 s39.1 s39.2 0)).bind fun x42 => (some (x42, 0))))))))) else (some (([] : List Int), 1))))

def law39_ThermalAllocateAgrees.f (k : Nat) (a0 : Int) (a1 : (List Actor)) : Option (Bool) :=
  (if 40 < (a1.length : Int) then ((law39_awake.f k).bind fun s5 => (some s5)) else ((law39_Actors.f k a1).bind fun s7 => ((thermal_Allocate.f k a0 a1).bind fun s10 => ((ref39_Allocate.f k a0 a1).bind fun s13 => ((thermal_Allocate.f k (Int.tmod a0 200) s7).bind fun s16 => ((ref39_Allocate.f k (Int.tmod a0 200) s7).bind fun s19 => ((thermal_Allocate.f k a0 s7).bind fun s22 => ((ref39_Allocate.f k a0 s7).bind fun s25 => (if s10.2 = s13.2 then (if s16.2 = s19.2 then (if s22.2 = s25.2 then ((help_Equal_uint64.f k s10.1 s13.1).bind fun s31 => (if s31 = true then ((help_Equal_uint64.f k s16.1 s19.1).bind fun s33 => (if s33 = true then ((help_Equal_uint64.f k s22.1 s25.1).bind fun s35 => (if s35 = true then ((law39_awake.f k).bind fun s37 => (some s37)) else (some false))) else (some false))) else (some false))) else (some false)) else (some false)) else (some false))))))))))

def law39_ThermalMoreBudgetHelps.l1 : Nat → (List Actor) → ((List Int) × Int) → ((List Int) × Int) → Int → Option (Ex (Unit) (Option (Bool)))
  | 0, _, _, _, _ => none
  | k + 1, s7, s14, s11, y32 => (if y32 < (s7.length : Int) then (ck ((0 : Int) ≤ y32 ∧ y32 < (s14.1.length : Int)) (ck ((0 : Int) ≤ y32 ∧ y32 < (s11.1.length : Int)) (if (gd 0 s14.1 y32) < (gd 0 s11.1 y32) then (some (.rt (some false))) else (law39_ThermalMoreBudgetHelps.l1 k s7 s14 s11 (IntKind.i64.wrap (y32 + 1)))))) else (some (.go ())))
def law39_ThermalMoreBudgetHelps.f (k : Nat) (a0 : Int) (a1 : Int) (a2 : (List Actor)) : Option (Bool) :=
  (if 40 < (a2.length : Int) then ((law39_awake.f k).bind fun s5 => (some s5)) else ((law39_Actors.f k a2).bind fun s7 => ((thermal_Allocate.f k (Int.tmod a0 200) s7).bind fun s11 => ((thermal_Allocate.f k (IntKind.u64.wrap ((Int.tmod a0 200) + (Int.tmod a1 20))) s7).bind fun s14 => (if s11.2 = 0 then (((if s14.2 = 0 then (if (s11.1.length : Int) = (s7.length : Int) then (some (!decide ((s14.1.length : Int) = (s7.length : Int)))) else (some true)) else (some true))).bind fun x21 => (if x21 = true then (some false) else (((law39_ThermalMoreBudgetHelps.l1 k s7 s14 s11 0) : Option (Ex (Unit) (Option (Bool)))).bind fun x29 => x29.el (fun x29s => ((law39_awake.f k).bind fun s47 => (some s47))) (fun o => o)))) else (if s11.2 = 19 then ((law39_awake.f k).bind fun s50 => (some s50)) else (some false)))))))

def law39_degree.f (k : Nat) (a0 : Int) (a1 : Int) : Option (Int) :=
  (if (Int.tmod a1 8) = 7 then (some a0) else (some (IntKind.i64.wrap ((IntKind.i64.wrap (Int.tmod (IntKind.u64.wrap a0) 141)) - 80))))

def ref39_Zone_Update.l1 : Nat → (List Trip) → Int → (List Bool) → Bool → Bool → Int → Option ((List Bool) × Bool × Bool)
  | 0, _, _, _, _, _, _ => none
  | k + 1, a0_T, a1, y13, y14, y15, y16 => (if y16 < (a0_T.length : Int) then (((((ck ((0 : Int) ≤ y16 ∧ y16 < (a0_T.length : Int)) (if ((gd Trip.zero a0_T y16).Temperature) ≤ a1 then (ck ((0 : Int) ≤ y16 ∧ y16 < (y13.length : Int)) (some (y13.set y16.toNat true))) else (if a1 < (IntKind.i64.wrap (((gd Trip.zero a0_T y16).Temperature) - ((gd Trip.zero a0_T y16).Hysteresis))) then (ck ((0 : Int) ≤ y16 ∧ y16 < (y13.length : Int)) (some (y13.set y16.toNat false))) else (some y13))))).bind fun x24 => (((if y14 = true then (some true) else (ck ((0 : Int) ≤ y16 ∧ y16 < (x24.length : Int)) (if (gd false x24 y16) = true then (ck ((0 : Int) ≤ y16 ∧ y16 < (a0_T.length : Int)) (some (decide (((gd Trip.zero a0_T y16).Kind) = 2)))) else (some false))))).bind fun x35 => (if y15 = true then (some (x24, x35, true)) else (ck ((0 : Int) ≤ y16 ∧ y16 < (x24.length : Int)) (if (gd false x24 y16) = true then (ck ((0 : Int) ≤ y16 ∧ y16 < (a0_T.length : Int)) (some (x24, x35, (decide (((gd Trip.zero a0_T y16).Kind) = 3))))) else (some (x24, x35, false)))))))).bind fun x22 => (ref39_Zone_Update.l1 k a0_T a1 x22.1 x22.2.1 x22.2.2 (IntKind.i64.wrap (y16 + 1)))) else (some (y13, y14, y15)))
def ref39_Zone_Update.f (k : Nat) (a0_T : (List Trip)) (a0_On : (List Bool)) (a0_N : Int) (a0_At : Int) (a1 : Int) : Option (Int × (List Bool) × Int × Bool × Int) :=
  (((if a1 < (-134217728) then (some true) else (some (decide (134217728 < a1))))).bind fun x3 => (if x3 = true then (some (a0_At, a0_On, 0, false, 1)) else (((ref39_Zone_Update.l1 k a0_T a1 a0_On false false 0)).bind fun x10 => (((if x10.2.1 = true then (some (mn (IntKind.i64.wrap (a0_At + 1)) a0_N)) else (some (mx (IntKind.i64.wrap (a0_At - 1)) 0)))).bind fun x51 => (some (x51, x10.1, x51, x10.2.2, 0))))))

def thermal_Zone_Level.f (k : Nat) (a0_trips : (List Trip)) (a0_active : (List Bool)) (a0_levels : Int) (a0_level : Int) : Option (Int) :=
  (some a0_level)

def ref39_Zone_Level.f (k : Nat) (a0_T : (List Trip)) (a0_On : (List Bool)) (a0_N : Int) (a0_At : Int) : Option (Int) :=
  (some a0_At)

def slices_Clone_bool_bool.f (k : Nat) (a0 : (List Bool)) : Option ((List Bool)) :=
  (ck ((([] : List Bool).length : Int) + (a0.length : Int) ≤ 1048576) (some (([] : List Bool) ++ a0)))

def thermal_Zone_Active.f (k : Nat) (a0_trips : (List Trip)) (a0_active : (List Bool)) (a0_levels : Int) (a0_level : Int) : Option ((List Bool)) :=
  ((slices_Clone_bool_bool.f k a0_active).bind fun s2 => (some s2))

def ref39_Zone_Active.f (k : Nat) (a0_T : (List Trip)) (a0_On : (List Bool)) (a0_N : Int) (a0_At : Int) : Option ((List Bool)) :=
  (ck ((([] : List Bool).length : Int) + (a0_On.length : Int) ≤ 1048576) (some (([] : List Bool) ++ a0_On)))

def help_Equal_bool.l1 : Nat → (List Bool) → (List Bool) → Int → Option (Ex (Unit) (Option (Bool)))
  | 0, _, _, _ => none
  | k + 1, a0, a1, y8 => (if y8 < (a0.length : Int) then (ck ((0 : Int) ≤ y8 ∧ y8 < (a0.length : Int)) (ck ((0 : Int) ≤ y8 ∧ y8 < (a1.length : Int)) (if ((gd false a0 y8) == (gd false a1 y8)) = true then (help_Equal_bool.l1 k a0 a1 (IntKind.i64.wrap (y8 + 1))) else (some (.rt (some false)))))) else (some (.go ())))
def help_Equal_bool.f (k : Nat) (a0 : (List Bool)) (a1 : (List Bool)) : Option (Bool) :=
  (if (a0.length : Int) = (a1.length : Int) then (((help_Equal_bool.l1 k a0 a1 0) : Option (Ex (Unit) (Option (Bool)))).bind fun x5 => x5.el (fun x5s => (some true)) (fun o => o)) else (some false))

def law39_ThermalZoneAgrees.l1 : Nat → (List Int) → ((List Trip) × (List Bool) × Int × Int) → Option (Unit)
  | 0, _, _ => none
  | k + 1, a2, c16 => (if 0 < (a2.length : Int) then (ck ((0 : Int) ≤ 0 ∧ 0 < (a2.length : Int)) ((law39_degree.f k (gd 0 a2 0) 0).bind fun s69 => ((thermal_Zone_Update.f k c16.1 c16.2.1 c16.2.2.1 c16.2.2.2 s69).bind fun s71 => none))) else (some ()))
def law39_ThermalZoneAgrees.l2 : Nat → (List Int) → ((List Trip) × (List Bool) × Int × Int) → (List Trip) → ((List Bool) × Int × Int) → (List Bool) → Int → (List Bool) → Int → Int → Option (Ex (Unit) (Option (Bool)))
  | 0, _, _, _, _, _, _, _, _, _ => none
  | k + 1, a2, c16, s10, c47, y93, y94, y95, y96, y97 => (if y97 < (a2.length : Int) then (ck ((0 : Int) ≤ y97 ∧ y97 < (a2.length : Int)) ((law39_degree.f k (gd 0 a2 y97) y97).bind fun s106 => ((thermal_Zone_Update.f k c16.1 y93 c16.2.2.1 y94 s106).bind fun s108 => ((ref39_Zone_Update.f k s10 y95 c47.2.1 y96 s106).bind fun s111 => (((if s108.2.2.1 = s111.2.2.1 then (if (s108.2.2.2.1 == s111.2.2.2.1) = true then (if s108.2.2.2.2 = s111.2.2.2.2 then ((thermal_Zone_Level.f k c16.1 s108.2.1 c16.2.2.1 s108.1).bind fun s118 => ((ref39_Zone_Level.f k s10 s111.2.1 c47.2.1 s111.1).bind fun s119 => (if s118 = s119 then ((thermal_Zone_Active.f k c16.1 s108.2.1 c16.2.2.1 s108.1).bind fun s121 => ((ref39_Zone_Active.f k s10 s111.2.1 c47.2.1 s111.1).bind fun s123 => ((help_Equal_bool.f k s121 s123).bind fun s125 => (some (!s125))))) else (some true)))) else (some true)) else (some true)) else (some true))).bind fun x114 => (if x114 = true then (some (.rt (some false))) else (law39_ThermalZoneAgrees.l2 k a2 c16 s10 c47 s108.2.1 s108.1 s111.2.1 s111.1 (IntKind.i64.wrap (y97 + 1))))))))) else (some (.go ())))
def law39_ThermalZoneAgrees.f (k : Nat) (a0 : (List Trip)) (a1 : Int) (a2 : (List Int)) : Option (Bool) :=
  (((if 20 < (a0.length : Int) then (some true) else (some (decide (60 < (a2.length : Int)))))).bind fun x3 => (if x3 = true then ((law39_awake.f k).bind fun s8 => (some s8)) else ((law39_Trips.f k a0).bind fun s10 => ((help_Mod.f k a1 8).bind fun s12 => ((thermal_NewZone.f k s10 s12).bind fun s15 => s15.1.elim ((ref39_NewZone.f k s10 s12).bind fun s19 => s19.1.elim (((if s15.2 = 0 then (if s19.2 = 0 then (some ()) else (some ())) else (some ()))).bind fun x23 => (some false)) (fun c20 => (((if s15.2 = 0 then (if s19.2 = 0 then (some ()) else (some ())) else (some ()))).bind fun x34 => (some false)))) (fun c16 => ((ref39_NewZone.f k s10 s12).bind fun s46 => s46.1.elim (((if s15.2 = 0 then (if s46.2 = 0 then (some false) else (some true)) else (some true))).bind fun x50 => (if x50 = true then (some false) else (((law39_ThermalZoneAgrees.l1 k a2 c16)).bind fun x58 => ((law39_awake.f k).bind fun s74 => (some s74))))) (fun c47 => (((if s15.2 = 0 then (if s46.2 = 0 then (some false) else (some true)) else (some true))).bind fun x80 => (if x80 = true then (some false) else (((law39_ThermalZoneAgrees.l2 k a2 c16 s10 c47 c16.2.1 c16.2.2.2 c47.1 c47.2.2 0) : Option (Ex (Unit) (Option (Bool)))).bind fun x88 => x88.el (fun x88s => ((law39_awake.f k).bind fun s134 => (some s134))) (fun o => o))))))))))))

def law39_ThermalHysteresis.l2 : Nat → (List Trip) → Int → (List Bool) → (List Bool) → Bool → Bool → Int → Option (Ex (Bool × Bool) (Option (Ex ((List Bool) × Int × (List Bool) × Int) (Option (Ex (Unit) (Option (Bool)))))))
  | 0, _, _, _, _, _, _, _ => none
  | k + 1, s10, s58, s63, y45, y88, y89, y90 => (if y90 < (s10.length : Int) then (((((ck ((0 : Int) ≤ y90 ∧ y90 < (s10.length : Int)) (if ((gd Trip.zero s10 y90).Temperature) ≤ s58 then (ck ((0 : Int) ≤ y90 ∧ y90 < (s63.length : Int)) (if (gd false s63 y90) = true then (if s58 < (IntKind.i64.wrap (((gd Trip.zero s10 y90).Temperature) - ((gd Trip.zero s10 y90).Hysteresis))) then (some true) else (if s58 < ((gd Trip.zero s10 y90).Temperature) then (if (IntKind.i64.wrap (((gd Trip.zero s10 y90).Temperature) - ((gd Trip.zero s10 y90).Hysteresis))) ≤ s58 then (ck ((0 : Int) ≤ y90 ∧ y90 < (y45.length : Int)) (some (!(true == (gd false y45 y90))))) else (some false)) else (some false))) else (some true))) else (if s58 < (IntKind.i64.wrap (((gd Trip.zero s10 y90).Temperature) - ((gd Trip.zero s10 y90).Hysteresis))) then (ck ((0 : Int) ≤ y90 ∧ y90 < (s63.length : Int)) (if (gd false s63 y90) = true then (some true) else (if s58 < ((gd Trip.zero s10 y90).Temperature) then (if (IntKind.i64.wrap (((gd Trip.zero s10 y90).Temperature) - ((gd Trip.zero s10 y90).Hysteresis))) ≤ s58 then (ck ((0 : Int) ≤ y90 ∧ y90 < (y45.length : Int)) (some (!(false == (gd false y45 y90))))) else (some false)) else (some false)))) else (if s58 < ((gd Trip.zero s10 y90).Temperature) then (if (IntKind.i64.wrap (((gd Trip.zero s10 y90).Temperature) - ((gd Trip.zero s10 y90).Hysteresis))) ≤ s58 then (ck ((0 : Int) ≤ y90 ∧ y90 < (s63.length : Int)) (ck ((0 : Int) ≤ y90 ∧ y90 < (y45.length : Int)) (some (!((gd false s63 y90) == (gd false y45 y90)))))) else (some false)) else (some false)))))).bind fun x99 => (if x99 = true then (some (.rt (some (.rt (some (.rt (some (.rt (some false))))))))) else (((if y88 = true then (some true) else (ck ((0 : Int) ≤ y90 ∧ y90 < (s63.length : Int)) (if (gd false s63 y90) = true then (ck ((0 : Int) ≤ y90 ∧ y90 < (s10.length : Int)) (some (decide (((gd Trip.zero s10 y90).Kind) = 2)))) else (some false))))).bind fun x132 => (if y89 = true then (some (.go (x132, true))) else (ck ((0 : Int) ≤ y90 ∧ y90 < (s63.length : Int)) (if (gd false s63 y90) = true then (ck ((0 : Int) ≤ y90 ∧ y90 < (s10.length : Int)) (some (.go (x132, (decide (((gd Trip.zero s10 y90).Kind) = 3)))))) else (some (.go (x132, false))))))))) : Option (Ex (Bool × Bool) (Option (Ex (Bool × Bool) (Option (Ex ((List Bool) × Int × (List Bool) × Int) (Option (Ex (Unit) (Option (Bool)))))))))).bind fun x96 => x96.el (fun x96s => (law39_ThermalHysteresis.l2 k s10 s58 s63 y45 x96s.1 x96s.2 (IntKind.i64.wrap (y90 + 1)))) (fun o => o)) else (some (.go (y88, y89))))
def law39_ThermalHysteresis.l1 : Nat → (List Int) → ((List Trip) × (List Bool) × Int × Int) → (List Trip) → Int → (List Bool) → Int → (List Bool) → Int → Int → Option (Ex (Unit) (Option (Bool)))
  | 0, _, _, _, _, _, _, _, _, _ => none
  | k + 1, a2, c16, s10, s12, y43, y44, y45, y46, y47 => (if y47 < (a2.length : Int) then (((ck ((0 : Int) ≤ y47 ∧ y47 < (a2.length : Int)) ((law39_degree.f k (gd 0 a2 y47) 0).bind fun s58 => ((thermal_Zone_Update.f k c16.1 y43 c16.2.2.1 y44 s58).bind fun s60 => ((thermal_Zone_Active.f k c16.1 s60.2.1 c16.2.2.1 s60.1).bind fun s63 => (((if s60.2.2.2.2 = 0 then (if (s63.length : Int) = (s10.length : Int) then (if s60.2.2.1 < 0 then (some true) else (if s12 < s60.2.2.1 then (some true) else (if (IntKind.i64.wrap (y46 + 1)) < s60.2.2.1 then (some true) else (if s60.2.2.1 < (IntKind.i64.wrap (y46 - 1)) then (some true) else ((thermal_Zone_Level.f k c16.1 s60.2.1 c16.2.2.1 s60.1).bind fun s78 => (some (!decide (s60.2.2.1 = s78)))))))) else (some true)) else (some true))).bind fun x67 => (if x67 = true then (some (.rt (some (.rt (some false))))) else (((law39_ThermalHysteresis.l2 k s10 s58 s63 y45 false false 0) : Option (Ex (Bool × Bool) (Option (Ex ((List Bool) × Int × (List Bool) × Int) (Option (Ex (Unit) (Option (Bool)))))))).bind fun x85 => x85.el (fun x85s => (((if (s60.2.2.2.1 == x85s.2) = true then (if x85s.1 = true then (if s60.2.2.1 < y46 then (some true) else (some false)) else (some (decide (y46 < s60.2.2.1)))) else (some true))).bind fun x149 => (if x149 = true then (some (.rt (some (.rt (some false))))) else (some (.go (s60.2.1, s60.1, s63, s60.2.2.1)))))) (fun o => o)))))))) : Option (Ex ((List Bool) × Int × (List Bool) × Int) (Option (Ex (Unit) (Option (Bool)))))).bind fun x53 => x53.el (fun x53s => (law39_ThermalHysteresis.l1 k a2 c16 s10 s12 x53s.1 x53s.2.1 x53s.2.2.1 x53s.2.2.2 (IntKind.i64.wrap (y47 + 1)))) (fun o => o)) else (some (.go ())))
def law39_ThermalHysteresis.f (k : Nat) (a0 : (List Trip)) (a1 : Int) (a2 : (List Int)) : Option (Bool) :=
  (((if 20 < (a0.length : Int) then (some true) else (some (decide (60 < (a2.length : Int)))))).bind fun x3 => (if x3 = true then ((law39_awake.f k).bind fun s8 => (some s8)) else ((law39_Trips.f k a0).bind fun s10 => ((help_Mod.f k a1 8).bind fun s12 => ((thermal_NewZone.f k s10 s12).bind fun s15 => s15.1.elim (((if s15.2 = 0 then (some ()) else (some ()))).bind fun x19 => (some false)) (fun c16 => (((if s15.2 = 0 then (some false) else (some true))).bind fun x29 => (if x29 = true then (some false) else (ck ((0 : Int) ≤ (s10.length : Int) ∧ (s10.length : Int) ≤ 1048576) (((law39_ThermalHysteresis.l1 k a2 c16 s10 s12 c16.2.1 c16.2.2.2 (List.replicate (s10.length : Int).toNat false) 0 0) : Option (Ex (Unit) (Option (Bool)))).bind fun x38 => x38.el (fun x38s => ((law39_awake.f k).bind fun s161 => (some s161))) (fun o => o)))))))))))

def law39_want.f (k : Nat) (a0 : Actor) : Option (Int) :=
  (some (mn (mx a0.Request a0.Min) a0.Max))

def thermal_Fair.l1 : Nat → (List Actor) → (List Int) → Int → Int → Option (Ex (Int) (Option (Bool)))
  | 0, _, _, _, _ => none
  | k + 1, a1, a2, y14, y15 => (if y15 < (a1.length : Int) then (ck ((0 : Int) ≤ y15 ∧ y15 < (a1.length : Int)) (((ck ((0 : Int) ≤ y15 ∧ y15 < (a2.length : Int)) (if (gd 0 a2 y15) < ((gd Actor.zero a1 y15).Min) then (some true) else ((thermal_want.f k (⟨((gd Actor.zero a1 y15).Request), ((gd Actor.zero a1 y15).Min), ((gd Actor.zero a1 y15).Max)⟩ : Actor)).bind fun s31 => (some (decide (s31 < (gd 0 a2 y15)))))))).bind fun x27 => (if x27 = true then (some (.rt (some false))) else (ck ((0 : Int) ≤ y15 ∧ y15 < (a2.length : Int)) (thermal_Fair.l1 k a1 a2 (IntKind.u64.wrap (y14 + (gd 0 a2 y15))) (IntKind.i64.wrap (y15 + 1))))))) else (some (.go y14)))
def thermal_Fair.l3 : Nat → (List Actor) → Int → (List Int) → Int → Option (Ex (Unit) (Option (Ex (Unit) (Option (Bool)))))
  | 0, _, _, _, _ => none
  | k + 1, a1, y45, a2, y58 => (if y58 < (a1.length : Int) then (ck ((0 : Int) ≤ y58 ∧ y58 < (a1.length : Int)) (((ck ((0 : Int) ≤ y45 ∧ y45 < (a2.length : Int)) ((thermal_want.f k (⟨((gd Actor.zero a1 y45).Request), ((gd Actor.zero a1 y45).Min), ((gd Actor.zero a1 y45).Max)⟩ : Actor)).bind fun s71 => (if (gd 0 a2 y45) < s71 then (ck ((0 : Int) ≤ y58 ∧ y58 < (a2.length : Int)) (if ((gd Actor.zero a1 y58).Min) < (gd 0 a2 y58) then (some (decide ((IntKind.u64.wrap ((gd 0 a2 y45) + 1)) < (gd 0 a2 y58)))) else (some false))) else (some false))))).bind fun x69 => (if x69 = true then (some (.rt (some (.rt (some false))))) else (thermal_Fair.l3 k a1 y45 a2 (IntKind.i64.wrap (y58 + 1)))))) else (some (.go ())))
def thermal_Fair.l2 : Nat → (List Actor) → (List Int) → Int → Option (Ex (Unit) (Option (Bool)))
  | 0, _, _, _ => none
  | k + 1, a1, a2, y45 => (if y45 < (a1.length : Int) then (((ck ((0 : Int) ≤ y45 ∧ y45 < (a1.length : Int)) (thermal_Fair.l3 k a1 y45 a2 0)) : Option (Ex (Unit) (Option (Ex (Unit) (Option (Bool)))))).bind fun x51 => x51.el (fun x51s => (thermal_Fair.l2 k a1 a2 (IntKind.i64.wrap (y45 + 1)))) (fun o => o)) else (some (.go ())))
def thermal_Fair.f (k : Nat) (a0 : Int) (a1 : (List Actor)) (a2 : (List Int)) : Option (Bool) :=
  ((((thermal_validActors.f k a1).bind fun s4 => (if s4 = true then (some (!decide ((a2.length : Int) = (a1.length : Int)))) else (some true)))).bind fun x3 => (if x3 = true then (some false) else (((thermal_Fair.l1 k a1 a2 0 0) : Option (Ex (Int) (Option (Bool)))).bind fun x11 => x11.el (fun x11s => ((thermal_total.f k a1 4294967296).bind fun s39 => (if x11s = (mn a0 s39) then (((thermal_Fair.l2 k a1 a2 0) : Option (Ex (Unit) (Option (Bool)))).bind fun x42 => x42.el (fun x42s => (some true)) (fun o => o)) else (some false)))) (fun o => o))))

def law39_ThermalAllocateIsFair.l1 : Nat → (List Actor) → Int → Int → Int → Option (Int × Int)
  | 0, _, _, _, _ => none
  | k + 1, s7, y18, y19, y20 => (if y20 < (s7.length : Int) then (ck ((0 : Int) ≤ y20 ∧ y20 < (s7.length : Int)) ((law39_want.f k (⟨((gd Actor.zero s7 y20).Request), ((gd Actor.zero s7 y20).Min), ((gd Actor.zero s7 y20).Max)⟩ : Actor)).bind fun s29 => (law39_ThermalAllocateIsFair.l1 k s7 (IntKind.u64.wrap (y18 + ((gd Actor.zero s7 y20).Min))) (IntKind.u64.wrap (y19 + s29)) (IntKind.i64.wrap (y20 + 1))))) else (some (y18, y19)))
def law39_ThermalAllocateIsFair.l2 : Nat → ((List Int) × Int) → (List Actor) → Int → Int → Option (Ex (Int) (Option (Bool)))
  | 0, _, _, _, _ => none
  | k + 1, s11, s7, y46, y47 => (if y47 < (s11.1.length : Int) then (((ck ((0 : Int) ≤ y47 ∧ y47 < (s11.1.length : Int)) (ck ((0 : Int) ≤ y47 ∧ y47 < (s7.length : Int)) (if (gd 0 s11.1 y47) < ((gd Actor.zero s7 y47).Min) then (some true) else ((law39_want.f k (⟨((gd Actor.zero s7 y47).Request), ((gd Actor.zero s7 y47).Min), ((gd Actor.zero s7 y47).Max)⟩ : Actor)).bind fun s61 => (some (decide (s61 < (gd 0 s11.1 y47))))))))).bind fun x56 => (if x56 = true then (some (.rt (some false))) else (ck ((0 : Int) ≤ y47 ∧ y47 < (s11.1.length : Int)) (law39_ThermalAllocateIsFair.l2 k s11 s7 (IntKind.u64.wrap (y46 + (gd 0 s11.1 y47))) (IntKind.i64.wrap (y47 + 1)))))) else (some (.go y46)))
def law39_ThermalAllocateIsFair.f (k : Nat) (a0 : Int) (a1 : (List Actor)) : Option (Bool) :=
  (if 40 < (a1.length : Int) then ((law39_awake.f k).bind fun s5 => (some s5)) else ((law39_Actors.f k a1).bind fun s7 => ((thermal_Allocate.f k (Int.tmod a0 200) s7).bind fun s11 => (((law39_ThermalAllocateIsFair.l1 k s7 0 0 0)).bind fun x15 => (if s11.2 = 0 then (((if (s11.1.length : Int) = (s7.length : Int) then ((thermal_Fair.f k (Int.tmod a0 200) s7 s11.1).bind fun s38 => (some (!s38))) else (some true))).bind fun x36 => (if x36 = true then (some false) else (((law39_ThermalAllocateIsFair.l2 k s11 s7 0 0) : Option (Ex (Int) (Option (Bool)))).bind fun x43 => x43.el (fun x43s => (if x15.1 ≤ (Int.tmod a0 200) then (if x43s = (mn (Int.tmod a0 200) x15.2) then ((law39_awake.f k).bind fun s70 => (some s70)) else (some false)) else (some false))) (fun o => o)))) else (if s11.2 = 19 then (if (Int.tmod a0 200) < x15.1 then ((law39_awake.f k).bind fun s76 => (some s76)) else (some false)) else (some false)))))))

def ref39_Fair.l1 : Nat → (List Actor) → (List Int) → Int → Int → Option (Ex (Int) (Option (Bool)))
  | 0, _, _, _, _ => none
  | k + 1, a1, a2, y14, y15 => (if y15 < (a1.length : Int) then (((ck ((0 : Int) ≤ y15 ∧ y15 < (a2.length : Int)) (ck ((0 : Int) ≤ y15 ∧ y15 < (a1.length : Int)) (if (gd 0 a2 y15) < ((gd Actor.zero a1 y15).Min) then (some true) else ((ref39_want.f k (⟨((gd Actor.zero a1 y15).Request), ((gd Actor.zero a1 y15).Min), ((gd Actor.zero a1 y15).Max)⟩ : Actor)).bind fun s29 => (some (decide (s29 < (gd 0 a2 y15))))))))).bind fun x24 => (if x24 = true then (some (.rt (some false))) else (ck ((0 : Int) ≤ y15 ∧ y15 < (a2.length : Int)) (ref39_Fair.l1 k a1 a2 (IntKind.u64.wrap (y14 + (gd 0 a2 y15))) (IntKind.i64.wrap (y15 + 1)))))) else (some (.go y14)))
def ref39_Fair.l3 : Nat → (List Actor) → Int → (List Int) → Int → Option (Ex (Unit) (Option (Ex (Unit) (Option (Bool)))))
  | 0, _, _, _, _ => none
  | k + 1, a1, y45, a2, y55 => (if y55 < (a1.length : Int) then (((ck ((0 : Int) ≤ y45 ∧ y45 < (a2.length : Int)) (ck ((0 : Int) ≤ y45 ∧ y45 < (a1.length : Int)) ((ref39_want.f k (⟨((gd Actor.zero a1 y45).Request), ((gd Actor.zero a1 y45).Min), ((gd Actor.zero a1 y45).Max)⟩ : Actor)).bind fun s66 => (if (gd 0 a2 y45) < s66 then (ck ((0 : Int) ≤ y55 ∧ y55 < (a2.length : Int)) (ck ((0 : Int) ≤ y55 ∧ y55 < (a1.length : Int)) (if ((gd Actor.zero a1 y55).Min) < (gd 0 a2 y55) then (some (decide ((IntKind.u64.wrap ((gd 0 a2 y45) + 1)) < (gd 0 a2 y55)))) else (some false)))) else (some false)))))).bind fun x63 => (if x63 = true then (some (.rt (some (.rt (some false))))) else (ref39_Fair.l3 k a1 y45 a2 (IntKind.i64.wrap (y55 + 1))))) else (some (.go ())))
def ref39_Fair.l2 : Nat → (List Actor) → (List Int) → Int → Option (Ex (Unit) (Option (Bool)))
  | 0, _, _, _ => none
  | k + 1, a1, a2, y45 => (if y45 < (a1.length : Int) then (((ref39_Fair.l3 k a1 y45 a2 0) : Option (Ex (Unit) (Option (Ex (Unit) (Option (Bool)))))).bind fun x51 => x51.el (fun x51s => (ref39_Fair.l2 k a1 a2 (IntKind.i64.wrap (y45 + 1)))) (fun o => o)) else (some (.go ())))
def ref39_Fair.f (k : Nat) (a0 : Int) (a1 : (List Actor)) (a2 : (List Int)) : Option (Bool) :=
  ((((ref39_valid.f k a1).bind fun s4 => (if s4 = true then (some (!decide ((a2.length : Int) = (a1.length : Int)))) else (some true)))).bind fun x3 => (if x3 = true then (some false) else (((ref39_Fair.l1 k a1 a2 0 0) : Option (Ex (Int) (Option (Bool)))).bind fun x11 => x11.el (fun x11s => ((ref39_at.f k a1 4294967296).bind fun s37 => (if x11s = (mn a0 s37.2) then (((ref39_Fair.l2 k a1 a2 0) : Option (Ex (Unit) (Option (Bool)))).bind fun x42 => x42.el (fun x42s => (some true)) (fun o => o)) else (some false)))) (fun o => o))))

def law39_ThermalFairAgrees.l1 : Nat → (List Actor) → (List Int) → (List Int) → Int → Option ((List Int))
  | 0, _, _, _, _ => none
  | k + 1, s10, a2, y20, y21 => (((if y21 < (s10.length : Int) then (some (decide (y21 < (a2.length : Int)))) else (some false))).bind fun x25 => (if x25 = true then (ck ((0 : Int) ≤ y21 ∧ y21 < (a2.length : Int)) (ck ((y20.length : Int) + ([(Int.tmod (gd 0 a2 y21) 40)].length : Int) ≤ 1048576) (law39_ThermalFairAgrees.l1 k s10 a2 (y20 ++ [(Int.tmod (gd 0 a2 y21) 40)]) (IntKind.i64.wrap (y21 + 1))))) else (some y20)))
def law39_ThermalFairAgrees.f (k : Nat) (a0 : Int) (a1 : (List Actor)) (a2 : (List Int)) (a3 : Int) (a4 : Int) : Option (Bool) :=
  (((if 40 < (a1.length : Int) then (some true) else (some (decide (40 < (a2.length : Int)))))).bind fun x3 => (if x3 = true then ((law39_awake.f k).bind fun s8 => (some s8)) else ((law39_Actors.f k a1).bind fun s10 => (((law39_ThermalFairAgrees.l1 k s10 a2 [] 0)).bind fun x15 => ((((thermal_Fair.f k a0 a1 a2).bind fun s40 => ((ref39_Fair.f k a0 a1 a2).bind fun s41 => (if (s40 == s41) = true then ((thermal_Fair.f k (Int.tmod a0 200) s10 x15).bind fun s43 => ((ref39_Fair.f k (Int.tmod a0 200) s10 x15).bind fun s44 => (some (!(s43 == s44))))) else (some true))))).bind fun x39 => (if x39 = true then (some false) else ((ref39_Allocate.f k (Int.tmod a0 200) s10).bind fun s49 => (((if s49.2 = 0 then (some (decide ((s49.1.length : Int) = 0))) else (some true))).bind fun x53 => (if x53 = true then ((law39_awake.f k).bind fun s58 => (some s58)) else ((help_Mod.f k a3 (s49.1.length : Int)).bind fun s60 => ((help_Mod.f k a4 (s49.1.length : Int)).bind fun s61 => (((ck ((0 : Int) ≤ s60 ∧ s60 < (s49.1.length : Int)) (if 0 < (gd 0 s49.1 s60) then (ck ((0 : Int) ≤ s61 ∧ s61 < ((s49.1.set s60.toNat (IntKind.u64.wrap ((gd 0 s49.1 s60) - 1))).length : Int)) (some ((s49.1.set s60.toNat (IntKind.u64.wrap ((gd 0 s49.1 s60) - 1))).set s61.toNat (IntKind.u64.wrap ((gd 0 (s49.1.set s60.toNat (IntKind.u64.wrap ((gd 0 s49.1 s60) - 1))) s61) + 1))))) else (some s49.1)))).bind fun x63 => ((thermal_Fair.f k (Int.tmod a0 200) s10 x63).bind fun s70 => ((ref39_Fair.f k (Int.tmod a0 200) s10 x63).bind fun s71 => (if (s70 == s71) = true then ((law39_awake.f k).bind fun s73 => (some s73)) else (some false))))))))))))))))

def law39_ThermalTripsAgree.Pure : Prop := ∀ (a0 : (List Trip)) (a1 : Int) (a2 : Int) (a3 : Trip), (a0.length : Int) ≤ 9223372036854775807 → (∀ x ∈ a0, Trip.wf x) → inK .i64 a1 → inK .i64 a2 → Trip.wf a3 → ∃ k, law39_ThermalTripsAgree.f k a0 a1 a2 a3 = some true

def law39_ThermalAllocateAgrees.Pure : Prop := ∀ (a0 : Int) (a1 : (List Actor)), inK .u64 a0 → (a1.length : Int) ≤ 9223372036854775807 → (∀ x ∈ a1, Actor.wf x) → ∃ k, law39_ThermalAllocateAgrees.f k a0 a1 = some true

def law39_ThermalMoreBudgetHelps.Pure : Prop := ∀ (a0 : Int) (a1 : Int) (a2 : (List Actor)), inK .u64 a0 → inK .u64 a1 → (a2.length : Int) ≤ 9223372036854775807 → (∀ x ∈ a2, Actor.wf x) → ∃ k, law39_ThermalMoreBudgetHelps.f k a0 a1 a2 = some true

def law39_ThermalZoneAgrees.Pure : Prop := ∀ (a0 : (List Trip)) (a1 : Int) (a2 : (List Int)), (a0.length : Int) ≤ 9223372036854775807 → (∀ x ∈ a0, Trip.wf x) → inK .i64 a1 → (a2.length : Int) ≤ 9223372036854775807 → (∀ x ∈ a2, inK .i64 x) → ∃ k, law39_ThermalZoneAgrees.f k a0 a1 a2 = some true

def law39_ThermalHysteresis.Pure : Prop := ∀ (a0 : (List Trip)) (a1 : Int) (a2 : (List Int)), (a0.length : Int) ≤ 9223372036854775807 → (∀ x ∈ a0, Trip.wf x) → inK .i64 a1 → (a2.length : Int) ≤ 9223372036854775807 → (∀ x ∈ a2, inK .i64 x) → ∃ k, law39_ThermalHysteresis.f k a0 a1 a2 = some true

def law39_ThermalAllocateIsFair.Pure : Prop := ∀ (a0 : Int) (a1 : (List Actor)), inK .u64 a0 → (a1.length : Int) ≤ 9223372036854775807 → (∀ x ∈ a1, Actor.wf x) → ∃ k, law39_ThermalAllocateIsFair.f k a0 a1 = some true

def law39_ThermalFairAgrees.Pure : Prop := ∀ (a0 : Int) (a1 : (List Actor)) (a2 : (List Int)) (a3 : Int) (a4 : Int), inK .u64 a0 → (a1.length : Int) ≤ 9223372036854775807 → (∀ x ∈ a1, Actor.wf x) → (a2.length : Int) ≤ 9223372036854775807 → (∀ x ∈ a2, inK .u64 x) → inK .i64 a3 → inK .i64 a4 → ∃ k, law39_ThermalFairAgrees.f k a0 a1 a2 a3 a4 = some true

end Go.Proofs.Ytkcmohmnmapnbaa.X
