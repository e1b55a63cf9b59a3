-- Laid by wip/tools/xprint.py, a program of this session's, over the kit's print. Lean checks it.
import Derived.Test.YtmbhjogohfcjgaaDoorL0
import Derived.Test.YtmbhjogohfcjgaaDoorL1
import Derived.Test.YtmbhjogohfcjgaaDoorL10
import Derived.Test.YtmbhjogohfcjgaaDoorL11
import Derived.Test.YtmbhjogohfcjgaaDoorL2
import Derived.Test.YtmbhjogohfcjgaaDoorL5
import Derived.Test.YtmbhjogohfcjgaaDoorL6
import Derived.Test.YtmbhjogohfcjgaaDoorL9
import Derived.Test.YtmbhjogohfcjgaaDoorLg
namespace Go.Proofs.YtmbhjogohfcjgaaDoor.L
open Go.RowKit Go.Proofs.YtmbhjogohfcjgaaDoorW.PrintWords Go.Proofs.YtmbhjogohfcjgaaDoorW.PrintLast Go.Proofs.YtmbhjogohfcjgaaDoorW.PrintMore
attribute [local go_sem] max2_int min2_int max_two min_two max_three min_three max_four min_four   -- for this text's walks alone
set_option linter.unusedVariables false
attribute [-simp] ByteArray.size_extract
set_option linter.unusedSimpArgs false

attribute [local go_sem high] eqA36
/-! ### tabardlaw11_LocaleBack: function 5 -/
mutual
def tabardlaw11_LocaleBack.j0 : Nat → Int → Bool → Bool → Bool → ByteArray → Int → Option (Bool)
  | 0, _, _, _, _, _, _ => none
  | k + 1, x0, x5, x42, x317000, x317001, x317002 => if x42 = true then (some x5) else ((tabardlaw11_find.f x0).bind fun bt320 => ((locale_Locale_Write.f k bt320.1 bt320.2.1 bt320.2.2.1 bt320.2.2.2.1 bt320.2.2.2.2.1 bt320.2.2.2.2.2.1 bt320.2.2.2.2.2.2.1 bt320.2.2.2.2.2.2.2.1 bt320.2.2.2.2.2.2.2.2.1 bt320.2.2.2.2.2.2.2.2.2.1 x317000 x317001 x317002 true).bind fun t344 => (if x317000 = true then (if (t344.size : Int) < (bt320.2.2.2.2.1.size : Int) then (none) else (if 0 ≤ (bt320.2.2.2.2.1.size : Int) then (if (bt320.2.2.2.2.1.size : Int) ≤ (t344.size : Int) then (if (t344.extract 0 ((bt320.2.2.2.2.1.size : Int) : Int).toNat).toList = bt320.2.2.2.2.1.toList then (tabardlaw11_LocaleBack.j1 k (t344.extract ((bt320.2.2.2.2.1.size : Int) : Int).toNat t344.size) x317000 x317001 x317002 bt320.1 bt320.2.1 bt320.2.2.1 bt320.2.2.2.1 bt320.2.2.2.2.1 bt320.2.2.2.2.2.1 bt320.2.2.2.2.2.2.1 bt320.2.2.2.2.2.2.2.1 bt320.2.2.2.2.2.2.2.2.1 bt320.2.2.2.2.2.2.2.2.2.1) else (none)) else (none)) else (none))) else (tabardlaw11_LocaleBack.j1 k t344 x317000 x317001 x317002 bt320.1 bt320.2.1 bt320.2.2.1 bt320.2.2.2.1 bt320.2.2.2.2.1 bt320.2.2.2.2.2.1 bt320.2.2.2.2.2.2.1 bt320.2.2.2.2.2.2.2.1 bt320.2.2.2.2.2.2.2.2.1 bt320.2.2.2.2.2.2.2.2.2.1))))
def tabardlaw11_LocaleBack.j1 : Nat → ByteArray → Bool → ByteArray → Int → ByteArray → ByteArray → ByteArray → ByteArray → ByteArray → ByteArray → ByteArray → Bool → Bool → List Int → Option (Bool)
  | 0, _, _, _, _, _, _, _, _, _, _, _, _, _, _ => none
  | k + 1, x9, x317000, x317001, x317002, x343000, x343001, x343002, x343003, x343004, x343005, x343006, x343007, x343008, x343009 => tabardlaw11_LocaleBack.l0 k x9 (x9.size : Int) 0 x317000 x317001 x317002 x343000 x343001 x343002 x343003 x343004 x343005 x343006 x343007 x343008 x343009
def tabardlaw11_LocaleBack.j3 : Nat → ByteArray → Int → Bool → ByteArray → Int → ByteArray → ByteArray → ByteArray → ByteArray → ByteArray → ByteArray → ByteArray → Bool → Bool → List Int → Option (Bool)
  | 0, _, _, _, _, _, _, _, _, _, _, _, _, _, _, _ => none
  | k + 1, x9, x10, x317000, x317001, x317002, x343000, x343001, x343002, x343003, x343004, x343005, x343006, x343007, x343008, x343009 => if 0 ≤ x10 then (if x10 ≤ (x9.size : Int) then ((locale_Locale_Plain.f k x343000 x343001 x343002 x343003 x343004 x343005 x343006 x343007 x343008 x343009 (x9.extract 0 (x10 : Int).toNat)).bind fun bt345 => (if x10 < (x9.size : Int) then (if 0 ≤ (wrap64 (x10 + (x343001.size : Int))) then (if (wrap64 (x10 + (x343001.size : Int))) ≤ (x9.size : Int) then ((tabardlaw11_digitsAll.f k (x9.extract ((wrap64 (x10 + (x343001.size : Int))) : Int).toNat x9.size)).bind fun t347 => (if bt345.1.size + (x9.extract ((wrap64 (x10 + (x343001.size : Int))) : Int).toNat x9.size).size ≤ 9223372036854775807 then ((tabardref7_Make.f k x317000 (bt345.1 ++ (x9.extract ((wrap64 (x10 + (x343001.size : Int))) : Int).toNat x9.size)) (wrap64 (-((x9.extract ((wrap64 (x10 + (x343001.size : Int))) : Int).toNat x9.size).size : Int)))).bind fun bt348 => (if bt345.2 = true then (if t347 = true then (if bt348.2.2.2 = 0 then (if (bt348.1 == x317000 && (bt348.2.1.toList == x317001.toList && (bt348.2.2.1 == x317002))) = true then (if x10 = (x9.size : Int) then (some true) else (if (x9.extract ((wrap64 (x10 + (x343001.size : Int))) : Int).toNat x9.size).toList = ([] : List UInt8) then (none) else (if 0 ≤ (wrap64 (((x9.extract ((wrap64 (x10 + (x343001.size : Int))) : Int).toNat x9.size).size : Int) - 1)) then (if (wrap64 (((x9.extract ((wrap64 (x10 + (x343001.size : Int))) : Int).toNat x9.size).size : Int) - 1)) < ((x9.extract ((wrap64 (x10 + (x343001.size : Int))) : Int).toNat x9.size).size : Int) then (some ((bt (x9.extract ((wrap64 (x10 + (x343001.size : Int))) : Int).toNat x9.size) (wrap64 (((x9.extract ((wrap64 (x10 + (x343001.size : Int))) : Int).toNat x9.size).size : Int) - 1))) != 48)) else (none)) else (none)))) else (none)) else (none)) else (none)) else (none))) else (none))) else (none)) else (none)) else ((tabardlaw11_digitsAll.f k (⟨#[]⟩ : ByteArray)).bind fun t353 => (if bt345.1.size + 0 ≤ 9223372036854775807 then ((tabardref7_Make.f k x317000 (bt345.1 ++ (⟨#[]⟩ : ByteArray)) (-0)).bind fun bt354 => (if bt345.2 = true then (if t353 = true then (if bt354.2.2.2 = 0 then (if (bt354.1 == x317000 && (bt354.2.1.toList == x317001.toList && (bt354.2.2.1 == x317002))) = true then (if x10 = (x9.size : Int) then (some true) else (if ([] : List UInt8) = ([] : List UInt8) then (none) else (if 0 ≤ (-1) then (if (-1) < 0 then (some ((bt (⟨#[]⟩ : ByteArray) (-1)) != 48)) else (none)) else (none)))) else (none)) else (none)) else (none)) else (none))) else (none))))) else (none)) else (none)
def tabardlaw11_LocaleBack.l0 : Nat → ByteArray → Int → Int → Bool → ByteArray → Int → ByteArray → ByteArray → ByteArray → ByteArray → ByteArray → ByteArray → ByteArray → Bool → Bool → List Int → Option (Bool)
  | 0, _, _, _, _, _, _, _, _, _, _, _, _, _, _, _, _ => none
  | k + 1, x9, x10, x11, x317000, x317001, x317002, x343000, x343001, x343002, x343003, x343004, x343005, x343006, x343007, x343008, x343009 => if (wrap64 (x11 + (x343001.size : Int))) ≤ (x9.size : Int) then (if 0 ≤ x11 then (if x11 ≤ (wrap64 (x11 + (x343001.size : Int))) then (if (x9.extract (x11 : Int).toNat ((wrap64 (x11 + (x343001.size : Int))) : Int).toNat).toList = x343001.toList then (tabardlaw11_LocaleBack.j3 k x9 x11 x317000 x317001 x317002 x343000 x343001 x343002 x343003 x343004 x343005 x343006 x343007 x343008 x343009) else (tabardlaw11_LocaleBack.l0 k x9 x10 (wrap64 (x11 + 1)) x317000 x317001 x317002 x343000 x343001 x343002 x343003 x343004 x343005 x343006 x343007 x343008 x343009)) else (none)) else (none)) else (tabardlaw11_LocaleBack.j3 k x9 x10 x317000 x317001 x317002 x343000 x343001 x343002 x343003 x343004 x343005 x343006 x343007 x343008 x343009)
end
def tabardlaw11_LocaleBack.f (k : Nat) (a0 : Int) (a1_0 : Bool) (a1_1 : ByteArray) (a1_2 : Int) : Option (Bool) := (tabardlaw11_shown.f k).bind fun t317 => ((tabardref7_Right.f k a1_0 a1_1 a1_2).bind fun t318 => (if t317 = true then (if t318 = true then ((tabardref7_Point.f k a1_0 a1_1 a1_2).bind fun t319 => (if t319 > 300 then (tabardlaw11_LocaleBack.j0 k a0 t317 true a1_0 a1_1 a1_2) else (if t319 < (-100) then (tabardlaw11_LocaleBack.j0 k a0 t317 true a1_0 a1_1 a1_2) else (tabardlaw11_LocaleBack.j0 k a0 t317 (decide ((a1_1.size : Int) > 200)) a1_0 a1_1 a1_2)))) else (tabardlaw11_LocaleBack.j0 k a0 t317 true a1_0 a1_1 a1_2)) else (tabardlaw11_LocaleBack.j0 k a0 t317 true a1_0 a1_1 a1_2)))
theorem tabardlaw11_LocaleBack.mono_l : ∀ k, (∀ y0 y1 y2 y3 y4 y5, LeO (tabardlaw11_LocaleBack.j0 k y0 y1 y2 y3 y4 y5) (tabardlaw11_LocaleBack.j0 (k + 1) y0 y1 y2 y3 y4 y5)) ∧ (∀ y0 y1 y2 y3 y4 y5 y6 y7 y8 y9 y10 y11 y12 y13, LeO (tabardlaw11_LocaleBack.j1 k y0 y1 y2 y3 y4 y5 y6 y7 y8 y9 y10 y11 y12 y13) (tabardlaw11_LocaleBack.j1 (k + 1) y0 y1 y2 y3 y4 y5 y6 y7 y8 y9 y10 y11 y12 y13)) ∧ (∀ y0 y1 y2 y3 y4 y5 y6 y7 y8 y9 y10 y11 y12 y13 y14, LeO (tabardlaw11_LocaleBack.j3 k y0 y1 y2 y3 y4 y5 y6 y7 y8 y9 y10 y11 y12 y13 y14) (tabardlaw11_LocaleBack.j3 (k + 1) y0 y1 y2 y3 y4 y5 y6 y7 y8 y9 y10 y11 y12 y13 y14)) ∧ (∀ y0 y1 y2 y3 y4 y5 y6 y7 y8 y9 y10 y11 y12 y13 y14 y15, LeO (tabardlaw11_LocaleBack.l0 k y0 y1 y2 y3 y4 y5 y6 y7 y8 y9 y10 y11 y12 y13 y14 y15) (tabardlaw11_LocaleBack.l0 (k + 1) y0 y1 y2 y3 y4 y5 y6 y7 y8 y9 y10 y11 y12 y13 y14 y15))
  | 0 => ⟨fun _ _ _ _ _ _ r h => by simp [tabardlaw11_LocaleBack.j0] at h, fun _ _ _ _ _ _ _ _ _ _ _ _ _ _ r h => by simp [tabardlaw11_LocaleBack.j1] at h, fun _ _ _ _ _ _ _ _ _ _ _ _ _ _ _ r h => by simp [tabardlaw11_LocaleBack.j3] at h, fun _ _ _ _ _ _ _ _ _ _ _ _ _ _ _ _ r h => by simp [tabardlaw11_LocaleBack.l0] at h⟩
  | k + 1 => by
    obtain ⟨ih0, ih1, ih2, ih3⟩ := tabardlaw11_LocaleBack.mono_l k
    refine ⟨?_, ?_, ?_, ?_⟩
    · intro y0 y1 y2 y3 y4 y5
      unfold tabardlaw11_LocaleBack.j0
      repeat' first
      | (with_reducible exact ih0 _ _ _ _ _ _)
      | (with_reducible exact ih1 _ _ _ _ _ _ _ _ _ _ _ _ _ _)
      | (with_reducible exact ih2 _ _ _ _ _ _ _ _ _ _ _ _ _ _ _)
      | (with_reducible exact ih3 _ _ _ _ _ _ _ _ _ _ _ _ _ _ _ _)
      | (with_reducible exact locale_Locale_Plain.mono _ _ _ _ _ _ _ _ _ _ _ _)
      | (with_reducible exact locale_Locale_Write.mono _ _ _ _ _ _ _ _ _ _ _ _ _ _ _)
      | (with_reducible exact tabardlaw11_digitsAll.mono _ _)
      | (with_reducible exact tabardlaw11_shown.mono _)
      | (with_reducible exact tabardref7_Make.mono _ _ _ _)
      | (with_reducible exact tabardref7_Point.mono _ _ _ _)
      | (with_reducible exact tabardref7_Right.mono _ _ _ _)
      | (with_reducible exact LeO.refl _)
      | (with_reducible exact LeO.none _)
      | (with_reducible refine LeO.ite ?_ ?_)
      | (with_reducible refine LeO.bind ?_ (fun _ => ?_))
      | exact ih0 _ _ _ _ _ _
      | exact ih1 _ _ _ _ _ _ _ _ _ _ _ _ _ _
      | exact ih2 _ _ _ _ _ _ _ _ _ _ _ _ _ _ _
      | exact ih3 _ _ _ _ _ _ _ _ _ _ _ _ _ _ _ _
      | exact locale_Locale_Plain.mono _ _ _ _ _ _ _ _ _ _ _ _
      | exact locale_Locale_Write.mono _ _ _ _ _ _ _ _ _ _ _ _ _ _ _
      | exact tabardlaw11_digitsAll.mono _ _
      | exact tabardlaw11_shown.mono _
      | exact tabardref7_Make.mono _ _ _ _
      | exact tabardref7_Point.mono _ _ _ _
      | exact tabardref7_Right.mono _ _ _ _
      | exact LeO.none _
      | refine LeO.ite ?_ ?_
      | refine LeO.bind ?_ (fun _ => ?_)
    · intro y0 y1 y2 y3 y4 y5 y6 y7 y8 y9 y10 y11 y12 y13
      unfold tabardlaw11_LocaleBack.j1
      repeat' first
      | (with_reducible exact ih0 _ _ _ _ _ _)
      | (with_reducible exact ih1 _ _ _ _ _ _ _ _ _ _ _ _ _ _)
      | (with_reducible exact ih2 _ _ _ _ _ _ _ _ _ _ _ _ _ _ _)
      | (with_reducible exact ih3 _ _ _ _ _ _ _ _ _ _ _ _ _ _ _ _)
      | (with_reducible exact locale_Locale_Plain.mono _ _ _ _ _ _ _ _ _ _ _ _)
      | (with_reducible exact locale_Locale_Write.mono _ _ _ _ _ _ _ _ _ _ _ _ _ _ _)
      | (with_reducible exact tabardlaw11_digitsAll.mono _ _)
      | (with_reducible exact tabardlaw11_shown.mono _)
      | (with_reducible exact tabardref7_Make.mono _ _ _ _)
      | (with_reducible exact tabardref7_Point.mono _ _ _ _)
      | (with_reducible exact tabardref7_Right.mono _ _ _ _)
      | (with_reducible exact LeO.refl _)
      | (with_reducible exact LeO.none _)
      | (with_reducible refine LeO.ite ?_ ?_)
      | (with_reducible refine LeO.bind ?_ (fun _ => ?_))
      | exact ih0 _ _ _ _ _ _
      | exact ih1 _ _ _ _ _ _ _ _ _ _ _ _ _ _
      | exact ih2 _ _ _ _ _ _ _ _ _ _ _ _ _ _ _
      | exact ih3 _ _ _ _ _ _ _ _ _ _ _ _ _ _ _ _
      | exact locale_Locale_Plain.mono _ _ _ _ _ _ _ _ _ _ _ _
      | exact locale_Locale_Write.mono _ _ _ _ _ _ _ _ _ _ _ _ _ _ _
      | exact tabardlaw11_digitsAll.mono _ _
      | exact tabardlaw11_shown.mono _
      | exact tabardref7_Make.mono _ _ _ _
      | exact tabardref7_Point.mono _ _ _ _
      | exact tabardref7_Right.mono _ _ _ _
      | exact LeO.none _
      | refine LeO.ite ?_ ?_
      | refine LeO.bind ?_ (fun _ => ?_)
    · intro y0 y1 y2 y3 y4 y5 y6 y7 y8 y9 y10 y11 y12 y13 y14
      unfold tabardlaw11_LocaleBack.j3
      repeat' first
      | (with_reducible exact ih0 _ _ _ _ _ _)
      | (with_reducible exact ih1 _ _ _ _ _ _ _ _ _ _ _ _ _ _)
      | (with_reducible exact ih2 _ _ _ _ _ _ _ _ _ _ _ _ _ _ _)
      | (with_reducible exact ih3 _ _ _ _ _ _ _ _ _ _ _ _ _ _ _ _)
      | (with_reducible exact locale_Locale_Plain.mono _ _ _ _ _ _ _ _ _ _ _ _)
      | (with_reducible exact locale_Locale_Write.mono _ _ _ _ _ _ _ _ _ _ _ _ _ _ _)
      | (with_reducible exact tabardlaw11_digitsAll.mono _ _)
      | (with_reducible exact tabardlaw11_shown.mono _)
      | (with_reducible exact tabardref7_Make.mono _ _ _ _)
      | (with_reducible exact tabardref7_Point.mono _ _ _ _)
      | (with_reducible exact tabardref7_Right.mono _ _ _ _)
      | (with_reducible exact LeO.refl _)
      | (with_reducible exact LeO.none _)
      | (with_reducible refine LeO.ite ?_ ?_)
      | (with_reducible refine LeO.bind ?_ (fun _ => ?_))
      | exact ih0 _ _ _ _ _ _
      | exact ih1 _ _ _ _ _ _ _ _ _ _ _ _ _ _
      | exact ih2 _ _ _ _ _ _ _ _ _ _ _ _ _ _ _
      | exact ih3 _ _ _ _ _ _ _ _ _ _ _ _ _ _ _ _
      | exact locale_Locale_Plain.mono _ _ _ _ _ _ _ _ _ _ _ _
      | exact locale_Locale_Write.mono _ _ _ _ _ _ _ _ _ _ _ _ _ _ _
      | exact tabardlaw11_digitsAll.mono _ _
      | exact tabardlaw11_shown.mono _
      | exact tabardref7_Make.mono _ _ _ _
      | exact tabardref7_Point.mono _ _ _ _
      | exact tabardref7_Right.mono _ _ _ _
      | exact LeO.none _
      | refine LeO.ite ?_ ?_
      | refine LeO.bind ?_ (fun _ => ?_)
    · intro y0 y1 y2 y3 y4 y5 y6 y7 y8 y9 y10 y11 y12 y13 y14 y15
      unfold tabardlaw11_LocaleBack.l0
      repeat' first
      | (with_reducible exact ih0 _ _ _ _ _ _)
      | (with_reducible exact ih1 _ _ _ _ _ _ _ _ _ _ _ _ _ _)
      | (with_reducible exact ih2 _ _ _ _ _ _ _ _ _ _ _ _ _ _ _)
      | (with_reducible exact ih3 _ _ _ _ _ _ _ _ _ _ _ _ _ _ _ _)
      | (with_reducible exact locale_Locale_Plain.mono _ _ _ _ _ _ _ _ _ _ _ _)
      | (with_reducible exact locale_Locale_Write.mono _ _ _ _ _ _ _ _ _ _ _ _ _ _ _)
      | (with_reducible exact tabardlaw11_digitsAll.mono _ _)
      | (with_reducible exact tabardlaw11_shown.mono _)
      | (with_reducible exact tabardref7_Make.mono _ _ _ _)
      | (with_reducible exact tabardref7_Point.mono _ _ _ _)
      | (with_reducible exact tabardref7_Right.mono _ _ _ _)
      | (with_reducible exact LeO.refl _)
      | (with_reducible exact LeO.none _)
      | (with_reducible refine LeO.ite ?_ ?_)
      | (with_reducible refine LeO.bind ?_ (fun _ => ?_))
      | exact ih0 _ _ _ _ _ _
      | exact ih1 _ _ _ _ _ _ _ _ _ _ _ _ _ _
      | exact ih2 _ _ _ _ _ _ _ _ _ _ _ _ _ _ _
      | exact ih3 _ _ _ _ _ _ _ _ _ _ _ _ _ _ _ _
      | exact locale_Locale_Plain.mono _ _ _ _ _ _ _ _ _ _ _ _
      | exact locale_Locale_Write.mono _ _ _ _ _ _ _ _ _ _ _ _ _ _ _
      | exact tabardlaw11_digitsAll.mono _ _
      | exact tabardlaw11_shown.mono _
      | exact tabardref7_Make.mono _ _ _ _
      | exact tabardref7_Point.mono _ _ _ _
      | exact tabardref7_Right.mono _ _ _ _
      | exact LeO.none _
      | refine LeO.ite ?_ ?_
      | refine LeO.bind ?_ (fun _ => ?_)
theorem tabardlaw11_LocaleBack.mono : ∀ a0 a1 a2 a3 k, LeO (tabardlaw11_LocaleBack.f k a0 a1 a2 a3) (tabardlaw11_LocaleBack.f (k + 1) a0 a1 a2 a3) := by
  intro a0 a1 a2 a3 k
  obtain ⟨ih0, ih1, ih2, ih3⟩ := tabardlaw11_LocaleBack.mono_l k
  unfold tabardlaw11_LocaleBack.f
  repeat' first
      | (with_reducible exact ih0 _ _ _ _ _ _)
      | (with_reducible exact ih1 _ _ _ _ _ _ _ _ _ _ _ _ _ _)
      | (with_reducible exact ih2 _ _ _ _ _ _ _ _ _ _ _ _ _ _ _)
      | (with_reducible exact ih3 _ _ _ _ _ _ _ _ _ _ _ _ _ _ _ _)
      | (with_reducible exact locale_Locale_Plain.mono _ _ _ _ _ _ _ _ _ _ _ _)
      | (with_reducible exact locale_Locale_Write.mono _ _ _ _ _ _ _ _ _ _ _ _ _ _ _)
      | (with_reducible exact tabardlaw11_digitsAll.mono _ _)
      | (with_reducible exact tabardlaw11_shown.mono _)
      | (with_reducible exact tabardref7_Make.mono _ _ _ _)
      | (with_reducible exact tabardref7_Point.mono _ _ _ _)
      | (with_reducible exact tabardref7_Right.mono _ _ _ _)
      | (with_reducible exact LeO.refl _)
      | (with_reducible exact LeO.none _)
      | (with_reducible refine LeO.ite ?_ ?_)
      | (with_reducible refine LeO.bind ?_ (fun _ => ?_))
      | exact ih0 _ _ _ _ _ _
      | exact ih1 _ _ _ _ _ _ _ _ _ _ _ _ _ _
      | exact ih2 _ _ _ _ _ _ _ _ _ _ _ _ _ _ _
      | exact ih3 _ _ _ _ _ _ _ _ _ _ _ _ _ _ _ _
      | exact locale_Locale_Plain.mono _ _ _ _ _ _ _ _ _ _ _ _
      | exact locale_Locale_Write.mono _ _ _ _ _ _ _ _ _ _ _ _ _ _ _
      | exact tabardlaw11_digitsAll.mono _ _
      | exact tabardlaw11_shown.mono _
      | exact tabardref7_Make.mono _ _ _ _
      | exact tabardref7_Point.mono _ _ _ _
      | exact tabardref7_Right.mono _ _ _ _
      | exact LeO.none _
      | refine LeO.ite ?_ ?_
      | refine LeO.bind ?_ (fun _ => ?_)
def tabardlaw11_LocaleBack.T8 : Bool × List (List Nat × List Nat) := (true, [([], []), ([0], [0]), ([], []), ([2], [2]), ([3], [3]), ([1, 4], [1, 4]), ([5], [5]), ([6], [6]), ([6], [6]), ([8, 6], [6, 8]), ([9, 6], [6, 9]), ([7, 10, 6], [6, 7, 10]), ([6], [6]), ([12, 6], [6, 12]), ([11, 13, 6], [6, 11, 13]), ([6, 14], [6, 14])])
def tabardlaw11_LocaleBack.B8 : List Nat := [0, 1, 0, 4, 12, 31, 63, 127, 127, 383, 895, 2047, 127, 4223, 16383, 32767]
theorem tabardlaw11_LocaleBack.tab8 : rtab .any (opsOf Tryd.f5 8) = tabardlaw11_LocaleBack.T8 := by kernel_rfl
theorem tabardlaw11_LocaleBack.bits8 : waitsOk tabardlaw11_LocaleBack.T8.2 tabardlaw11_LocaleBack.B8 = true := by kernel_rfl
def tabardlaw11_LocaleBack.T15 : Bool × List (List Nat × List Nat) := (true, [([], []), ([], []), ([], []), ([], []), ([3], [3]), ([4], [4]), ([2, 5], [2, 5]), ([0, 1, 6], [0, 1, 6]), ([], []), ([8], [8]), ([7, 9], [7, 9])])
def tabardlaw11_LocaleBack.B15 : List Nat := [0, 0, 0, 0, 8, 24, 60, 127, 0, 256, 1023]
theorem tabardlaw11_LocaleBack.tab15 : rtab .any (opsOf Tryd.f5 15) = tabardlaw11_LocaleBack.T15 := by kernel_rfl
theorem tabardlaw11_LocaleBack.bits15 : waitsOk tabardlaw11_LocaleBack.T15.2 tabardlaw11_LocaleBack.B15 = true := by kernel_rfl
def tabardlaw11_LocaleBack.T17 : Bool × List (List Nat × List Nat) := (true, [([], []), ([], []), ([], []), ([1, 2], [1, 2]), ([0, 3], [0, 3]), ([4], [4]), ([5], [5]), ([5], [5]), ([6, 4, 0, 1, 2, 3, 4, 5, 6], [6]), ([7, 8, 0, 1, 2, 3, 4, 5, 6, 7, 8], [7])])
def tabardlaw11_LocaleBack.B17 : List Nat := [0, 0, 0, 6, 15, 31, 63, 63, 127, 511]
theorem tabardlaw11_LocaleBack.tab17 : rtab .any (opsOf Tryd.f5 17) = tabardlaw11_LocaleBack.T17 := by kernel_rfl
theorem tabardlaw11_LocaleBack.bits17 : waitsOk tabardlaw11_LocaleBack.T17.2 tabardlaw11_LocaleBack.B17 = true := by kernel_rfl
set_option maxHeartbeats 8000000 in
set_option maxRecDepth 100000 in
theorem tabardlaw11_LocaleBack.calls (k : Nat) (a0 : Int) (a1_0 : Bool) (a1_1 : ByteArray) (a1_2 : Int) (r : Bool) (w : World) (hGL : GL w) (h : tabardlaw11_LocaleBack.f k a0 a1_0 a1_1 a1_2 = some r) :
    Calls Tryd.prog 5 #[.int .i64 a0, .agg #[.bool a1_0, .string a1_1, .int .i64 a1_2]] w fun e w' => e = .returned (.bool r) ∧ Below w.heap.size w w' := by
  have hu36 := Tryd.underlying36
  have hu25 := Tryd.underlying25
  have hu27 := Tryd.underlying27
  have HGL := Aside0.mk hGL
  clear hGL
  have HB := Aside0.mk (Below.refl w.heap.size w)
  have H : ((tabardlaw11_shown.f k).bind fun t317 => ((tabardref7_Right.f k a1_0 a1_1 a1_2).bind fun t318 => (if t317 = true then (if t318 = true then ((tabardref7_Point.f k a1_0 a1_1 a1_2).bind fun t319 => (if t319 > 300 then (tabardlaw11_LocaleBack.j0 k a0 t317 true a1_0 a1_1 a1_2) else (if t319 < (-100) then (tabardlaw11_LocaleBack.j0 k a0 t317 true a1_0 a1_1 a1_2) else (tabardlaw11_LocaleBack.j0 k a0 t317 (decide ((a1_1.size : Int) > 200)) a1_0 a1_1 a1_2)))) else (tabardlaw11_LocaleBack.j0 k a0 t317 true a1_0 a1_1 a1_2)) else (tabardlaw11_LocaleBack.j0 k a0 t317 true a1_0 a1_1 a1_2)))) = some r := h
  clear h
  replace H := Option.bind_eq_some_iff.mp H
  obtain ⟨t317, A30, H⟩ := H
  replace H : ((tabardref7_Right.f k a1_0 a1_1 a1_2).bind fun t318 => (if t317 = true then (if t318 = true then ((tabardref7_Point.f k a1_0 a1_1 a1_2).bind fun t319 => (if t319 > 300 then (tabardlaw11_LocaleBack.j0 k a0 t317 true a1_0 a1_1 a1_2) else (if t319 < (-100) then (tabardlaw11_LocaleBack.j0 k a0 t317 true a1_0 a1_1 a1_2) else (tabardlaw11_LocaleBack.j0 k a0 t317 (decide ((a1_1.size : Int) > 200)) a1_0 a1_1 a1_2)))) else (tabardlaw11_LocaleBack.j0 k a0 t317 true a1_0 a1_1 a1_2)) else (tabardlaw11_LocaleBack.j0 k a0 t317 true a1_0 a1_1 a1_2))) = some r := H
  have A3 := Aside0.mk A30
  clear A30
  replace H := Option.bind_eq_some_iff.mp H
  obtain ⟨t318, A40, H⟩ := H
  replace H : (if t317 = true then (if t318 = true then ((tabardref7_Point.f k a1_0 a1_1 a1_2).bind fun t319 => (if t319 > 300 then (tabardlaw11_LocaleBack.j0 k a0 t317 true a1_0 a1_1 a1_2) else (if t319 < (-100) then (tabardlaw11_LocaleBack.j0 k a0 t317 true a1_0 a1_1 a1_2) else (tabardlaw11_LocaleBack.j0 k a0 t317 (decide ((a1_1.size : Int) > 200)) a1_0 a1_1 a1_2)))) else (tabardlaw11_LocaleBack.j0 k a0 t317 true a1_0 a1_1 a1_2)) else (tabardlaw11_LocaleBack.j0 k a0 t317 true a1_0 a1_1 a1_2)) = some r := H
  have A4 := Aside0.mk A40
  clear A40
  have HC5 := Aside0.mk H
  clear H
  go_enter Tryd.func5, Tryd.ntmps5
  go_upto_region 3 with (first | ((with_reducible refine gate_dst (N := 3) rfl ?_); (try (refine gate_guard (by rfl) ?_; dsimp only)); refine box_event ?hg (N := 3) ?hd (cs := #[.bool a1_0, .string a1_1, .int .i64 a1_2]) (t := 36) ?hr ?_; (case hd => rfl); (case hg => rfl); (case hr => first | (go_simp; done) | (go_simp; rfl)); intro gb316 hg w6 hbox hb; have n0_ := Aside0.mk (below_step (by repeat (first | (with_reducible first | exact HB.out | apply below_alloc | apply pw_below_drewN | apply below_drew1) | exact HB.out)) hb); have n1_ := Aside0.mk (hbox); have n2_ := Aside0.mk ((by rw [hg]; exact (below_size (by repeat (first | (with_reducible first | exact HB.out | apply below_alloc | apply pw_below_drewN | apply below_drew1) | exact HB.out))) : w.heap.size ≤ gb316)); have n3_ := Aside0.mk ((by rw [hg]; exact (below_size (by repeat (first | (with_reducible first | exact HB.out | apply below_alloc | apply pw_below_drewN | apply below_drew1) | exact HB.out))) : w.heap.size ≤ gb316)); clear HB; have HB := n0_; have BK316 := n1_; have GW316 := n2_; have GE316 := n3_; clear n0_ n1_ n2_ n3_; clear hb hbox hg) | ((with_reducible refine gate_callee (f := 10) rfl ?_); refine goesL_ (some 18) rfl rfl Tryd.func10 (by kernel_rfl) rfl #[] rfl (by (try simp only [List.map_toArray, List.map_cons, List.map_nil]); first | done | rfl | (simp only [List.length_drop, List.length_take]; rfl)) ?_; (with_reducible refine (tabardlaw11_shown.calls k  t317 _ ?side1 A3.out).mono ?_); (case side1 => exact GL.below HGL.out (by repeat (first | (with_reducible first | exact HB.out | apply below_alloc | apply pw_below_drewN | apply below_drew1 | refine below_set ?_ GE316.out) | exact HB.out))); rintro e w7 ⟨rfl, hb⟩; refine ⟨_, rfl, ?_⟩; have n0_ := Aside0.mk (blk_below (g := gb316) (o := .cells #[.bool a1_0, .string a1_1, .int .i64 a1_2] 36 (0, 0)) (by (with_reducible repeat (first | refine blk_drewN ?_ _ | refine blk_drew ?_ | refine blk_alloc ?_ _)); exact BK316.out) hb); have n1_ := Aside0.mk (below_step (by repeat (first | (with_reducible first | exact HB.out | apply below_alloc | apply pw_below_drewN | apply below_drew1 | refine below_set ?_ GE316.out) | exact HB.out)) hb); clear BK316; clear HB; have BK316 := n0_; have HB := n1_; clear n0_ n1_; (try clear hb); (try clear hb2); (try clear hk); (try clear hi); have hcz8_0 : w7.cell? ⟨gb316, 0, none⟩ = some (.bool a1_0) := (blk_cell BK316.out 0).trans rfl; have hcz8_1 : w7.cell? ⟨gb316, 1, none⟩ = some (.string a1_1) := (blk_cell BK316.out 1).trans rfl; have hcz8_2 : w7.cell? ⟨gb316, 2, none⟩ = some (.int .i64 a1_2) := (blk_cell BK316.out 2).trans rfl; have hfz8_0 := blk_frozen BK316.out 0; have hfz8_1 := blk_frozen BK316.out 1; have hfz8_2 := blk_frozen BK316.out 2) | ((with_reducible refine gate_callee (f := 21) rfl ?_); refine goesL_ (some 20) rfl rfl Tryd.func21 (by kernel_rfl) rfl #[.agg #[.bool a1_0, .string a1_1, .int .i64 a1_2]] rfl (by (try simp only [List.map_toArray, List.map_cons, List.map_nil]); first | done | rfl | (simp only [List.length_drop, List.length_take]; rfl)) ?_; (with_reducible refine (tabardref7_Right.calls k a1_0 a1_1 a1_2 t318 _ A4.out).mono ?_); rintro e w9 ⟨rfl, hb⟩; refine ⟨_, rfl, ?_⟩; have n0_ := Aside0.mk (blk_below (g := gb316) (o := .cells #[.bool a1_0, .string a1_1, .int .i64 a1_2] 36 (0, 0)) (by (with_reducible repeat (first | refine blk_drewN ?_ _ | refine blk_drew ?_ | refine blk_alloc ?_ _)); exact BK316.out) hb); have n1_ := Aside0.mk (below_step (by repeat (first | (with_reducible first | exact HB.out | apply below_alloc | apply pw_below_drewN | apply below_drew1 | refine below_set ?_ GE316.out) | exact HB.out)) hb); clear BK316; clear HB; have BK316 := n0_; have HB := n1_; clear n0_ n1_; (try clear hb); (try clear hb2); (try clear hk); (try clear hi)))
  (try simp only [Act.put, List.setIfInBounds_toArray, List.set_cons_zero, List.set_cons_succ])
  go_cut [42] (fun v42 wc => ∃ (kq : Nat) (x42_4 : Bool), v42 = .bool x42_4 ∧ Aside0 (tabardlaw11_LocaleBack.j0 kq a0 t317 x42_4 a1_0 a1_1 a1_2 = some r) ∧ Aside0 (kq ≤ k) ∧ Aside0 (wc.heap[gb316]? = some (.cells #[.bool a1_0, .string a1_1, .int .i64 a1_2] 36 (0, 0))) ∧ Aside0 (Below w.heap.size w wc))
  case first =>
    have H := HC5.out
    clear HC5
    by_cases c10 : t317 = true
    · subst c10
      have H1 : (if t318 = true then ((tabardref7_Point.f k a1_0 a1_1 a1_2).bind fun t319 => (if t319 > 300 then (tabardlaw11_LocaleBack.j0 k a0 true true a1_0 a1_1 a1_2) else (if t319 < (-100) then (tabardlaw11_LocaleBack.j0 k a0 true true a1_0 a1_1 a1_2) else (tabardlaw11_LocaleBack.j0 k a0 true (decide ((a1_1.size : Int) > 200)) a1_0 a1_1 a1_2)))) else (tabardlaw11_LocaleBack.j0 k a0 true true a1_0 a1_1 a1_2)) = some r := by rw [if_pos rfl] at H; exact H
      clear H
      have H := H1
      clear H1
      by_cases c11 : t318 = true
      · subst c11
        have H1 : ((tabardref7_Point.f k a1_0 a1_1 a1_2).bind fun t319 => (if t319 > 300 then (tabardlaw11_LocaleBack.j0 k a0 true true a1_0 a1_1 a1_2) else (if t319 < (-100) then (tabardlaw11_LocaleBack.j0 k a0 true true a1_0 a1_1 a1_2) else (tabardlaw11_LocaleBack.j0 k a0 true (decide ((a1_1.size : Int) > 200)) a1_0 a1_1 a1_2)))) = some r := by rw [if_pos rfl] at H; exact H
        clear H
        have H := H1
        clear H1
        replace H := Option.bind_eq_some_iff.mp H
        obtain ⟨t319, A120, H⟩ := H
        replace H : (if t319 > 300 then (tabardlaw11_LocaleBack.j0 k a0 true true a1_0 a1_1 a1_2) else (if t319 < (-100) then (tabardlaw11_LocaleBack.j0 k a0 true true a1_0 a1_1 a1_2) else (tabardlaw11_LocaleBack.j0 k a0 true (decide ((a1_1.size : Int) > 200)) a1_0 a1_1 a1_2))) = some r := H
        have A12 := Aside0.mk A120
        clear A120
        by_cases c13 : t319 > 300
        · rw [if_pos c13] at H
          have c13b0 : decide (300 < t319) = true := decide_eq_true c13
          clear c13
          (first | rw [c13b0] | (simp only [i64_w, i32_w]; rw [c13b0]) | skip)
          have H' := Aside0.mk H
          clear H
          have hcz14_0 : w9.cell? ⟨gb316, 0, none⟩ = some (.bool a1_0) := (blk_cell BK316.out 0).trans rfl
          have hcz14_1 : w9.cell? ⟨gb316, 1, none⟩ = some (.string a1_1) := (blk_cell BK316.out 1).trans rfl
          have hcz14_2 : w9.cell? ⟨gb316, 2, none⟩ = some (.int .i64 a1_2) := (blk_cell BK316.out 2).trans rfl
          have hfz14_0 := blk_frozen BK316.out 0
          have hfz14_1 := blk_frozen BK316.out 1
          have hfz14_2 := blk_frozen BK316.out 2
          go_wp2_with (first | (go_at_call 22; (with_reducible refine (tabardref7_Point.calls k a1_0 a1_1 a1_2 t319 _ A12.out).mono ?_); rintro e w15 ⟨rfl, hb⟩; have n0_ := Aside0.mk (blk_below (g := gb316) (o := .cells #[.bool a1_0, .string a1_1, .int .i64 a1_2] 36 (0, 0)) (by (with_reducible repeat (first | refine blk_drewN ?_ _ | refine blk_drew ?_ | refine blk_alloc ?_ _)); exact BK316.out) hb); have n1_ := Aside0.mk (below_step (by repeat (first | (with_reducible first | exact HB.out | apply below_alloc | apply pw_below_drewN | apply below_drew1 | refine below_set ?_ GE316.out) | exact HB.out)) hb); clear BK316; clear HB; have BK316 := n0_; have HB := n1_; clear n0_ n1_; (try clear hb); (try clear hb2); (try clear hk); (try clear hi)))
          go_meet
          case rel => exact ⟨_, (true), (by first | rfl | (simp; done) | (simp [*]; done) | (simp [bne]; done)), H', ⟨by first | omega | exact Nat.le_refl _⟩, ⟨by (with_reducible repeat (first | refine blk_drewN ?_ _ | refine blk_drew ?_ | refine blk_alloc ?_ _)); exact BK316.out⟩, ⟨by repeat (first | (with_reducible first | exact HB.out | apply below_alloc | apply pw_below_drewN | apply below_drew1 | refine below_set ?_ GE316.out) | exact HB.out)⟩⟩
        · rw [if_neg c13] at H
          have c13b0 : decide (300 < t319) = false := decide_eq_false c13
          clear c13
          (first | rw [c13b0] | (simp only [i64_w, i32_w]; rw [c13b0]) | skip)
          by_cases c16 : t319 < (-100)
          · rw [if_pos c16] at H
            have c16b0 : decide (t319 < (-100)) = true := decide_eq_true c16
            clear c16
            have H' := Aside0.mk H
            clear H
            have hcz17_0 : w9.cell? ⟨gb316, 0, none⟩ = some (.bool a1_0) := (blk_cell BK316.out 0).trans rfl
            have hcz17_1 : w9.cell? ⟨gb316, 1, none⟩ = some (.string a1_1) := (blk_cell BK316.out 1).trans rfl
            have hcz17_2 : w9.cell? ⟨gb316, 2, none⟩ = some (.int .i64 a1_2) := (blk_cell BK316.out 2).trans rfl
            have hfz17_0 := blk_frozen BK316.out 0
            have hfz17_1 := blk_frozen BK316.out 1
            have hfz17_2 := blk_frozen BK316.out 2
            go_wp2_with (first | (go_at_call 22; (with_reducible refine (tabardref7_Point.calls k a1_0 a1_1 a1_2 t319 _ A12.out).mono ?_); rintro e w18 ⟨rfl, hb⟩; have n0_ := Aside0.mk (blk_below (g := gb316) (o := .cells #[.bool a1_0, .string a1_1, .int .i64 a1_2] 36 (0, 0)) (by (with_reducible repeat (first | refine blk_drewN ?_ _ | refine blk_drew ?_ | refine blk_alloc ?_ _)); exact BK316.out) hb); have n1_ := Aside0.mk (below_step (by repeat (first | (with_reducible first | exact HB.out | apply below_alloc | apply pw_below_drewN | apply below_drew1 | refine below_set ?_ GE316.out) | exact HB.out)) hb); clear BK316; clear HB; have BK316 := n0_; have HB := n1_; clear n0_ n1_; (try clear hb); (try clear hb2); (try clear hk); (try clear hi); have hcz19_0 : w18.cell? ⟨gb316, 0, none⟩ = some (.bool a1_0) := (blk_cell BK316.out 0).trans rfl; have hcz19_1 : w18.cell? ⟨gb316, 1, none⟩ = some (.string a1_1) := (blk_cell BK316.out 1).trans rfl; have hcz19_2 : w18.cell? ⟨gb316, 2, none⟩ = some (.int .i64 a1_2) := (blk_cell BK316.out 2).trans rfl; have hfz19_0 := blk_frozen BK316.out 0; have hfz19_1 := blk_frozen BK316.out 1; have hfz19_2 := blk_frozen BK316.out 2))
            go_meet
            case rel => exact ⟨_, (true), (by first | rfl | (simp; done) | (simp [*]; done) | (simp [bne]; done)), H', ⟨by first | omega | exact Nat.le_refl _⟩, ⟨by (with_reducible repeat (first | refine blk_drewN ?_ _ | refine blk_drew ?_ | refine blk_alloc ?_ _)); exact BK316.out⟩, ⟨by repeat (first | (with_reducible first | exact HB.out | apply below_alloc | apply pw_below_drewN | apply below_drew1 | refine below_set ?_ GE316.out) | exact HB.out)⟩⟩
          · rw [if_neg c16] at H
            have c16b0 : decide (t319 < (-100)) = false := decide_eq_false c16
            clear c16
            have H' := Aside0.mk H
            clear H
            have hcz20_0 : w9.cell? ⟨gb316, 0, none⟩ = some (.bool a1_0) := (blk_cell BK316.out 0).trans rfl
            have hcz20_1 : w9.cell? ⟨gb316, 1, none⟩ = some (.string a1_1) := (blk_cell BK316.out 1).trans rfl
            have hcz20_2 : w9.cell? ⟨gb316, 2, none⟩ = some (.int .i64 a1_2) := (blk_cell BK316.out 2).trans rfl
            have hfz20_0 := blk_frozen BK316.out 0
            have hfz20_1 := blk_frozen BK316.out 1
            have hfz20_2 := blk_frozen BK316.out 2
            go_wp2_with (first | (go_at_call 22; (with_reducible refine (tabardref7_Point.calls k a1_0 a1_1 a1_2 t319 _ A12.out).mono ?_); rintro e w21 ⟨rfl, hb⟩; have n0_ := Aside0.mk (blk_below (g := gb316) (o := .cells #[.bool a1_0, .string a1_1, .int .i64 a1_2] 36 (0, 0)) (by (with_reducible repeat (first | refine blk_drewN ?_ _ | refine blk_drew ?_ | refine blk_alloc ?_ _)); exact BK316.out) hb); have n1_ := Aside0.mk (below_step (by repeat (first | (with_reducible first | exact HB.out | apply below_alloc | apply pw_below_drewN | apply below_drew1 | refine below_set ?_ GE316.out) | exact HB.out)) hb); clear BK316; clear HB; have BK316 := n0_; have HB := n1_; clear n0_ n1_; (try clear hb); (try clear hb2); (try clear hk); (try clear hi); have hcz22_0 : w21.cell? ⟨gb316, 0, none⟩ = some (.bool a1_0) := (blk_cell BK316.out 0).trans rfl; have hcz22_1 : w21.cell? ⟨gb316, 1, none⟩ = some (.string a1_1) := (blk_cell BK316.out 1).trans rfl; have hcz22_2 : w21.cell? ⟨gb316, 2, none⟩ = some (.int .i64 a1_2) := (blk_cell BK316.out 2).trans rfl; have hfz22_0 := blk_frozen BK316.out 0; have hfz22_1 := blk_frozen BK316.out 1; have hfz22_2 := blk_frozen BK316.out 2))
            go_meet
            case rel => exact ⟨_, (decide ((a1_1.size : Int) > 200)), (by first | rfl | (simp; done) | (simp [*]; done) | (simp [bne]; done)), H', ⟨by first | omega | exact Nat.le_refl _⟩, ⟨by (with_reducible repeat (first | refine blk_drewN ?_ _ | refine blk_drew ?_ | refine blk_alloc ?_ _)); exact BK316.out⟩, ⟨by repeat (first | (with_reducible first | exact HB.out | apply below_alloc | apply pw_below_drewN | apply below_drew1 | refine below_set ?_ GE316.out) | exact HB.out)⟩⟩
      · replace c11 := Bool.eq_false_iff.mpr c11
        subst c11
        have H1 : (tabardlaw11_LocaleBack.j0 k a0 true true a1_0 a1_1 a1_2) = some r := by rw [if_neg (show ¬ (false = true) by decide)] at H; exact H
        clear H
        have H := H1
        clear H1
        have H' := Aside0.mk H
        clear H
        go_wp2
        go_meet
        case rel => exact ⟨_, (true), (by first | rfl | (simp; done) | (simp [*]; done) | (simp [bne]; done)), H', ⟨by first | omega | exact Nat.le_refl _⟩, ⟨by (with_reducible repeat (first | refine blk_drewN ?_ _ | refine blk_drew ?_ | refine blk_alloc ?_ _)); exact BK316.out⟩, ⟨by repeat (first | (with_reducible first | exact HB.out | apply below_alloc | apply pw_below_drewN | apply below_drew1 | refine below_set ?_ GE316.out) | exact HB.out)⟩⟩
    · replace c10 := Bool.eq_false_iff.mpr c10
      subst c10
      have H1 : (tabardlaw11_LocaleBack.j0 k a0 false true a1_0 a1_1 a1_2) = some r := by rw [if_neg (show ¬ (false = true) by decide)] at H; exact H
      clear H
      have H := H1
      clear H1
      have H' := Aside0.mk H
      clear H
      go_wp2
      go_meet
      case rel => exact ⟨_, (true), (by first | rfl | (simp; done) | (simp [*]; done) | (simp [bne]; done)), H', ⟨by first | omega | exact Nat.le_refl _⟩, ⟨by (with_reducible repeat (first | refine blk_drewN ?_ _ | refine blk_drew ?_ | refine blk_alloc ?_ _)); exact BK316.out⟩, ⟨by repeat (first | (with_reducible first | exact HB.out | apply below_alloc | apply pw_below_drewN | apply below_drew1 | refine below_set ?_ GE316.out) | exact HB.out)⟩⟩
  case rest =>
    clear HC5
    try clear c1
    try clear c2
    try clear p2
    try clear c5
    try clear c10
    try clear c11
    try clear c13
    try clear c13b0
    try clear c16
    try clear c16b0
    try clear c21
    try clear hcz14_0
    try clear hcz14_1
    try clear hcz14_2
    try clear hcz17_0
    try clear hcz17_1
    try clear hcz17_2
    try clear hcz19_0
    try clear hcz19_1
    try clear hcz19_2
    try clear hcz20_0
    try clear hcz20_1
    try clear hcz20_2
    try clear hcz22_0
    try clear hcz22_1
    try clear hcz22_2
    try clear hcz8_0
    try clear hcz8_1
    try clear hcz8_2
    try clear hfz14_0
    try clear hfz14_1
    try clear hfz14_2
    try clear hfz17_0
    try clear hfz17_1
    try clear hfz17_2
    try clear hfz19_0
    try clear hfz19_1
    try clear hfz19_2
    try clear hfz20_0
    try clear hfz20_1
    try clear hfz20_2
    try clear hfz22_0
    try clear hfz22_1
    try clear hfz22_2
    try clear hfz8_0
    try clear hfz8_1
    try clear hfz8_2
    obtain ⟨kq, x42_4, rfl, HA, HJ4, BK316, HB⟩ := hcut
    cases kq with
    | zero => exact absurd HA.out (by simp [tabardlaw11_LocaleBack.j0])
    | succ kj4 =>
      have H := HA.out
      clear HA
      simp only [tabardlaw11_LocaleBack.j0] at H
      by_cases c23 : x42_4 = true
      · subst c23
        have H1 : (some t317) = some r := by rw [if_pos rfl] at H; exact H
        clear H
        have H := H1
        clear H1
        obtain rfl := Option.some.inj H
        go_wp2
        go_ret
        exact ⟨by first | rfl | (simp [errW_none, errW_some] <;> rfl) | (simp [*, errW_none, errW_some] <;> rfl), by repeat (first | (with_reducible first | exact HB.out | apply below_alloc | apply pw_below_drewN | apply below_drew1 | refine below_set ?_ GE316.out) | exact HB.out)⟩
      · replace c23 := Bool.eq_false_iff.mpr c23
        subst c23
        have H1 : ((tabardlaw11_find.f a0).bind fun bt320 => ((locale_Locale_Write.f kj4 bt320.1 bt320.2.1 bt320.2.2.1 bt320.2.2.2.1 bt320.2.2.2.2.1 bt320.2.2.2.2.2.1 bt320.2.2.2.2.2.2.1 bt320.2.2.2.2.2.2.2.1 bt320.2.2.2.2.2.2.2.2.1 bt320.2.2.2.2.2.2.2.2.2.1 a1_0 a1_1 a1_2 true).bind fun t344 => (if a1_0 = true then (if (t344.size : Int) < (bt320.2.2.2.2.1.size : Int) then (none) else (if 0 ≤ (bt320.2.2.2.2.1.size : Int) then (if (bt320.2.2.2.2.1.size : Int) ≤ (t344.size : Int) then (if (t344.extract 0 ((bt320.2.2.2.2.1.size : Int) : Int).toNat).toList = bt320.2.2.2.2.1.toList then (tabardlaw11_LocaleBack.j1 kj4 (t344.extract ((bt320.2.2.2.2.1.size : Int) : Int).toNat t344.size) a1_0 a1_1 a1_2 bt320.1 bt320.2.1 bt320.2.2.1 bt320.2.2.2.1 bt320.2.2.2.2.1 bt320.2.2.2.2.2.1 bt320.2.2.2.2.2.2.1 bt320.2.2.2.2.2.2.2.1 bt320.2.2.2.2.2.2.2.2.1 bt320.2.2.2.2.2.2.2.2.2.1) else (none)) else (none)) else (none))) else (tabardlaw11_LocaleBack.j1 kj4 t344 a1_0 a1_1 a1_2 bt320.1 bt320.2.1 bt320.2.2.1 bt320.2.2.2.1 bt320.2.2.2.2.1 bt320.2.2.2.2.2.1 bt320.2.2.2.2.2.2.1 bt320.2.2.2.2.2.2.2.1 bt320.2.2.2.2.2.2.2.2.1 bt320.2.2.2.2.2.2.2.2.2.1)))) = some r := by rw [if_neg (show ¬ (false = true) by decide)] at H; exact H
        clear H
        have H := H1
        clear H1
        replace H := Option.bind_eq_some_iff.mp H
        obtain ⟨⟨t320, t321, t322, t323, t324, t325, t326, t327, t328, t329, t332, t333, t334, t335, t336, t337, t338, t339, t340, t341⟩, A240, H⟩ := H
        replace H : ((locale_Locale_Write.f kj4 t320 t321 t322 t323 t324 t325 t326 t327 t328 t329 a1_0 a1_1 a1_2 true).bind fun t344 => (if a1_0 = true then (if (t344.size : Int) < (t324.size : Int) then (none) else (if 0 ≤ (t324.size : Int) then (if (t324.size : Int) ≤ (t344.size : Int) then (if (t344.extract 0 ((t324.size : Int) : Int).toNat).toList = t324.toList then (tabardlaw11_LocaleBack.j1 kj4 (t344.extract ((t324.size : Int) : Int).toNat t344.size) a1_0 a1_1 a1_2 t320 t321 t322 t323 t324 t325 t326 t327 t328 t329) else (none)) else (none)) else (none))) else (tabardlaw11_LocaleBack.j1 kj4 t344 a1_0 a1_1 a1_2 t320 t321 t322 t323 t324 t325 t326 t327 t328 t329))) = some r := H
        have A24 := Aside0.mk A240
        clear A240
        replace H := Option.bind_eq_some_iff.mp H
        obtain ⟨t344, A250, H⟩ := H
        replace H : (if a1_0 = true then (if (t344.size : Int) < (t324.size : Int) then (none) else (if 0 ≤ (t324.size : Int) then (if (t324.size : Int) ≤ (t344.size : Int) then (if (t344.extract 0 ((t324.size : Int) : Int).toNat).toList = t324.toList then (tabardlaw11_LocaleBack.j1 kj4 (t344.extract ((t324.size : Int) : Int).toNat t344.size) a1_0 a1_1 a1_2 t320 t321 t322 t323 t324 t325 t326 t327 t328 t329) else (none)) else (none)) else (none))) else (tabardlaw11_LocaleBack.j1 kj4 t344 a1_0 a1_1 a1_2 t320 t321 t322 t323 t324 t325 t326 t327 t328 t329)) = some r := H
        have A25 := Aside0.mk A250
        clear A250
        have HC26 := Aside0.mk H
        clear H
        go_upto_if 53 with (first | ((with_reducible refine gate_callee (f := 11) rfl ?_); refine goesL_ (some 46) rfl rfl Tryd.func11 (by kernel_rfl) rfl #[.int .i64 a0] rfl (by (try simp only [List.map_toArray, List.map_cons, List.map_nil]); first | done | rfl | (simp only [List.length_drop, List.length_take]; rfl)) ?_; (with_reducible refine (tabardlaw11_find.calls a0 t320 t321 t322 t323 t324 t325 t326 t327 t328 t329 t332 t333 t334 t335 t336 t337 t338 t339 t340 t341 _ ?side1 A24.out).mono ?_); (case side1 => exact GL.below HGL.out (by repeat (first | (with_reducible first | exact HB.out | apply below_alloc | apply pw_below_drewN | apply below_drew1 | refine below_set ?_ GE316.out) | exact HB.out))); rintro e w27 ⟨v330, rfl, ho0, hb⟩; refine ⟨_, rfl, ?_⟩; have n0_ := Aside0.mk (Kd.R_lower ho0 (below_size (by repeat (first | (with_reducible first | exact HB.out | apply below_alloc | apply pw_below_drewN | apply below_drew1 | refine below_set ?_ GE316.out) | exact HB.out)))); have n1_ := Aside0.mk (blk_below (g := gb316) (o := .cells #[.bool a1_0, .string a1_1, .int .i64 a1_2] 36 (0, 0)) (by (with_reducible repeat (first | refine blk_drewN ?_ _ | refine blk_drew ?_ | refine blk_alloc ?_ _)); exact BK316.out) hb); have n2_ := Aside0.mk (below_step (by repeat (first | (with_reducible first | exact HB.out | apply below_alloc | apply pw_below_drewN | apply below_drew1 | refine below_set ?_ GE316.out) | exact HB.out)) hb); clear BK316; clear HB; have HO331 := n0_; have BK316 := n1_; have HB := n2_; clear n0_ n1_ n2_; (try clear hb); (try clear hb2); (try clear hk); (try clear hi); (try clear ho0)) | ((with_reducible refine gate_dst (N := 7) rfl ?_); (try (refine gate_guard (by rfl) ?_; dsimp only)); refine box_event ?hg (N := 7) ?hd (cs := #[.string (⟨#[]⟩ : ByteArray), .string (⟨#[]⟩ : ByteArray), .string (⟨#[]⟩ : ByteArray), .string (⟨#[]⟩ : ByteArray), .string (⟨#[]⟩ : ByteArray), .string (⟨#[]⟩ : ByteArray), .string (⟨#[]⟩ : ByteArray), .bool false, .bool false, .slice none 0 0]) (t := 25) ?hr ?_; (case hd => rfl); (case hg => rfl); (case hr => first | (go_simp; done) | (go_simp; rfl)); intro gb342 hg w28 hbox hb; have n0_ := Aside0.mk (Kd.R_below (by (with_reducible repeat (first | apply Kd.R_alloc | apply Kd.R_drewN | apply Kd.R_drew)); exact HO331.out) hb); have n1_ := Aside0.mk (blk_below (g := gb316) (o := .cells #[.bool a1_0, .string a1_1, .int .i64 a1_2] 36 (0, 0)) (by (with_reducible repeat (first | refine blk_drewN ?_ _ | refine blk_drew ?_ | refine blk_alloc ?_ _)); exact BK316.out) hb); have n2_ := Aside0.mk (below_step (by repeat (first | (with_reducible first | exact HB.out | apply below_alloc | apply pw_below_drewN | apply below_drew1 | refine below_set ?_ GE316.out) | exact HB.out)) hb); have n3_ := Aside0.mk (hbox); have n4_ := Aside0.mk ((by rw [hg]; exact (below_size (by repeat (first | (with_reducible first | exact HB.out | apply below_alloc | apply pw_below_drewN | apply below_drew1 | refine below_set ?_ GE316.out) | exact HB.out))) : w.heap.size ≤ gb342)); have n5_ := Aside0.mk ((by rw [hg]; exact (below_size (by repeat (first | (with_reducible first | exact HB.out | apply below_alloc | apply pw_below_drewN | apply below_drew1 | refine below_set ?_ GE316.out) | exact HB.out))) : w.heap.size ≤ gb342)); have n6_ := Aside0.mk ((by rw [hg]; exact Nat.ne_of_lt (blk_lt (g := gb316) (o := .cells #[.bool a1_0, .string a1_1, .int .i64 a1_2] 36 (0, 0)) (by (with_reducible repeat (first | refine blk_drewN ?_ _ | refine blk_drew ?_ | refine blk_alloc ?_ _)); exact BK316.out)) : gb316 ≠ gb342)); have n7_ := Aside0.mk ((by rw [hg]; exact Nat.ne_of_gt (blk_lt (g := gb316) (o := .cells #[.bool a1_0, .string a1_1, .int .i64 a1_2] 36 (0, 0)) (by (with_reducible repeat (first | refine blk_drewN ?_ _ | refine blk_drew ?_ | refine blk_alloc ?_ _)); exact BK316.out)) : gb342 ≠ gb316)); clear HO331; clear BK316; clear HB; have HO331 := n0_; have BK316 := n1_; have HB := n2_; have BK342 := n3_; have GW342 := n4_; have GE342 := n5_; have NB316_342 := n6_; have NB342_316 := n7_; clear n0_ n1_ n2_ n3_ n4_ n5_ n6_ n7_; clear hb hbox hg) | ((with_reducible refine gate_dst (N := 8) rfl ?_); (try (refine gate_guard (by rfl) ?_; dsimp only)); refine box_event ?hg (N := 8) ?hd (cs := #[.string (⟨#[]⟩ : ByteArray), .string (⟨#[]⟩ : ByteArray), .string (⟨#[]⟩ : ByteArray), .string (⟨#[]⟩ : ByteArray), .string (⟨#[]⟩ : ByteArray), .string (⟨#[]⟩ : ByteArray), .string (⟨#[]⟩ : ByteArray), .bool false, .bool false, .int .i64 0]) (t := 27) ?hr ?_; (case hd => rfl); (case hg => rfl); (case hr => first | (go_simp; done) | (go_simp; rfl)); intro gb343 hg w29 hbox hb; have n0_ := Aside0.mk (Kd.R_below (by (with_reducible repeat (first | apply Kd.R_alloc | apply Kd.R_drewN | apply Kd.R_drew)); exact HO331.out) hb); have n1_ := Aside0.mk (blk_below (g := gb316) (o := .cells #[.bool a1_0, .string a1_1, .int .i64 a1_2] 36 (0, 0)) (by (with_reducible repeat (first | refine blk_drewN ?_ _ | refine blk_drew ?_ | refine blk_alloc ?_ _)); exact BK316.out) hb); have n2_ := Aside0.mk (blk_below (g := gb342) (o := .cells #[.string (⟨#[]⟩ : ByteArray), .string (⟨#[]⟩ : ByteArray), .string (⟨#[]⟩ : ByteArray), .string (⟨#[]⟩ : ByteArray), .string (⟨#[]⟩ : ByteArray), .string (⟨#[]⟩ : ByteArray), .string (⟨#[]⟩ : ByteArray), .bool false, .bool false, .slice none 0 0] 25 (0, 0)) (by (with_reducible repeat (first | refine blk_drewN ?_ _ | refine blk_drew ?_ | refine blk_alloc ?_ _)); exact BK342.out) hb); have n3_ := Aside0.mk (below_step (by repeat (first | (with_reducible first | exact HB.out | apply below_alloc | apply pw_below_drewN | apply below_drew1 | refine below_set ?_ GE316.out | refine below_set ?_ GE342.out) | exact HB.out)) hb); have n4_ := Aside0.mk (hbox); have n5_ := Aside0.mk ((by rw [hg]; exact (below_size (by repeat (first | (with_reducible first | exact HB.out | apply below_alloc | apply pw_below_drewN | apply below_drew1 | refine below_set ?_ GE316.out | refine below_set ?_ GE342.out) | exact HB.out))) : w.heap.size ≤ gb343)); have n6_ := Aside0.mk ((by rw [hg]; exact (below_size (by repeat (first | (with_reducible first | exact HB.out | apply below_alloc | apply pw_below_drewN | apply below_drew1 | refine below_set ?_ GE316.out | refine below_set ?_ GE342.out) | exact HB.out))) : w.heap.size ≤ gb343)); have n7_ := Aside0.mk ((by rw [hg]; exact Nat.ne_of_lt (blk_lt (g := gb316) (o := .cells #[.bool a1_0, .string a1_1, .int .i64 a1_2] 36 (0, 0)) (by (with_reducible repeat (first | refine blk_drewN ?_ _ | refine blk_drew ?_ | refine blk_alloc ?_ _)); exact BK316.out)) : gb316 ≠ gb343)); have n8_ := Aside0.mk ((by rw [hg]; exact Nat.ne_of_gt (blk_lt (g := gb316) (o := .cells #[.bool a1_0, .string a1_1, .int .i64 a1_2] 36 (0, 0)) (by (with_reducible repeat (first | refine blk_drewN ?_ _ | refine blk_drew ?_ | refine blk_alloc ?_ _)); exact BK316.out)) : gb343 ≠ gb316)); have n9_ := Aside0.mk ((by rw [hg]; exact Nat.ne_of_lt (blk_lt (g := gb342) (o := .cells #[.string (⟨#[]⟩ : ByteArray), .string (⟨#[]⟩ : ByteArray), .string (⟨#[]⟩ : ByteArray), .string (⟨#[]⟩ : ByteArray), .string (⟨#[]⟩ : ByteArray), .string (⟨#[]⟩ : ByteArray), .string (⟨#[]⟩ : ByteArray), .bool false, .bool false, .slice none 0 0] 25 (0, 0)) (by (with_reducible repeat (first | refine blk_drewN ?_ _ | refine blk_drew ?_ | refine blk_alloc ?_ _)); exact BK342.out)) : gb342 ≠ gb343)); have n10_ := Aside0.mk ((by rw [hg]; exact Nat.ne_of_gt (blk_lt (g := gb342) (o := .cells #[.string (⟨#[]⟩ : ByteArray), .string (⟨#[]⟩ : ByteArray), .string (⟨#[]⟩ : ByteArray), .string (⟨#[]⟩ : ByteArray), .string (⟨#[]⟩ : ByteArray), .string (⟨#[]⟩ : ByteArray), .string (⟨#[]⟩ : ByteArray), .bool false, .bool false, .slice none 0 0] 25 (0, 0)) (by (with_reducible repeat (first | refine blk_drewN ?_ _ | refine blk_drew ?_ | refine blk_alloc ?_ _)); exact BK342.out)) : gb343 ≠ gb342)); clear HO331; clear BK316; clear BK342; clear HB; have HO331 := n0_; have BK316 := n1_; have BK342 := n2_; have HB := n3_; have BK343 := n4_; have GW343 := n5_; have GE343 := n6_; have NB316_343 := n7_; have NB343_316 := n8_; have NB342_343 := n9_; have NB343_342 := n10_; clear n0_ n1_ n2_ n3_ n4_ n5_ n6_ n7_ n8_ n9_ n10_; clear hb hbox hg; have hnb30 := NB342_316.out; have hnc30 := NB316_342.out; have hnb31 := NB342_343.out; have hnc31 := NB343_342.out; have hcz32_0 : w29.cell? ⟨gb342, 0, none⟩ = some (.string (⟨#[]⟩ : ByteArray)) := (blk_cell BK342.out 0).trans rfl; have hcz32_1 : w29.cell? ⟨gb342, 1, none⟩ = some (.string (⟨#[]⟩ : ByteArray)) := (blk_cell BK342.out 1).trans rfl; have hcz32_2 : w29.cell? ⟨gb342, 2, none⟩ = some (.string (⟨#[]⟩ : ByteArray)) := (blk_cell BK342.out 2).trans rfl; have hcz32_3 : w29.cell? ⟨gb342, 3, none⟩ = some (.string (⟨#[]⟩ : ByteArray)) := (blk_cell BK342.out 3).trans rfl; have hcz32_4 : w29.cell? ⟨gb342, 4, none⟩ = some (.string (⟨#[]⟩ : ByteArray)) := (blk_cell BK342.out 4).trans rfl; have hcz32_5 : w29.cell? ⟨gb342, 5, none⟩ = some (.string (⟨#[]⟩ : ByteArray)) := (blk_cell BK342.out 5).trans rfl; have hcz32_6 : w29.cell? ⟨gb342, 6, none⟩ = some (.string (⟨#[]⟩ : ByteArray)) := (blk_cell BK342.out 6).trans rfl; have hcz32_7 : w29.cell? ⟨gb342, 7, none⟩ = some (.bool false) := (blk_cell BK342.out 7).trans rfl; have hcz32_8 : w29.cell? ⟨gb342, 8, none⟩ = some (.bool false) := (blk_cell BK342.out 8).trans rfl; have hcz32_9 : w29.cell? ⟨gb342, 9, none⟩ = some (.slice none 0 0) := (blk_cell BK342.out 9).trans rfl; have hfz32_0 := blk_frozen BK342.out 0; have hfz32_1 := blk_frozen BK342.out 1; have hfz32_2 := blk_frozen BK342.out 2; have hfz32_3 := blk_frozen BK342.out 3; have hfz32_4 := blk_frozen BK342.out 4; have hfz32_5 := blk_frozen BK342.out 5; have hfz32_6 := blk_frozen BK342.out 6; have hfz32_7 := blk_frozen BK342.out 7; have hfz32_8 := blk_frozen BK342.out 8; have hfz32_9 := blk_frozen BK342.out 9; obtain ⟨Ao33, co33, eo33⟩ := Kd.R_slice HO331.out; subst eo33; have hnb34 := NB343_316.out; have hnc34 := NB316_343.out; have hcz35_0 : w29.cell? ⟨gb343, 0, none⟩ = some (.string (⟨#[]⟩ : ByteArray)) := (blk_cell BK343.out 0).trans rfl; have hcz35_1 : w29.cell? ⟨gb343, 1, none⟩ = some (.string (⟨#[]⟩ : ByteArray)) := (blk_cell BK343.out 1).trans rfl; have hcz35_2 : w29.cell? ⟨gb343, 2, none⟩ = some (.string (⟨#[]⟩ : ByteArray)) := (blk_cell BK343.out 2).trans rfl; have hcz35_3 : w29.cell? ⟨gb343, 3, none⟩ = some (.string (⟨#[]⟩ : ByteArray)) := (blk_cell BK343.out 3).trans rfl; have hcz35_4 : w29.cell? ⟨gb343, 4, none⟩ = some (.string (⟨#[]⟩ : ByteArray)) := (blk_cell BK343.out 4).trans rfl; have hcz35_5 : w29.cell? ⟨gb343, 5, none⟩ = some (.string (⟨#[]⟩ : ByteArray)) := (blk_cell BK343.out 5).trans rfl; have hcz35_6 : w29.cell? ⟨gb343, 6, none⟩ = some (.string (⟨#[]⟩ : ByteArray)) := (blk_cell BK343.out 6).trans rfl; have hcz35_7 : w29.cell? ⟨gb343, 7, none⟩ = some (.bool false) := (blk_cell BK343.out 7).trans rfl; have hcz35_8 : w29.cell? ⟨gb343, 8, none⟩ = some (.bool false) := (blk_cell BK343.out 8).trans rfl; have hcz35_9 : w29.cell? ⟨gb343, 9, none⟩ = some (.int .i64 0) := (blk_cell BK343.out 9).trans rfl; have hfz35_0 := blk_frozen BK343.out 0; have hfz35_1 := blk_frozen BK343.out 1; have hfz35_2 := blk_frozen BK343.out 2; have hfz35_3 := blk_frozen BK343.out 3; have hfz35_4 := blk_frozen BK343.out 4; have hfz35_5 := blk_frozen BK343.out 5; have hfz35_6 := blk_frozen BK343.out 6; have hfz35_7 := blk_frozen BK343.out 7; have hfz35_8 := blk_frozen BK343.out 8; have hfz35_9 := blk_frozen BK343.out 9; have hcz36_0 : w29.cell? ⟨gb316, 0, none⟩ = some (.bool a1_0) := (blk_cell BK316.out 0).trans rfl; have hcz36_1 : w29.cell? ⟨gb316, 1, none⟩ = some (.string a1_1) := (blk_cell BK316.out 1).trans rfl; have hcz36_2 : w29.cell? ⟨gb316, 2, none⟩ = some (.int .i64 a1_2) := (blk_cell BK316.out 2).trans rfl; have hfz36_0 := blk_frozen BK316.out 0; have hfz36_1 := blk_frozen BK316.out 1; have hfz36_2 := blk_frozen BK316.out 2) | ((with_reducible refine gate_callee (f := 17) rfl ?_); refine goesL_ (some 51) rfl rfl Tryd.func17 (by kernel_rfl) rfl #[.agg #[.string t320, .string t321, .string t322, .string t323, .string t324, .string t325, .string t326, .bool t327, .bool t328, .slice Ao33 t329.length co33], .agg #[.bool a1_0, .string a1_1, .int .i64 a1_2], .bool true] rfl (by (try simp only [List.map_toArray, List.map_cons, List.map_nil]); first | done | rfl | (simp only [List.length_drop, List.length_take]; rfl)) ?_; (with_reducible refine (locale_Locale_Write.calls kj4 t320 t321 t322 t323 t324 t325 t326 t327 t328 _ _ t329 a1_0 a1_1 a1_2 true t344 _ ?side1 ?side2 A25.out).mono ?_); (case side1 => refine (Kd.R_reads' (e := 3) (base := w.heap.size) (ok := fun k_ => True) (n := t329.length) (c := co33) ?_).2.2; exact (by (with_reducible repeat (first | apply Kd.R_alloc | apply Kd.R_drewN | apply Kd.R_drew)); exact (Kd.R_mono (Kd.R_mono (Kd.R_far (p := ⟨gb343, 9, none⟩) (Kd.R_far (p := ⟨gb343, 8, none⟩) (Kd.R_far (p := ⟨gb343, 7, none⟩) (Kd.R_far (p := ⟨gb343, 6, none⟩) (Kd.R_far (p := ⟨gb343, 5, none⟩) (Kd.R_far (p := ⟨gb343, 4, none⟩) (Kd.R_far (p := ⟨gb343, 3, none⟩) (Kd.R_far (p := ⟨gb343, 2, none⟩) (Kd.R_far (p := ⟨gb343, 1, none⟩) (Kd.R_far (p := ⟨gb343, 0, none⟩) (Kd.R_far (p := ⟨gb342, 9, none⟩) (Kd.R_far (p := ⟨gb342, 8, none⟩) (Kd.R_far (p := ⟨gb342, 7, none⟩) (Kd.R_far (p := ⟨gb342, 6, none⟩) (Kd.R_far (p := ⟨gb342, 5, none⟩) (Kd.R_far (p := ⟨gb342, 4, none⟩) (Kd.R_far (p := ⟨gb342, 3, none⟩) (Kd.R_far (p := ⟨gb342, 2, none⟩) (Kd.R_far (p := ⟨gb342, 1, none⟩) (Kd.R_far (p := ⟨gb342, 0, none⟩) (Kd.R_types (Kd.R_types HO331.out BK342.out (by decide)) BK343.out (by decide)) (fun _ hk => hk.1.2) (.string t320)) (fun _ hk => hk.1.2) (.string t321)) (fun _ hk => hk.1.2) (.string t322)) (fun _ hk => hk.1.2) (.string t323)) (fun _ hk => hk.1.2) (.string t324)) (fun _ hk => hk.1.2) (.string t325)) (fun _ hk => hk.1.2) (.string t326)) (fun _ hk => hk.1.2) (.bool t327)) (fun _ hk => hk.1.2) (.bool t328)) (fun _ hk => hk.1.2) (.slice Ao33 t329.length co33)) (fun _ hk => hk.2) (.string t332)) (fun _ hk => hk.2) (.string t333)) (fun _ hk => hk.2) (.string t334)) (fun _ hk => hk.2) (.string t335)) (fun _ hk => hk.2) (.string t336)) (fun _ hk => hk.2) (.string t337)) (fun _ hk => hk.2) (.string t338)) (fun _ hk => hk.2) (.bool t339)) (fun _ hk => hk.2) (.bool t340)) (fun _ hk => hk.2) (.int .i64 t341)) (fun _ h_ => h_.1)) (fun _ h_ => h_.1)))); (case side2 => exact (Kd.R_reads' HO331.out).2.1); rintro e w37 ⟨rfl, hb⟩; refine ⟨_, rfl, ?_⟩; have n0_ := Aside0.mk (Kd.R_below (by (with_reducible repeat (first | apply Kd.R_alloc | apply Kd.R_drewN | apply Kd.R_drew)); exact (Kd.R_mono (Kd.R_mono (Kd.R_far (p := ⟨gb343, 9, none⟩) (Kd.R_far (p := ⟨gb343, 8, none⟩) (Kd.R_far (p := ⟨gb343, 7, none⟩) (Kd.R_far (p := ⟨gb343, 6, none⟩) (Kd.R_far (p := ⟨gb343, 5, none⟩) (Kd.R_far (p := ⟨gb343, 4, none⟩) (Kd.R_far (p := ⟨gb343, 3, none⟩) (Kd.R_far (p := ⟨gb343, 2, none⟩) (Kd.R_far (p := ⟨gb343, 1, none⟩) (Kd.R_far (p := ⟨gb343, 0, none⟩) (Kd.R_far (p := ⟨gb342, 9, none⟩) (Kd.R_far (p := ⟨gb342, 8, none⟩) (Kd.R_far (p := ⟨gb342, 7, none⟩) (Kd.R_far (p := ⟨gb342, 6, none⟩) (Kd.R_far (p := ⟨gb342, 5, none⟩) (Kd.R_far (p := ⟨gb342, 4, none⟩) (Kd.R_far (p := ⟨gb342, 3, none⟩) (Kd.R_far (p := ⟨gb342, 2, none⟩) (Kd.R_far (p := ⟨gb342, 1, none⟩) (Kd.R_far (p := ⟨gb342, 0, none⟩) (Kd.R_types (Kd.R_types HO331.out BK342.out (by decide)) BK343.out (by decide)) (fun _ hk => hk.1.2) (.string t320)) (fun _ hk => hk.1.2) (.string t321)) (fun _ hk => hk.1.2) (.string t322)) (fun _ hk => hk.1.2) (.string t323)) (fun _ hk => hk.1.2) (.string t324)) (fun _ hk => hk.1.2) (.string t325)) (fun _ hk => hk.1.2) (.string t326)) (fun _ hk => hk.1.2) (.bool t327)) (fun _ hk => hk.1.2) (.bool t328)) (fun _ hk => hk.1.2) (.slice Ao33 t329.length co33)) (fun _ hk => hk.2) (.string t332)) (fun _ hk => hk.2) (.string t333)) (fun _ hk => hk.2) (.string t334)) (fun _ hk => hk.2) (.string t335)) (fun _ hk => hk.2) (.string t336)) (fun _ hk => hk.2) (.string t337)) (fun _ hk => hk.2) (.string t338)) (fun _ hk => hk.2) (.bool t339)) (fun _ hk => hk.2) (.bool t340)) (fun _ hk => hk.2) (.int .i64 t341)) (fun _ h_ => h_.1)) (fun _ h_ => h_.1))) hb); have n1_ := Aside0.mk (blk_below (g := gb316) (o := .cells #[.bool a1_0, .string a1_1, .int .i64 a1_2] 36 (0, 0)) (by (with_reducible repeat (first | refine blk_drewN ?_ _ | refine blk_drew ?_ | refine blk_alloc ?_ _)); refine blk_far ?_ NB316_343.out _; (with_reducible repeat (first | refine blk_drewN ?_ _ | refine blk_drew ?_ | refine blk_alloc ?_ _)); refine blk_far ?_ NB316_343.out _; (with_reducible repeat (first | refine blk_drewN ?_ _ | refine blk_drew ?_ | refine blk_alloc ?_ _)); refine blk_far ?_ NB316_343.out _; (with_reducible repeat (first | refine blk_drewN ?_ _ | refine blk_drew ?_ | refine blk_alloc ?_ _)); refine blk_far ?_ NB316_343.out _; (with_reducible repeat (first | refine blk_drewN ?_ _ | refine blk_drew ?_ | refine blk_alloc ?_ _)); refine blk_far ?_ NB316_343.out _; (with_reducible repeat (first | refine blk_drewN ?_ _ | refine blk_drew ?_ | refine blk_alloc ?_ _)); refine blk_far ?_ NB316_343.out _; (with_reducible repeat (first | refine blk_drewN ?_ _ | refine blk_drew ?_ | refine blk_alloc ?_ _)); refine blk_far ?_ NB316_343.out _; (with_reducible repeat (first | refine blk_drewN ?_ _ | refine blk_drew ?_ | refine blk_alloc ?_ _)); refine blk_far ?_ NB316_343.out _; (with_reducible repeat (first | refine blk_drewN ?_ _ | refine blk_drew ?_ | refine blk_alloc ?_ _)); refine blk_far ?_ NB316_343.out _; (with_reducible repeat (first | refine blk_drewN ?_ _ | refine blk_drew ?_ | refine blk_alloc ?_ _)); refine blk_far ?_ NB316_343.out _; (with_reducible repeat (first | refine blk_drewN ?_ _ | refine blk_drew ?_ | refine blk_alloc ?_ _)); refine blk_far ?_ NB316_342.out _; (with_reducible repeat (first | refine blk_drewN ?_ _ | refine blk_drew ?_ | refine blk_alloc ?_ _)); refine blk_far ?_ NB316_342.out _; (with_reducible repeat (first | refine blk_drewN ?_ _ | refine blk_drew ?_ | refine blk_alloc ?_ _)); refine blk_far ?_ NB316_342.out _; (with_reducible repeat (first | refine blk_drewN ?_ _ | refine blk_drew ?_ | refine blk_alloc ?_ _)); refine blk_far ?_ NB316_342.out _; (with_reducible repeat (first | refine blk_drewN ?_ _ | refine blk_drew ?_ | refine blk_alloc ?_ _)); refine blk_far ?_ NB316_342.out _; (with_reducible repeat (first | refine blk_drewN ?_ _ | refine blk_drew ?_ | refine blk_alloc ?_ _)); refine blk_far ?_ NB316_342.out _; (with_reducible repeat (first | refine blk_drewN ?_ _ | refine blk_drew ?_ | refine blk_alloc ?_ _)); refine blk_far ?_ NB316_342.out _; (with_reducible repeat (first | refine blk_drewN ?_ _ | refine blk_drew ?_ | refine blk_alloc ?_ _)); refine blk_far ?_ NB316_342.out _; (with_reducible repeat (first | refine blk_drewN ?_ _ | refine blk_drew ?_ | refine blk_alloc ?_ _)); refine blk_far ?_ NB316_342.out _; (with_reducible repeat (first | refine blk_drewN ?_ _ | refine blk_drew ?_ | refine blk_alloc ?_ _)); refine blk_far ?_ NB316_342.out _; (with_reducible repeat (first | refine blk_drewN ?_ _ | refine blk_drew ?_ | refine blk_alloc ?_ _)); exact BK316.out) hb); have n2_ := Aside0.mk (blk_below (g := gb342) (o := .cells #[.string t320, .string t321, .string t322, .string t323, .string t324, .string t325, .string t326, .bool t327, .bool t328, .slice Ao33 t329.length co33] 25 (0, 0)) (by (with_reducible repeat (first | refine blk_drewN ?_ _ | refine blk_drew ?_ | refine blk_alloc ?_ _)); refine blk_far ?_ NB342_343.out _; (with_reducible repeat (first | refine blk_drewN ?_ _ | refine blk_drew ?_ | refine blk_alloc ?_ _)); refine blk_far ?_ NB342_343.out _; (with_reducible repeat (first | refine blk_drewN ?_ _ | refine blk_drew ?_ | refine blk_alloc ?_ _)); refine blk_far ?_ NB342_343.out _; (with_reducible repeat (first | refine blk_drewN ?_ _ | refine blk_drew ?_ | refine blk_alloc ?_ _)); refine blk_far ?_ NB342_343.out _; (with_reducible repeat (first | refine blk_drewN ?_ _ | refine blk_drew ?_ | refine blk_alloc ?_ _)); refine blk_far ?_ NB342_343.out _; (with_reducible repeat (first | refine blk_drewN ?_ _ | refine blk_drew ?_ | refine blk_alloc ?_ _)); refine blk_far ?_ NB342_343.out _; (with_reducible repeat (first | refine blk_drewN ?_ _ | refine blk_drew ?_ | refine blk_alloc ?_ _)); refine blk_far ?_ NB342_343.out _; (with_reducible repeat (first | refine blk_drewN ?_ _ | refine blk_drew ?_ | refine blk_alloc ?_ _)); refine blk_far ?_ NB342_343.out _; (with_reducible repeat (first | refine blk_drewN ?_ _ | refine blk_drew ?_ | refine blk_alloc ?_ _)); refine blk_far ?_ NB342_343.out _; (with_reducible repeat (first | refine blk_drewN ?_ _ | refine blk_drew ?_ | refine blk_alloc ?_ _)); refine blk_far ?_ NB342_343.out _; (with_reducible repeat (first | refine blk_drewN ?_ _ | refine blk_drew ?_ | refine blk_alloc ?_ _)); refine blk_put (cs := #[.string t320, .string t321, .string t322, .string t323, .string t324, .string t325, .string t326, .bool t327, .bool t328, .slice none 0 0]) ?_ 9 _ rfl; (with_reducible repeat (first | refine blk_drewN ?_ _ | refine blk_drew ?_ | refine blk_alloc ?_ _)); refine blk_put (cs := #[.string t320, .string t321, .string t322, .string t323, .string t324, .string t325, .string t326, .bool t327, .bool false, .slice none 0 0]) ?_ 8 _ rfl; (with_reducible repeat (first | refine blk_drewN ?_ _ | refine blk_drew ?_ | refine blk_alloc ?_ _)); refine blk_put (cs := #[.string t320, .string t321, .string t322, .string t323, .string t324, .string t325, .string t326, .bool false, .bool false, .slice none 0 0]) ?_ 7 _ rfl; (with_reducible repeat (first | refine blk_drewN ?_ _ | refine blk_drew ?_ | refine blk_alloc ?_ _)); refine blk_put (cs := #[.string t320, .string t321, .string t322, .string t323, .string t324, .string t325, .string (⟨#[]⟩ : ByteArray), .bool false, .bool false, .slice none 0 0]) ?_ 6 _ rfl; (with_reducible repeat (first | refine blk_drewN ?_ _ | refine blk_drew ?_ | refine blk_alloc ?_ _)); refine blk_put (cs := #[.string t320, .string t321, .string t322, .string t323, .string t324, .string (⟨#[]⟩ : ByteArray), .string (⟨#[]⟩ : ByteArray), .bool false, .bool false, .slice none 0 0]) ?_ 5 _ rfl; (with_reducible repeat (first | refine blk_drewN ?_ _ | refine blk_drew ?_ | refine blk_alloc ?_ _)); refine blk_put (cs := #[.string t320, .string t321, .string t322, .string t323, .string (⟨#[]⟩ : ByteArray), .string (⟨#[]⟩ : ByteArray), .string (⟨#[]⟩ : ByteArray), .bool false, .bool false, .slice none 0 0]) ?_ 4 _ rfl; (with_reducible repeat (first | refine blk_drewN ?_ _ | refine blk_drew ?_ | refine blk_alloc ?_ _)); refine blk_put (cs := #[.string t320, .string t321, .string t322, .string (⟨#[]⟩ : ByteArray), .string (⟨#[]⟩ : ByteArray), .string (⟨#[]⟩ : ByteArray), .string (⟨#[]⟩ : ByteArray), .bool false, .bool false, .slice none 0 0]) ?_ 3 _ rfl; (with_reducible repeat (first | refine blk_drewN ?_ _ | refine blk_drew ?_ | refine blk_alloc ?_ _)); refine blk_put (cs := #[.string t320, .string t321, .string (⟨#[]⟩ : ByteArray), .string (⟨#[]⟩ : ByteArray), .string (⟨#[]⟩ : ByteArray), .string (⟨#[]⟩ : ByteArray), .string (⟨#[]⟩ : ByteArray), .bool false, .bool false, .slice none 0 0]) ?_ 2 _ rfl; (with_reducible repeat (first | refine blk_drewN ?_ _ | refine blk_drew ?_ | refine blk_alloc ?_ _)); refine blk_put (cs := #[.string t320, .string (⟨#[]⟩ : ByteArray), .string (⟨#[]⟩ : ByteArray), .string (⟨#[]⟩ : ByteArray), .string (⟨#[]⟩ : ByteArray), .string (⟨#[]⟩ : ByteArray), .string (⟨#[]⟩ : ByteArray), .bool false, .bool false, .slice none 0 0]) ?_ 1 _ rfl; (with_reducible repeat (first | refine blk_drewN ?_ _ | refine blk_drew ?_ | refine blk_alloc ?_ _)); refine blk_put (cs := #[.string (⟨#[]⟩ : ByteArray), .string (⟨#[]⟩ : ByteArray), .string (⟨#[]⟩ : ByteArray), .string (⟨#[]⟩ : ByteArray), .string (⟨#[]⟩ : ByteArray), .string (⟨#[]⟩ : ByteArray), .string (⟨#[]⟩ : ByteArray), .bool false, .bool false, .slice none 0 0]) ?_ 0 _ rfl; (with_reducible repeat (first | refine blk_drewN ?_ _ | refine blk_drew ?_ | refine blk_alloc ?_ _)); exact BK342.out) hb); have n3_ := Aside0.mk (blk_below (g := gb343) (o := .cells #[.string t332, .string t333, .string t334, .string t335, .string t336, .string t337, .string t338, .bool t339, .bool t340, .int .i64 t341] 27 (0, 0)) (by (with_reducible repeat (first | refine blk_drewN ?_ _ | refine blk_drew ?_ | refine blk_alloc ?_ _)); refine blk_put (cs := #[.string t332, .string t333, .string t334, .string t335, .string t336, .string t337, .string t338, .bool t339, .bool t340, .int .i64 0]) ?_ 9 _ rfl; (with_reducible repeat (first | refine blk_drewN ?_ _ | refine blk_drew ?_ | refine blk_alloc ?_ _)); refine blk_put (cs := #[.string t332, .string t333, .string t334, .string t335, .string t336, .string t337, .string t338, .bool t339, .bool false, .int .i64 0]) ?_ 8 _ rfl; (with_reducible repeat (first | refine blk_drewN ?_ _ | refine blk_drew ?_ | refine blk_alloc ?_ _)); refine blk_put (cs := #[.string t332, .string t333, .string t334, .string t335, .string t336, .string t337, .string t338, .bool false, .bool false, .int .i64 0]) ?_ 7 _ rfl; (with_reducible repeat (first | refine blk_drewN ?_ _ | refine blk_drew ?_ | refine blk_alloc ?_ _)); refine blk_put (cs := #[.string t332, .string t333, .string t334, .string t335, .string t336, .string t337, .string (⟨#[]⟩ : ByteArray), .bool false, .bool false, .int .i64 0]) ?_ 6 _ rfl; (with_reducible repeat (first | refine blk_drewN ?_ _ | refine blk_drew ?_ | refine blk_alloc ?_ _)); refine blk_put (cs := #[.string t332, .string t333, .string t334, .string t335, .string t336, .string (⟨#[]⟩ : ByteArray), .string (⟨#[]⟩ : ByteArray), .bool false, .bool false, .int .i64 0]) ?_ 5 _ rfl; (with_reducible repeat (first | refine blk_drewN ?_ _ | refine blk_drew ?_ | refine blk_alloc ?_ _)); refine blk_put (cs := #[.string t332, .string t333, .string t334, .string t335, .string (⟨#[]⟩ : ByteArray), .string (⟨#[]⟩ : ByteArray), .string (⟨#[]⟩ : ByteArray), .bool false, .bool false, .int .i64 0]) ?_ 4 _ rfl; (with_reducible repeat (first | refine blk_drewN ?_ _ | refine blk_drew ?_ | refine blk_alloc ?_ _)); refine blk_put (cs := #[.string t332, .string t333, .string t334, .string (⟨#[]⟩ : ByteArray), .string (⟨#[]⟩ : ByteArray), .string (⟨#[]⟩ : ByteArray), .string (⟨#[]⟩ : ByteArray), .bool false, .bool false, .int .i64 0]) ?_ 3 _ rfl; (with_reducible repeat (first | refine blk_drewN ?_ _ | refine blk_drew ?_ | refine blk_alloc ?_ _)); refine blk_put (cs := #[.string t332, .string t333, .string (⟨#[]⟩ : ByteArray), .string (⟨#[]⟩ : ByteArray), .string (⟨#[]⟩ : ByteArray), .string (⟨#[]⟩ : ByteArray), .string (⟨#[]⟩ : ByteArray), .bool false, .bool false, .int .i64 0]) ?_ 2 _ rfl; (with_reducible repeat (first | refine blk_drewN ?_ _ | refine blk_drew ?_ | refine blk_alloc ?_ _)); refine blk_put (cs := #[.string t332, .string (⟨#[]⟩ : ByteArray), .string (⟨#[]⟩ : ByteArray), .string (⟨#[]⟩ : ByteArray), .string (⟨#[]⟩ : ByteArray), .string (⟨#[]⟩ : ByteArray), .string (⟨#[]⟩ : ByteArray), .bool false, .bool false, .int .i64 0]) ?_ 1 _ rfl; (with_reducible repeat (first | refine blk_drewN ?_ _ | refine blk_drew ?_ | refine blk_alloc ?_ _)); refine blk_put (cs := #[.string (⟨#[]⟩ : ByteArray), .string (⟨#[]⟩ : ByteArray), .string (⟨#[]⟩ : ByteArray), .string (⟨#[]⟩ : ByteArray), .string (⟨#[]⟩ : ByteArray), .string (⟨#[]⟩ : ByteArray), .string (⟨#[]⟩ : ByteArray), .bool false, .bool false, .int .i64 0]) ?_ 0 _ rfl; (with_reducible repeat (first | refine blk_drewN ?_ _ | refine blk_drew ?_ | refine blk_alloc ?_ _)); refine blk_far ?_ NB343_342.out _; (with_reducible repeat (first | refine blk_drewN ?_ _ | refine blk_drew ?_ | refine blk_alloc ?_ _)); refine blk_far ?_ NB343_342.out _; (with_reducible repeat (first | refine blk_drewN ?_ _ | refine blk_drew ?_ | refine blk_alloc ?_ _)); refine blk_far ?_ NB343_342.out _; (with_reducible repeat (first | refine blk_drewN ?_ _ | refine blk_drew ?_ | refine blk_alloc ?_ _)); refine blk_far ?_ NB343_342.out _; (with_reducible repeat (first | refine blk_drewN ?_ _ | refine blk_drew ?_ | refine blk_alloc ?_ _)); refine blk_far ?_ NB343_342.out _; (with_reducible repeat (first | refine blk_drewN ?_ _ | refine blk_drew ?_ | refine blk_alloc ?_ _)); refine blk_far ?_ NB343_342.out _; (with_reducible repeat (first | refine blk_drewN ?_ _ | refine blk_drew ?_ | refine blk_alloc ?_ _)); refine blk_far ?_ NB343_342.out _; (with_reducible repeat (first | refine blk_drewN ?_ _ | refine blk_drew ?_ | refine blk_alloc ?_ _)); refine blk_far ?_ NB343_342.out _; (with_reducible repeat (first | refine blk_drewN ?_ _ | refine blk_drew ?_ | refine blk_alloc ?_ _)); refine blk_far ?_ NB343_342.out _; (with_reducible repeat (first | refine blk_drewN ?_ _ | refine blk_drew ?_ | refine blk_alloc ?_ _)); refine blk_far ?_ NB343_342.out _; (with_reducible repeat (first | refine blk_drewN ?_ _ | refine blk_drew ?_ | refine blk_alloc ?_ _)); exact BK343.out) hb); have n4_ := Aside0.mk (below_step (by repeat (first | (with_reducible first | exact HB.out | apply below_alloc | apply pw_below_drewN | apply below_drew1 | refine below_set ?_ GE316.out | refine below_set ?_ GE342.out | refine below_set ?_ GE343.out) | exact HB.out)) hb); clear HO331; clear BK316; clear BK342; clear BK343; clear HB; have HO331 := n0_; have BK316 := n1_; have BK342 := n2_; have BK343 := n3_; have HB := n4_; clear n0_ n1_ n2_ n3_ n4_; (try clear hb); (try clear hb2); (try clear hk); (try clear hi); have hcz38_0 : w37.cell? ⟨gb316, 0, none⟩ = some (.bool a1_0) := (blk_cell BK316.out 0).trans rfl; have hcz38_1 : w37.cell? ⟨gb316, 1, none⟩ = some (.string a1_1) := (blk_cell BK316.out 1).trans rfl; have hcz38_2 : w37.cell? ⟨gb316, 2, none⟩ = some (.int .i64 a1_2) := (blk_cell BK316.out 2).trans rfl; have hfz38_0 := blk_frozen BK316.out 0; have hfz38_1 := blk_frozen BK316.out 1; have hfz38_2 := blk_frozen BK316.out 2))
        (try simp only [Act.put, List.setIfInBounds_toArray, List.set_cons_zero, List.set_cons_succ])
        go_cut [9] (fun v9 wc => ∃ (kq : Nat) (x9_25 : ByteArray), v9 = .string x9_25 ∧ Aside0 (tabardlaw11_LocaleBack.j1 kq x9_25 a1_0 a1_1 a1_2 t320 t321 t322 t323 t324 t325 t326 t327 t328 t329 = some r) ∧ Aside0 (kq ≤ kj4) ∧ Aside0 (Kd.R (Kd.int .i64) 3 wc w.heap.size (fun _ => True) (.slice Ao33 t329.length co33) t329) ∧ Aside0 (wc.heap[gb316]? = some (.cells #[.bool a1_0, .string a1_1, .int .i64 a1_2] 36 (0, 0))) ∧ Aside0 (wc.heap[gb342]? = some (.cells #[.string t320, .string t321, .string t322, .string t323, .string t324, .string t325, .string t326, .bool t327, .bool t328, (.slice Ao33 t329.length co33)] 25 (0, 0))) ∧ Aside0 (wc.heap[gb343]? = some (.cells #[.string t332, .string t333, .string t334, .string t335, .string t336, .string t337, .string t338, .bool t339, .bool t340, .int .i64 t341] 27 (0, 0))) ∧ Aside0 (Below w.heap.size w wc))
        case first =>
          have H := HC26.out
          clear HC26
          by_cases c39 : a1_0 = true
          · subst c39
            have H1 : (if (t344.size : Int) < (t324.size : Int) then (none) else (if 0 ≤ (t324.size : Int) then (if (t324.size : Int) ≤ (t344.size : Int) then (if (t344.extract 0 ((t324.size : Int) : Int).toNat).toList = t324.toList then (tabardlaw11_LocaleBack.j1 kj4 (t344.extract ((t324.size : Int) : Int).toNat t344.size) true a1_1 a1_2 t320 t321 t322 t323 t324 t325 t326 t327 t328 t329) else (none)) else (none)) else (none))) = some r := by rw [if_pos rfl] at H; exact H
            clear H
            have H := H1
            clear H1
            by_cases c40 : (t344.size : Int) < (t324.size : Int)
            · rw [if_pos c40] at H
              have c40b0 : decide ((t344.size : Int) < (t324.size : Int)) = true := decide_eq_true c40
              have c40b1 : decide (t344.size < t324.size) = true := decide_eq_true (Int.ofNat_lt.mp c40)
              clear c40
              (first | rw [c40b0] | (simp only [i64_w, i32_w]; rw [c40b0]) | skip)
              exact absurd H (by simp)
            · rw [if_neg c40] at H
              have c40b0 : decide ((t344.size : Int) < (t324.size : Int)) = false := decide_eq_false c40
              have c40b1 : decide (t344.size < t324.size) = false := decide_eq_false (fun h => c40 (Int.ofNat_lt.mpr h))
              clear c40
              (first | rw [c40b0] | (simp only [i64_w, i32_w]; rw [c40b0]) | skip)
              by_cases c41 : 0 ≤ (t324.size : Int)
              · rw [if_pos c41] at H
                have c41b0 := eq_true c41
                have c41b1 : decide (0 ≤ (t324.size : Int)) = true := decide_eq_true c41
                clear c41
                by_cases c42 : (t324.size : Int) ≤ (t344.size : Int)
                · rw [if_pos c42] at H
                  have c42b0 := eq_true c42
                  have c42b1 : decide ((t324.size : Int) ≤ (t344.size : Int)) = true := decide_eq_true c42
                  clear c42
                  by_cases c43 : (t344.extract 0 ((t324.size : Int) : Int).toNat).toList = t324.toList
                  · rw [if_pos c43] at H
                    have c43b0 : ((t344.extract 0 ((t324.size : Int) : Int).toNat).toList == t324.toList) = true := beq_iff_eq.mpr c43
                    (try (have c43b7 := c43; simp only [Int.toNat_natCast] at c43b7))
                    have c43b1 : ((t344.extract 0 ((t324.size : Int) : Int).toNat).toList != t324.toList) = false := bne_eq_false_iff_eq.mpr c43
                    clear c43
                    have c44b0 := eq_true (of_decide_eq_true (by first | (with_reducible assumption) | assumption) : 0 ≤ (t324.size : Int))
                    have c45b0 := eq_true (of_decide_eq_true (by first | (with_reducible assumption) | assumption) : (t324.size : Int) ≤ (t344.size : Int))
                    have H' := Aside0.mk H
                    clear H
                    try go_wp2
                    have n0_ := Aside0.mk (Kd.R_drew HO331.out)
                    have n1_ := Aside0.mk (blk_drew BK316.out)
                    have n2_ := Aside0.mk (blk_drew BK342.out)
                    have n3_ := Aside0.mk (blk_drew BK343.out)
                    have n4_ := Aside0.mk (below_drew1 HB.out)
                    clear HO331
                    clear BK316
                    clear BK342
                    clear BK343
                    clear HB
                    have HO331 := n0_
                    have BK316 := n1_
                    have BK342 := n2_
                    have BK343 := n3_
                    have HB := n4_
                    clear n0_ n1_ n2_ n3_ n4_
                    refine start_ (n := 16) (S := fun w' => w'.cell? ⟨gb342, 0, none⟩ = some (.string t320) ∧ w'.cell? ⟨gb342, 1, none⟩ = some (.string t321) ∧ w'.cell? ⟨gb342, 2, none⟩ = some (.string t322) ∧ w'.cell? ⟨gb342, 3, none⟩ = some (.string t323) ∧ w'.cell? ⟨gb342, 4, none⟩ = some (.string t324) ∧ w'.cell? ⟨gb342, 5, none⟩ = some (.string t325) ∧ w'.cell? ⟨gb342, 6, none⟩ = some (.string t326) ∧ w'.cell? ⟨gb342, 7, none⟩ = some (.bool t327) ∧ w'.cell? ⟨gb342, 8, none⟩ = some (.bool t328) ∧ w'.cell? ⟨gb342, 9, none⟩ = some (.slice Ao33 t329.length co33)) (ds := []) #[false, false, false, false, false, false, false, false, false, false, false, false, false, false, false, false] (by kernel_rfl) rfl rfl ⟨(blk_cell BK342.out 0).trans rfl, (blk_cell BK342.out 1).trans rfl, (blk_cell BK342.out 2).trans rfl, (blk_cell BK342.out 3).trans rfl, (blk_cell BK342.out 4).trans rfl, (blk_cell BK342.out 5).trans rfl, (blk_cell BK342.out 6).trans rfl, (blk_cell BK342.out 7).trans rfl, (blk_cell BK342.out 8).trans rfl, (blk_cell BK342.out 9).trans rfl⟩ (fun hHeld => ?_); refine with_tabW tabardlaw11_LocaleBack.tab8 tabardlaw11_LocaleBack.bits8 (fun HT_ HW_ => ?_)
                    generalize w37.drew = w46 at HO331 BK316 BK342 BK343 HB hHeld ⊢
                    refine pure_ (i := 0) (N := some 54) (v := ?_) (a' := ?_) #[true, false, false, false, false, false, false, false, false, false, false, false, false, false, false, false] rfl rfl (any_of HT_.out (by kernel_rfl)) (fun _ _ _ h => h) (Or.inl ⟨by rfl, ?_⟩) ?_ ?_
                    rotate_left
                    · intro w'
                      go_simp
                      with_reducible rfl
                    rotate_left
                    · simp only [Act.put, List.setIfInBounds_toArray, List.set_cons_zero, List.set_cons_succ, i64_w, i32_w]
                      rfl
                    refine pure_ (i := 1) (N := some 55) (v := ?_) (a' := ?_) #[true, true, false, false, false, false, false, false, false, false, false, false, false, false, false, false] rfl rfl (any_of HT_.out (by kernel_rfl)) (fun _ _ _ h => h) (Or.inl ⟨by rfl, ?_⟩) ?_ ?_
                    rotate_left
                    · intro w'
                      go_simp
                      with_reducible rfl
                    rotate_left
                    · simp only [Act.put, List.setIfInBounds_toArray, List.set_cons_zero, List.set_cons_succ, i64_w, i32_w]
                      rfl
                    refine pure_ (i := 2) (N := some 56) (v := ?_) (a' := ?_) #[true, true, true, false, false, false, false, false, false, false, false, false, false, false, false, false] rfl rfl (any_of HT_.out (by kernel_rfl)) (fun _ _ _ h => h) (Or.inl ⟨by rfl, ?_⟩) ?_ ?_
                    rotate_left
                    · intro w'
                      go_simp
                      with_reducible rfl
                    rotate_left
                    · simp only [Act.put, List.setIfInBounds_toArray, List.set_cons_zero, List.set_cons_succ, i64_w, i32_w]
                      rfl
                    refine take_ (i := 3) (N := some 57) (v := ?_) (a' := ?_) #[true, true, true, true, false, false, false, false, false, false, false, false, false, false, false, false] rfl rfl (take_ofW HT_.out HW_.out (by kernel_rfl)) (fun _ _ _ h => h) (Or.inl ⟨by rfl, ?_⟩) hHeld ?_ ?_
                    rotate_left
                    · rintro w' ⟨s0, s1, s2, s3, s4, s5, s6, s7, s8, s9⟩
                      go_simp
                      with_reducible rfl
                    rotate_left
                    · simp only [Act.put, List.setIfInBounds_toArray, List.set_cons_zero, List.set_cons_succ, i64_w, i32_w]
                      rfl
                    refine pure_ (i := 4) (N := some 58) (v := ?_) (a' := ?_) #[true, true, true, true, true, false, false, false, false, false, false, false, false, false, false, false] rfl rfl (any_of HT_.out (by kernel_rfl)) (fun _ _ _ h => h) (Or.inl ⟨by rfl, ?_⟩) ?_ ?_
                    rotate_left
                    · intro w'
                      go_simp
                      with_reducible rfl
                    rotate_left
                    · simp only [Act.put, List.setIfInBounds_toArray, List.set_cons_zero, List.set_cons_succ, i64_w, i32_w]
                      rfl
                    refine pure_ (i := 5) (N := some 59) (v := ?_) (a' := ?_) #[true, true, true, true, true, true, false, false, false, false, false, false, false, false, false, false] rfl rfl (any_of HT_.out (by kernel_rfl)) (fun _ _ _ h => h) (Or.inl ⟨by rfl, ?_⟩) ?_ ?_
                    rotate_left
                    · intro w'
                      go_simp
                      with_reducible rfl
                    rotate_left
                    · simp only [Act.put, List.setIfInBounds_toArray, List.set_cons_zero, List.set_cons_succ, i64_w, i32_w]
                      rfl
                    refine pure_ (i := 6) (N := some 60) (v := ?_) (a' := ?_) #[true, true, true, true, true, true, true, false, false, false, false, false, false, false, false, false] rfl rfl (any_of HT_.out (by kernel_rfl)) (fun _ _ _ h => h) (Or.inl ⟨by rfl, ?_⟩) ?_ ?_
                    rotate_left
                    · intro w'
                      go_simp
                      with_reducible rfl
                    rotate_left
                    · simp only [Act.put, List.setIfInBounds_toArray, List.set_cons_zero, List.set_cons_succ, i64_w, i32_w]
                      rfl
                    refine pure_ (i := 7) (N := some 61) (v := ?_) (a' := ?_) #[true, true, true, true, true, true, true, true, false, false, false, false, false, false, false, false] rfl rfl (any_of HT_.out (by kernel_rfl)) (fun _ _ _ h => h) (Or.inl ⟨by rfl, ?_⟩) ?_ ?_
                    rotate_left
                    · intro w'
                      go_simp
                      with_reducible rfl
                    rotate_left
                    · simp only [Act.put, List.setIfInBounds_toArray, List.set_cons_zero, List.set_cons_succ, i64_w, i32_w]
                      rfl
                    refine pure_ (i := 8) (N := some 62) (v := ?_) (a' := ?_) #[true, true, true, true, true, true, true, true, true, false, false, false, false, false, false, false] rfl rfl (any_of HT_.out (by kernel_rfl)) (fun _ _ _ h => h) (Or.inl ⟨by rfl, ?_⟩) ?_ ?_
                    rotate_left
                    · intro w'
                      go_simp
                      with_reducible rfl
                    rotate_left
                    · simp only [Act.put, List.setIfInBounds_toArray, List.set_cons_zero, List.set_cons_succ, i64_w, i32_w]
                      rfl
                    refine pure_ (i := 12) (N := some 66) (v := ?_) (a' := ?_) #[true, true, true, true, true, true, true, true, true, false, false, false, true, false, false, false] rfl rfl (any_of HT_.out (by kernel_rfl)) (fun _ _ _ h => h) (Or.inl ⟨by rfl, ?_⟩) ?_ ?_
                    rotate_left
                    · intro w'
                      go_simp
                      with_reducible rfl
                    rotate_left
                    · simp only [Act.put, List.setIfInBounds_toArray, List.set_cons_zero, List.set_cons_succ, i64_w, i32_w]
                      rfl
                    refine take_ (i := 9) (N := some 63) (v := ?_) (a' := ?_) #[true, true, true, true, true, true, true, true, true, true, false, false, true, false, false, false] rfl rfl (take_ofW HT_.out HW_.out (by kernel_rfl)) (fun _ _ _ h => h) (Or.inl ⟨by rfl, ?_⟩) hHeld ?_ ?_
                    rotate_left
                    · rintro w' ⟨s0, s1, s2, s3, s4, s5, s6, s7, s8, s9⟩
                      go_simp
                      with_reducible rfl
                    rotate_left
                    · simp only [Act.put, List.setIfInBounds_toArray, List.set_cons_zero, List.set_cons_succ, i64_w, i32_w]
                      rfl
                    refine pure_ (i := 10) (N := some 64) (v := ?_) (a' := ?_) #[true, true, true, true, true, true, true, true, true, true, true, false, true, false, false, false] rfl rfl (any_of HT_.out (by kernel_rfl)) (fun _ _ _ h => h) (Or.inl ⟨by rfl, ?_⟩) ?_ ?_
                    rotate_left
                    · intro w'
                      go_simp
                      with_reducible rfl
                    rotate_left
                    · simp only [Act.put, List.setIfInBounds_toArray, List.set_cons_zero, List.set_cons_succ, i64_w, i32_w]
                      rfl
                    refine pure_ (i := 11) (N := some 65) (v := ?_) (a' := ?_) #[true, true, true, true, true, true, true, true, true, true, true, true, true, false, false, false] rfl rfl (any_of HT_.out (by kernel_rfl)) (fun _ _ _ h => h) (Or.inl ⟨by rfl, ?_⟩) ?_ ?_
                    rotate_left
                    · intro w'
                      go_simp
                      with_reducible rfl
                    rotate_left
                    · simp only [Act.put, List.setIfInBounds_toArray, List.set_cons_zero, List.set_cons_succ, i64_w, i32_w]
                      rfl
                    refine take_ (i := 13) (N := some 67) (v := ?_) (a' := ?_) #[true, true, true, true, true, true, true, true, true, true, true, true, true, true, false, false] rfl rfl (take_ofW HT_.out HW_.out (by kernel_rfl)) (fun _ _ _ h => h) (Or.inl ⟨by rfl, ?_⟩) hHeld ?_ ?_
                    rotate_left
                    · rintro w' ⟨s0, s1, s2, s3, s4, s5, s6, s7, s8, s9⟩
                      go_simp
                      with_reducible rfl
                    rotate_left
                    · simp only [Act.put, List.setIfInBounds_toArray, List.set_cons_zero, List.set_cons_succ, i64_w, i32_w]
                      rfl
                    refine pure_ (i := 14) (N := some 68) (v := ?_) (a' := ?_) #[true, true, true, true, true, true, true, true, true, true, true, true, true, true, true, false] rfl rfl (any_of HT_.out (by kernel_rfl)) (fun _ _ _ h => h) (Or.inl ⟨by rfl, ?_⟩) ?_ ?_
                    rotate_left
                    · intro w'
                      go_simp
                      with_reducible rfl
                    rotate_left
                    · simp only [Act.put, List.setIfInBounds_toArray, List.set_cons_zero, List.set_cons_succ, i64_w, i32_w]
                      rfl
                    refine pure_ (i := 15) (N := some 69) (v := ?_) (a' := ?_) #[true, true, true, true, true, true, true, true, true, true, true, true, true, true, true, true] rfl rfl (any_of HT_.out (by kernel_rfl)) (fun _ _ _ h => h) (Or.inl ⟨by rfl, ?_⟩) ?_ ?_
                    rotate_left
                    · intro w'
                      go_simp
                      with_reducible rfl
                    rotate_left
                    · simp only [Act.put, List.setIfInBounds_toArray, List.set_cons_zero, List.set_cons_succ, i64_w, i32_w]
                      rfl
                    refine done_ (done_of HT_.out (by kernel_rfl)) ?_
                    have hnb47 := NB342_316.out
                    have hnc47 := NB316_342.out
                    have hnb48 := NB342_343.out
                    have hnc48 := NB343_342.out
                    have hcz49_0 : w46.cell? ⟨gb342, 0, none⟩ = some (.string t320) := (blk_cell BK342.out 0).trans rfl
                    have hcz49_1 : w46.cell? ⟨gb342, 1, none⟩ = some (.string t321) := (blk_cell BK342.out 1).trans rfl
                    have hcz49_2 : w46.cell? ⟨gb342, 2, none⟩ = some (.string t322) := (blk_cell BK342.out 2).trans rfl
                    have hcz49_3 : w46.cell? ⟨gb342, 3, none⟩ = some (.string t323) := (blk_cell BK342.out 3).trans rfl
                    have hcz49_4 : w46.cell? ⟨gb342, 4, none⟩ = some (.string t324) := (blk_cell BK342.out 4).trans rfl
                    have hcz49_5 : w46.cell? ⟨gb342, 5, none⟩ = some (.string t325) := (blk_cell BK342.out 5).trans rfl
                    have hcz49_6 : w46.cell? ⟨gb342, 6, none⟩ = some (.string t326) := (blk_cell BK342.out 6).trans rfl
                    have hcz49_7 : w46.cell? ⟨gb342, 7, none⟩ = some (.bool t327) := (blk_cell BK342.out 7).trans rfl
                    have hcz49_8 : w46.cell? ⟨gb342, 8, none⟩ = some (.bool t328) := (blk_cell BK342.out 8).trans rfl
                    have hcz49_9 : w46.cell? ⟨gb342, 9, none⟩ = some (.slice Ao33 t329.length co33) := (blk_cell BK342.out 9).trans rfl
                    have hfz49_0 := blk_frozen BK342.out 0
                    have hfz49_1 := blk_frozen BK342.out 1
                    have hfz49_2 := blk_frozen BK342.out 2
                    have hfz49_3 := blk_frozen BK342.out 3
                    have hfz49_4 := blk_frozen BK342.out 4
                    have hfz49_5 := blk_frozen BK342.out 5
                    have hfz49_6 := blk_frozen BK342.out 6
                    have hfz49_7 := blk_frozen BK342.out 7
                    have hfz49_8 := blk_frozen BK342.out 8
                    have hfz49_9 := blk_frozen BK342.out 9
                    try go_wp2
                    go_meet
                    case rel => exact ⟨_, (t344.extract ((t324.size : Int) : Int).toNat t344.size), (by first | rfl | (simp; done) | (simp [*]; done) | (simp [bne]; done)), H', ⟨by have := HJ4.out; first | omega | exact Nat.le_refl _⟩, ⟨by (with_reducible repeat (first | apply Kd.R_alloc | apply Kd.R_drewN | apply Kd.R_drew)); exact HO331.out⟩, ⟨by (with_reducible repeat (first | refine blk_drewN ?_ _ | refine blk_drew ?_ | refine blk_alloc ?_ _)); exact BK316.out⟩, ⟨by (with_reducible repeat (first | refine blk_drewN ?_ _ | refine blk_drew ?_ | refine blk_alloc ?_ _)); exact BK342.out⟩, ⟨by (with_reducible repeat (first | refine blk_drewN ?_ _ | refine blk_drew ?_ | refine blk_alloc ?_ _)); exact BK343.out⟩, ⟨by repeat (first | (with_reducible first | exact HB.out | apply below_alloc | apply pw_below_drewN | apply below_drew1 | refine below_set ?_ GE316.out | refine below_set ?_ GE342.out | refine below_set ?_ GE343.out) | exact HB.out)⟩⟩
                  · rw [if_neg c43] at H
                    exact absurd H (by simp)
                · rw [if_neg c42] at H
                  exact absurd H (by simp)
              · rw [if_neg c41] at H
                exact absurd H (by simp)
          · replace c39 := Bool.eq_false_iff.mpr c39
            subst c39
            have H1 : (tabardlaw11_LocaleBack.j1 kj4 t344 false a1_1 a1_2 t320 t321 t322 t323 t324 t325 t326 t327 t328 t329) = some r := by rw [if_neg (show ¬ (false = true) by decide)] at H; exact H
            clear H
            have H := H1
            clear H1
            have H' := Aside0.mk H
            clear H
            go_wp2
            go_meet
            case rel => exact ⟨_, (t344), (by first | rfl | (simp; done) | (simp [*]; done) | (simp [bne]; done)), H', ⟨by have := HJ4.out; first | omega | exact Nat.le_refl _⟩, ⟨by (with_reducible repeat (first | apply Kd.R_alloc | apply Kd.R_drewN | apply Kd.R_drew)); exact HO331.out⟩, ⟨by (with_reducible repeat (first | refine blk_drewN ?_ _ | refine blk_drew ?_ | refine blk_alloc ?_ _)); exact BK316.out⟩, ⟨by (with_reducible repeat (first | refine blk_drewN ?_ _ | refine blk_drew ?_ | refine blk_alloc ?_ _)); exact BK342.out⟩, ⟨by (with_reducible repeat (first | refine blk_drewN ?_ _ | refine blk_drew ?_ | refine blk_alloc ?_ _)); exact BK343.out⟩, ⟨by repeat (first | (with_reducible first | exact HB.out | apply below_alloc | apply pw_below_drewN | apply below_drew1 | refine below_set ?_ GE316.out | refine below_set ?_ GE342.out | refine below_set ?_ GE343.out) | exact HB.out)⟩⟩
        case rest =>
          clear HC26
          try clear c1
          try clear c2
          try clear p2
          try clear c3
          try clear c4
          try clear c5
          try clear c10
          try clear c11
          try clear c13
          try clear c13b0
          try clear c16
          try clear c16b0
          try clear c17
          try clear c21
          try clear c23
          try clear c30
          try clear c31
          try clear c34
          try clear c39
          try clear c40
          try clear c40b0
          try clear c40b1
          try clear c41
          try clear c41b0
          try clear c41b1
          try clear c42
          try clear c42b0
          try clear c42b1
          try clear c43
          try clear c43b0
          try clear c43b1
          try clear c44
          try clear c44b0
          try clear c45
          try clear c45b0
          try clear c47
          try clear c48
          try clear hcz14_0
          try clear hcz14_1
          try clear hcz14_2
          try clear hcz17_0
          try clear hcz17_1
          try clear hcz17_2
          try clear hcz19_0
          try clear hcz19_1
          try clear hcz19_2
          try clear hcz20_0
          try clear hcz20_1
          try clear hcz20_2
          try clear hcz22_0
          try clear hcz22_1
          try clear hcz22_2
          try clear hcz32_0
          try clear hcz32_1
          try clear hcz32_2
          try clear hcz32_3
          try clear hcz32_4
          try clear hcz32_5
          try clear hcz32_6
          try clear hcz32_7
          try clear hcz32_8
          try clear hcz32_9
          try clear hcz35_0
          try clear hcz35_1
          try clear hcz35_2
          try clear hcz35_3
          try clear hcz35_4
          try clear hcz35_5
          try clear hcz35_6
          try clear hcz35_7
          try clear hcz35_8
          try clear hcz35_9
          try clear hcz36_0
          try clear hcz36_1
          try clear hcz36_2
          try clear hcz38_0
          try clear hcz38_1
          try clear hcz38_2
          try clear hcz49_0
          try clear hcz49_1
          try clear hcz49_2
          try clear hcz49_3
          try clear hcz49_4
          try clear hcz49_5
          try clear hcz49_6
          try clear hcz49_7
          try clear hcz49_8
          try clear hcz49_9
          try clear hcz8_0
          try clear hcz8_1
          try clear hcz8_2
          try clear hfz14_0
          try clear hfz14_1
          try clear hfz14_2
          try clear hfz17_0
          try clear hfz17_1
          try clear hfz17_2
          try clear hfz19_0
          try clear hfz19_1
          try clear hfz19_2
          try clear hfz20_0
          try clear hfz20_1
          try clear hfz20_2
          try clear hfz22_0
          try clear hfz22_1
          try clear hfz22_2
          try clear hfz32_0
          try clear hfz32_1
          try clear hfz32_2
          try clear hfz32_3
          try clear hfz32_4
          try clear hfz32_5
          try clear hfz32_6
          try clear hfz32_7
          try clear hfz32_8
          try clear hfz32_9
          try clear hfz35_0
          try clear hfz35_1
          try clear hfz35_2
          try clear hfz35_3
          try clear hfz35_4
          try clear hfz35_5
          try clear hfz35_6
          try clear hfz35_7
          try clear hfz35_8
          try clear hfz35_9
          try clear hfz36_0
          try clear hfz36_1
          try clear hfz36_2
          try clear hfz38_0
          try clear hfz38_1
          try clear hfz38_2
          try clear hfz49_0
          try clear hfz49_1
          try clear hfz49_2
          try clear hfz49_3
          try clear hfz49_4
          try clear hfz49_5
          try clear hfz49_6
          try clear hfz49_7
          try clear hfz49_8
          try clear hfz49_9
          try clear hfz8_0
          try clear hfz8_1
          try clear hfz8_2
          try clear p2
          obtain ⟨kq, x9_25, rfl, HA, HJ25, HO_343009, BK316, BK342, BK343, HB⟩ := hcut
          cases kq with
          | zero => exact absurd HA.out (by simp [tabardlaw11_LocaleBack.j1])
          | succ kj25 =>
            have H := HA.out
            clear HA
            simp only [tabardlaw11_LocaleBack.j1] at H
            have HC50 := Aside0.mk H
            clear H
            go_upto_block 0 with (fail)
            go_cut [10] (fun v10 wc => ∃ (kq : Nat) (x10_49 : Int), v10 = .int .i64 x10_49 ∧ Aside0 (tabardlaw11_LocaleBack.j3 kq x9_25 x10_49 a1_0 a1_1 a1_2 t320 t321 t322 t323 t324 t325 t326 t327 t328 t329 = some r) ∧ Aside0 (kq ≤ kj25) ∧ Aside0 (Kd.R (Kd.int .i64) 3 wc w.heap.size (fun _ => True) (.slice Ao33 t329.length co33) t329) ∧ Aside0 (wc.heap[gb316]? = some (.cells #[.bool a1_0, .string a1_1, .int .i64 a1_2] 36 (0, 0))) ∧ Aside0 (wc.heap[gb342]? = some (.cells #[.string t320, .string t321, .string t322, .string t323, .string t324, .string t325, .string t326, .bool t327, .bool t328, (.slice Ao33 t329.length co33)] 25 (0, 0))) ∧ Aside0 (wc.heap[gb343]? = some (.cells #[.string t332, .string t333, .string t334, .string t335, .string t336, .string t337, .string t338, .bool t339, .bool t340, .int .i64 t341] 27 (0, 0))) ∧ Aside0 (Below w.heap.size w wc))
            case first =>
              have H := HC50.out
              clear HC50
              have H' := Aside0.mk H
              clear H
              go_wp2
              go_loopg [10, 11] kj25 (fun kq v10 v11 w' => ∃ (x10_3 : Int) (x11_3 : Int), v10 = .int .i64 x10_3 ∧ v11 = .int .i64 x11_3 ∧ Aside0 (tabardlaw11_LocaleBack.l0 kq x9_25 x10_3 x11_3 a1_0 a1_1 a1_2 t320 t321 t322 t323 t324 t325 t326 t327 t328 t329 = some r) ∧ Aside0 (kq ≤ kj25) ∧ Aside0 (Kd.R (Kd.int .i64) 3 w' w.heap.size (fun _ => True) (.slice Ao33 t329.length co33) t329) ∧ Aside0 (w'.heap[gb316]? = some (.cells #[.bool a1_0, .string a1_1, .int .i64 a1_2] 36 (0, 0))) ∧ Aside0 (w'.heap[gb342]? = some (.cells #[.string t320, .string t321, .string t322, .string t323, .string t324, .string t325, .string t326, .bool t327, .bool t328, (.slice Ao33 t329.length co33)] 25 (0, 0))) ∧ Aside0 (w'.heap[gb343]? = some (.cells #[.string t332, .string t333, .string t334, .string t335, .string t336, .string t337, .string t338, .bool t339, .bool t340, .int .i64 t341] 27 (0, 0))) ∧ Aside0 (Below w.heap.size w w'))
              case atStart => exact ⟨((x9_25.size : Int)), (0), (by first | rfl | (simp; done) | (simp [*]; done) | (simp [bne]; done)), (by first | rfl | (simp; done) | (simp [*]; done) | (simp [bne]; done)), H', ⟨Nat.le_refl _⟩, ⟨by (with_reducible repeat (first | apply Kd.R_alloc | apply Kd.R_drewN | apply Kd.R_drew)); exact HO_343009.out⟩, ⟨by (with_reducible repeat (first | refine blk_drewN ?_ _ | refine blk_drew ?_ | refine blk_alloc ?_ _)); exact BK316.out⟩, ⟨by (with_reducible repeat (first | refine blk_drewN ?_ _ | refine blk_drew ?_ | refine blk_alloc ?_ _)); exact BK342.out⟩, ⟨by (with_reducible repeat (first | refine blk_drewN ?_ _ | refine blk_drew ?_ | refine blk_alloc ?_ _)); exact BK343.out⟩, ⟨by repeat (first | (with_reducible first | exact HB.out | apply below_alloc | apply pw_below_drewN | apply below_drew1 | refine below_set ?_ GE316.out | refine below_set ?_ GE342.out | refine below_set ?_ GE343.out) | exact HB.out)⟩⟩
              case round =>
                clear H'
                try clear c1
                try clear c2
                try clear p2
                try clear c3
                try clear c4
                try clear c5
                try clear c10
                try clear c11
                try clear c13
                try clear c13b0
                try clear c16
                try clear c16b0
                try clear c17
                try clear c21
                try clear c23
                try clear c30
                try clear c31
                try clear c34
                try clear c39
                try clear c40
                try clear c40b0
                try clear c40b1
                try clear c41
                try clear c41b0
                try clear c41b1
                try clear c42
                try clear c42b0
                try clear c42b1
                try clear c43
                try clear c43b0
                try clear c43b1
                try clear c44
                try clear c44b0
                try clear c45
                try clear c45b0
                try clear c47
                try clear c48
                try clear hcz14_0
                try clear hcz14_1
                try clear hcz14_2
                try clear hcz17_0
                try clear hcz17_1
                try clear hcz17_2
                try clear hcz19_0
                try clear hcz19_1
                try clear hcz19_2
                try clear hcz20_0
                try clear hcz20_1
                try clear hcz20_2
                try clear hcz22_0
                try clear hcz22_1
                try clear hcz22_2
                try clear hcz32_0
                try clear hcz32_1
                try clear hcz32_2
                try clear hcz32_3
                try clear hcz32_4
                try clear hcz32_5
                try clear hcz32_6
                try clear hcz32_7
                try clear hcz32_8
                try clear hcz32_9
                try clear hcz35_0
                try clear hcz35_1
                try clear hcz35_2
                try clear hcz35_3
                try clear hcz35_4
                try clear hcz35_5
                try clear hcz35_6
                try clear hcz35_7
                try clear hcz35_8
                try clear hcz35_9
                try clear hcz36_0
                try clear hcz36_1
                try clear hcz36_2
                try clear hcz38_0
                try clear hcz38_1
                try clear hcz38_2
                try clear hcz49_0
                try clear hcz49_1
                try clear hcz49_2
                try clear hcz49_3
                try clear hcz49_4
                try clear hcz49_5
                try clear hcz49_6
                try clear hcz49_7
                try clear hcz49_8
                try clear hcz49_9
                try clear hcz8_0
                try clear hcz8_1
                try clear hcz8_2
                try clear hfz14_0
                try clear hfz14_1
                try clear hfz14_2
                try clear hfz17_0
                try clear hfz17_1
                try clear hfz17_2
                try clear hfz19_0
                try clear hfz19_1
                try clear hfz19_2
                try clear hfz20_0
                try clear hfz20_1
                try clear hfz20_2
                try clear hfz22_0
                try clear hfz22_1
                try clear hfz22_2
                try clear hfz32_0
                try clear hfz32_1
                try clear hfz32_2
                try clear hfz32_3
                try clear hfz32_4
                try clear hfz32_5
                try clear hfz32_6
                try clear hfz32_7
                try clear hfz32_8
                try clear hfz32_9
                try clear hfz35_0
                try clear hfz35_1
                try clear hfz35_2
                try clear hfz35_3
                try clear hfz35_4
                try clear hfz35_5
                try clear hfz35_6
                try clear hfz35_7
                try clear hfz35_8
                try clear hfz35_9
                try clear hfz36_0
                try clear hfz36_1
                try clear hfz36_2
                try clear hfz38_0
                try clear hfz38_1
                try clear hfz38_2
                try clear hfz49_0
                try clear hfz49_1
                try clear hfz49_2
                try clear hfz49_3
                try clear hfz49_4
                try clear hfz49_5
                try clear hfz49_6
                try clear hfz49_7
                try clear hfz49_8
                try clear hfz49_9
                try clear hfz8_0
                try clear hfz8_1
                try clear hfz8_2
                try clear p2
                obtain ⟨x10_3, x11_3, rfl, rfl, HA, HK3, HO_343009, BK316, BK342, BK343, HB⟩ := hrel
                cases gk with
                | zero => exact absurd HA.out (by simp [tabardlaw11_LocaleBack.l0])
                | succ k3 =>
                  have H := HA.out
                  clear HA
                  simp only [tabardlaw11_LocaleBack.l0] at H
                  by_cases c51 : (wrap64 (x11_3 + (t321.size : Int))) ≤ (x9_25.size : Int)
                  · rw [if_pos c51] at H
                    have c51b0 : decide ((wrap64 (x11_3 + (t321.size : Int))) ≤ (x9_25.size : Int)) = true := decide_eq_true c51
                    clear c51
                    (first | rw [c51b0] | (simp only [i64_w, i32_w]; rw [c51b0]) | skip)
                    by_cases c52 : 0 ≤ x11_3
                    · rw [if_pos c52] at H
                      have c52b0 := eq_true c52
                      have c52b1 : decide (0 ≤ x11_3) = true := decide_eq_true c52
                      clear c52
                      by_cases c53 : x11_3 ≤ (wrap64 (x11_3 + (t321.size : Int)))
                      · rw [if_pos c53] at H
                        have c53b0 := eq_true c53
                        have c53b1 : decide (x11_3 ≤ (wrap64 (x11_3 + (t321.size : Int)))) = true := decide_eq_true c53
                        have c54b0 := eq_true (of_decide_eq_true (by first | (with_reducible assumption) | assumption) : (wrap64 (x11_3 + (t321.size : Int))) ≤ (x9_25.size : Int))
                        by_cases c55 : (x9_25.extract (x11_3 : Int).toNat ((wrap64 (x11_3 + (t321.size : Int))) : Int).toNat).toList = t321.toList
                        · rw [if_pos c55] at H
                          have c55b0 : ((x9_25.extract (x11_3 : Int).toNat ((wrap64 (x11_3 + (t321.size : Int))) : Int).toNat).toList == t321.toList) = true := beq_iff_eq.mpr c55
                          have c55b1 : ((x9_25.extract (x11_3 : Int).toNat ((wrap64 (x11_3 + (t321.size : Int))) : Int).toNat).toList != t321.toList) = false := bne_eq_false_iff_eq.mpr c55
                          clear c55
                          have H' := Aside0.mk H
                          clear H
                          have hnb56 := NB342_316.out
                          have hnc56 := NB316_342.out
                          have hnb57 := NB342_343.out
                          have hnc57 := NB343_342.out
                          have hcz58_0 : wr.cell? ⟨gb342, 0, none⟩ = some (.string t320) := (blk_cell BK342.out 0).trans rfl
                          have hcz58_1 : wr.cell? ⟨gb342, 1, none⟩ = some (.string t321) := (blk_cell BK342.out 1).trans rfl
                          have hcz58_2 : wr.cell? ⟨gb342, 2, none⟩ = some (.string t322) := (blk_cell BK342.out 2).trans rfl
                          have hcz58_3 : wr.cell? ⟨gb342, 3, none⟩ = some (.string t323) := (blk_cell BK342.out 3).trans rfl
                          have hcz58_4 : wr.cell? ⟨gb342, 4, none⟩ = some (.string t324) := (blk_cell BK342.out 4).trans rfl
                          have hcz58_5 : wr.cell? ⟨gb342, 5, none⟩ = some (.string t325) := (blk_cell BK342.out 5).trans rfl
                          have hcz58_6 : wr.cell? ⟨gb342, 6, none⟩ = some (.string t326) := (blk_cell BK342.out 6).trans rfl
                          have hcz58_7 : wr.cell? ⟨gb342, 7, none⟩ = some (.bool t327) := (blk_cell BK342.out 7).trans rfl
                          have hcz58_8 : wr.cell? ⟨gb342, 8, none⟩ = some (.bool t328) := (blk_cell BK342.out 8).trans rfl
                          have hcz58_9 : wr.cell? ⟨gb342, 9, none⟩ = some (.slice Ao33 t329.length co33) := (blk_cell BK342.out 9).trans rfl
                          have hfz58_0 := blk_frozen BK342.out 0
                          have hfz58_1 := blk_frozen BK342.out 1
                          have hfz58_2 := blk_frozen BK342.out 2
                          have hfz58_3 := blk_frozen BK342.out 3
                          have hfz58_4 := blk_frozen BK342.out 4
                          have hfz58_5 := blk_frozen BK342.out 5
                          have hfz58_6 := blk_frozen BK342.out 6
                          have hfz58_7 := blk_frozen BK342.out 7
                          have hfz58_8 := blk_frozen BK342.out 8
                          have hfz58_9 := blk_frozen BK342.out 9
                          try go_wp2
                          have n0_ := Aside0.mk (Kd.R_drew HO_343009.out)
                          have n1_ := Aside0.mk (blk_drew BK316.out)
                          have n2_ := Aside0.mk (blk_drew BK342.out)
                          have n3_ := Aside0.mk (blk_drew BK343.out)
                          have n4_ := Aside0.mk (below_drew1 HB.out)
                          clear HO_343009
                          clear BK316
                          clear BK342
                          clear BK343
                          clear HB
                          have HO_343009 := n0_
                          have BK316 := n1_
                          have BK342 := n2_
                          have BK343 := n3_
                          have HB := n4_
                          clear n0_ n1_ n2_ n3_ n4_
                          refine start_ (n := 11) (S := fun w' => w'.cell? ⟨gb342, 0, none⟩ = some (.string t320) ∧ w'.cell? ⟨gb342, 1, none⟩ = some (.string t321) ∧ w'.cell? ⟨gb342, 2, none⟩ = some (.string t322) ∧ w'.cell? ⟨gb342, 3, none⟩ = some (.string t323) ∧ w'.cell? ⟨gb342, 4, none⟩ = some (.string t324) ∧ w'.cell? ⟨gb342, 5, none⟩ = some (.string t325) ∧ w'.cell? ⟨gb342, 6, none⟩ = some (.string t326) ∧ w'.cell? ⟨gb342, 7, none⟩ = some (.bool t327) ∧ w'.cell? ⟨gb342, 8, none⟩ = some (.bool t328) ∧ w'.cell? ⟨gb342, 9, none⟩ = some (.slice Ao33 t329.length co33)) (ds := []) #[false, false, false, false, false, false, false, false, false, false, false] (by kernel_rfl) rfl rfl ⟨(blk_cell BK342.out 0).trans rfl, (blk_cell BK342.out 1).trans rfl, (blk_cell BK342.out 2).trans rfl, (blk_cell BK342.out 3).trans rfl, (blk_cell BK342.out 4).trans rfl, (blk_cell BK342.out 5).trans rfl, (blk_cell BK342.out 6).trans rfl, (blk_cell BK342.out 7).trans rfl, (blk_cell BK342.out 8).trans rfl, (blk_cell BK342.out 9).trans rfl⟩ (fun hHeld => ?_); refine with_tabW tabardlaw11_LocaleBack.tab15 tabardlaw11_LocaleBack.bits15 (fun HT_ HW_ => ?_)
                          generalize wr.drew = w59 at HO_343009 BK316 BK342 BK343 HB hHeld ⊢
                          refine pure_ (i := 0) (N := some 87) (v := ?_) (a' := ?_) #[true, false, false, false, false, false, false, false, false, false, false] rfl rfl (any_of HT_.out (by kernel_rfl)) (fun _ _ _ h => h) (Or.inl ⟨by rfl, ?_⟩) ?_ ?_
                          rotate_left
                          · intro w'
                            go_simp
                            with_reducible rfl
                          rotate_left
                          · simp only [Act.put, List.setIfInBounds_toArray, List.set_cons_zero, List.set_cons_succ, i64_w, i32_w]
                            rfl
                          refine pure_ (i := 1) (N := some 88) (v := ?_) (a' := ?_) #[true, true, false, false, false, false, false, false, false, false, false] rfl rfl (any_of HT_.out (by kernel_rfl)) (fun _ _ _ h => h) (Or.inl ⟨by rfl, ?_⟩) ?_ ?_
                          rotate_left
                          · intro w'
                            go_simp
                            with_reducible rfl
                          rotate_left
                          · simp only [Act.put, List.setIfInBounds_toArray, List.set_cons_zero, List.set_cons_succ, i64_w, i32_w]
                            rfl
                          refine pure_ (i := 2) (N := some 89) (v := ?_) (a' := ?_) #[true, true, true, false, false, false, false, false, false, false, false] rfl rfl (any_of HT_.out (by kernel_rfl)) (fun _ _ _ h => h) (Or.inl ⟨by rfl, ?_⟩) ?_ ?_
                          rotate_left
                          · intro w'
                            go_simp
                            with_reducible rfl
                          rotate_left
                          · simp only [Act.put, List.setIfInBounds_toArray, List.set_cons_zero, List.set_cons_succ, i64_w, i32_w]
                            rfl
                          refine pure_ (i := 3) (N := some 90) (v := ?_) (a' := ?_) #[true, true, true, true, false, false, false, false, false, false, false] rfl rfl (any_of HT_.out (by kernel_rfl)) (fun _ _ _ h => h) (Or.inl ⟨by rfl, ?_⟩) ?_ ?_
                          rotate_left
                          · intro w'
                            go_simp
                            with_reducible rfl
                          rotate_left
                          · simp only [Act.put, List.setIfInBounds_toArray, List.set_cons_zero, List.set_cons_succ, i64_w, i32_w]
                            rfl
                          refine pure_ (i := 8) (N := some 95) (v := ?_) (a' := ?_) #[true, true, true, true, false, false, false, false, true, false, false] rfl rfl (any_of HT_.out (by kernel_rfl)) (fun _ _ _ h => h) (Or.inl ⟨by rfl, ?_⟩) ?_ ?_
                          rotate_left
                          · intro w'
                            go_simp
                            with_reducible rfl
                          rotate_left
                          · simp only [Act.put, List.setIfInBounds_toArray, List.set_cons_zero, List.set_cons_succ, i64_w, i32_w]
                            rfl
                          refine take_ (i := 4) (N := some 91) (v := ?_) (a' := ?_) #[true, true, true, true, true, false, false, false, true, false, false] rfl rfl (take_ofW HT_.out HW_.out (by kernel_rfl)) (fun _ _ _ h => h) (Or.inl ⟨by rfl, ?_⟩) hHeld ?_ ?_
                          rotate_left
                          · rintro w' ⟨s0, s1, s2, s3, s4, s5, s6, s7, s8, s9⟩
                            go_simp
                            with_reducible rfl
                          rotate_left
                          · simp only [Act.put, List.setIfInBounds_toArray, List.set_cons_zero, List.set_cons_succ, i64_w, i32_w]
                            rfl
                          refine pure_ (i := 5) (N := some 92) (v := ?_) (a' := ?_) #[true, true, true, true, true, true, false, false, true, false, false] rfl rfl (any_of HT_.out (by kernel_rfl)) (fun _ _ _ h => h) (Or.inl ⟨by rfl, ?_⟩) ?_ ?_
                          rotate_left
                          · intro w'
                            go_simp
                            with_reducible rfl
                          rotate_left
                          · simp only [Act.put, List.setIfInBounds_toArray, List.set_cons_zero, List.set_cons_succ, i64_w, i32_w]
                            rfl
                          refine pure_ (i := 6) (N := some 93) (v := ?_) (a' := ?_) #[true, true, true, true, true, true, true, false, true, false, false] rfl rfl (any_of HT_.out (by kernel_rfl)) (fun _ _ _ h => h) (Or.inl ⟨by rfl, ?_⟩) ?_ ?_
                          rotate_left
                          · intro w'
                            go_simp
                            with_reducible rfl
                          rotate_left
                          · simp only [Act.put, List.setIfInBounds_toArray, List.set_cons_zero, List.set_cons_succ, i64_w, i32_w]
                            rfl
                          refine pure_ (i := 7) (N := some 94) (v := ?_) (a' := ?_) #[true, true, true, true, true, true, true, true, true, false, false] rfl rfl (any_of HT_.out (by kernel_rfl)) (fun _ _ _ h => h) (Or.inl ⟨by rfl, ?_⟩) ?_ ?_
                          rotate_left
                          · intro w'
                            go_simp
                            with_reducible rfl
                          rotate_left
                          · simp only [Act.put, List.setIfInBounds_toArray, List.set_cons_zero, List.set_cons_succ, i64_w, i32_w]
                            rfl
                          refine take_ (i := 9) (N := some 96) (v := ?_) (a' := ?_) #[true, true, true, true, true, true, true, true, true, true, false] rfl rfl (take_ofW HT_.out HW_.out (by kernel_rfl)) (fun _ _ _ h => h) (Or.inl ⟨by rfl, ?_⟩) hHeld ?_ ?_
                          rotate_left
                          · rintro w' ⟨s0, s1, s2, s3, s4, s5, s6, s7, s8, s9⟩
                            go_simp
                            with_reducible rfl
                          rotate_left
                          · simp only [Act.put, List.setIfInBounds_toArray, List.set_cons_zero, List.set_cons_succ, i64_w, i32_w]
                            rfl
                          refine pure_ (i := 10) (N := some 97) (v := ?_) (a' := ?_) #[true, true, true, true, true, true, true, true, true, true, true] rfl rfl (any_of HT_.out (by kernel_rfl)) (fun _ _ _ h => h) (Or.inl ⟨by rfl, ?_⟩) ?_ ?_
                          rotate_left
                          · intro w'
                            go_simp
                            with_reducible rfl
                          rotate_left
                          · simp only [Act.put, List.setIfInBounds_toArray, List.set_cons_zero, List.set_cons_succ, i64_w, i32_w]
                            rfl
                          refine done_ (done_of HT_.out (by kernel_rfl)) ?_
                          try go_wp2
                          go_meet
                          case rel => exact ⟨_, (x11_3), (by first | rfl | (simp; done) | (simp [*]; done) | (simp [bne]; done)), H', ⟨by have := HJ4.out; have := HJ25.out; have := HK3.out; first | omega | exact Nat.le_refl _⟩, ⟨by (with_reducible repeat (first | apply Kd.R_alloc | apply Kd.R_drewN | apply Kd.R_drew)); exact HO_343009.out⟩, ⟨by (with_reducible repeat (first | refine blk_drewN ?_ _ | refine blk_drew ?_ | refine blk_alloc ?_ _)); exact BK316.out⟩, ⟨by (with_reducible repeat (first | refine blk_drewN ?_ _ | refine blk_drew ?_ | refine blk_alloc ?_ _)); exact BK342.out⟩, ⟨by (with_reducible repeat (first | refine blk_drewN ?_ _ | refine blk_drew ?_ | refine blk_alloc ?_ _)); exact BK343.out⟩, ⟨by repeat (first | (with_reducible first | exact HB.out | apply below_alloc | apply pw_below_drewN | apply below_drew1 | refine below_set ?_ GE316.out | refine below_set ?_ GE342.out | refine below_set ?_ GE343.out) | exact HB.out)⟩⟩
                        · rw [if_neg c55] at H
                          have c55b0 : ((x9_25.extract (x11_3 : Int).toNat ((wrap64 (x11_3 + (t321.size : Int))) : Int).toNat).toList == t321.toList) = false := beq_eq_false_iff_ne.mpr c55
                          have c55b1 : ((x9_25.extract (x11_3 : Int).toNat ((wrap64 (x11_3 + (t321.size : Int))) : Int).toNat).toList != t321.toList) = true := bne_iff_ne.mpr c55
                          have H' := Aside0.mk H
                          clear H
                          have hnb60 := NB342_316.out
                          have hnc60 := NB316_342.out
                          have hnb61 := NB342_343.out
                          have hnc61 := NB343_342.out
                          have hcz62_0 : wr.cell? ⟨gb342, 0, none⟩ = some (.string t320) := (blk_cell BK342.out 0).trans rfl
                          have hcz62_1 : wr.cell? ⟨gb342, 1, none⟩ = some (.string t321) := (blk_cell BK342.out 1).trans rfl
                          have hcz62_2 : wr.cell? ⟨gb342, 2, none⟩ = some (.string t322) := (blk_cell BK342.out 2).trans rfl
                          have hcz62_3 : wr.cell? ⟨gb342, 3, none⟩ = some (.string t323) := (blk_cell BK342.out 3).trans rfl
                          have hcz62_4 : wr.cell? ⟨gb342, 4, none⟩ = some (.string t324) := (blk_cell BK342.out 4).trans rfl
                          have hcz62_5 : wr.cell? ⟨gb342, 5, none⟩ = some (.string t325) := (blk_cell BK342.out 5).trans rfl
                          have hcz62_6 : wr.cell? ⟨gb342, 6, none⟩ = some (.string t326) := (blk_cell BK342.out 6).trans rfl
                          have hcz62_7 : wr.cell? ⟨gb342, 7, none⟩ = some (.bool t327) := (blk_cell BK342.out 7).trans rfl
                          have hcz62_8 : wr.cell? ⟨gb342, 8, none⟩ = some (.bool t328) := (blk_cell BK342.out 8).trans rfl
                          have hcz62_9 : wr.cell? ⟨gb342, 9, none⟩ = some (.slice Ao33 t329.length co33) := (blk_cell BK342.out 9).trans rfl
                          have hfz62_0 := blk_frozen BK342.out 0
                          have hfz62_1 := blk_frozen BK342.out 1
                          have hfz62_2 := blk_frozen BK342.out 2
                          have hfz62_3 := blk_frozen BK342.out 3
                          have hfz62_4 := blk_frozen BK342.out 4
                          have hfz62_5 := blk_frozen BK342.out 5
                          have hfz62_6 := blk_frozen BK342.out 6
                          have hfz62_7 := blk_frozen BK342.out 7
                          have hfz62_8 := blk_frozen BK342.out 8
                          have hfz62_9 := blk_frozen BK342.out 9
                          try go_wp2
                          have n0_ := Aside0.mk (Kd.R_drew HO_343009.out)
                          have n1_ := Aside0.mk (blk_drew BK316.out)
                          have n2_ := Aside0.mk (blk_drew BK342.out)
                          have n3_ := Aside0.mk (blk_drew BK343.out)
                          have n4_ := Aside0.mk (below_drew1 HB.out)
                          clear HO_343009
                          clear BK316
                          clear BK342
                          clear BK343
                          clear HB
                          have HO_343009 := n0_
                          have BK316 := n1_
                          have BK342 := n2_
                          have BK343 := n3_
                          have HB := n4_
                          clear n0_ n1_ n2_ n3_ n4_
                          refine start_ (n := 11) (S := fun w' => w'.cell? ⟨gb342, 0, none⟩ = some (.string t320) ∧ w'.cell? ⟨gb342, 1, none⟩ = some (.string t321) ∧ w'.cell? ⟨gb342, 2, none⟩ = some (.string t322) ∧ w'.cell? ⟨gb342, 3, none⟩ = some (.string t323) ∧ w'.cell? ⟨gb342, 4, none⟩ = some (.string t324) ∧ w'.cell? ⟨gb342, 5, none⟩ = some (.string t325) ∧ w'.cell? ⟨gb342, 6, none⟩ = some (.string t326) ∧ w'.cell? ⟨gb342, 7, none⟩ = some (.bool t327) ∧ w'.cell? ⟨gb342, 8, none⟩ = some (.bool t328) ∧ w'.cell? ⟨gb342, 9, none⟩ = some (.slice Ao33 t329.length co33)) (ds := []) #[false, false, false, false, false, false, false, false, false, false, false] (by kernel_rfl) rfl rfl ⟨(blk_cell BK342.out 0).trans rfl, (blk_cell BK342.out 1).trans rfl, (blk_cell BK342.out 2).trans rfl, (blk_cell BK342.out 3).trans rfl, (blk_cell BK342.out 4).trans rfl, (blk_cell BK342.out 5).trans rfl, (blk_cell BK342.out 6).trans rfl, (blk_cell BK342.out 7).trans rfl, (blk_cell BK342.out 8).trans rfl, (blk_cell BK342.out 9).trans rfl⟩ (fun hHeld => ?_); refine with_tabW tabardlaw11_LocaleBack.tab15 tabardlaw11_LocaleBack.bits15 (fun HT_ HW_ => ?_)
                          generalize wr.drew = w63 at HO_343009 BK316 BK342 BK343 HB hHeld ⊢
                          refine pure_ (i := 0) (N := some 87) (v := ?_) (a' := ?_) #[true, false, false, false, false, false, false, false, false, false, false] rfl rfl (any_of HT_.out (by kernel_rfl)) (fun _ _ _ h => h) (Or.inl ⟨by rfl, ?_⟩) ?_ ?_
                          rotate_left
                          · intro w'
                            go_simp
                            with_reducible rfl
                          rotate_left
                          · simp only [Act.put, List.setIfInBounds_toArray, List.set_cons_zero, List.set_cons_succ, i64_w, i32_w]
                            rfl
                          refine pure_ (i := 1) (N := some 88) (v := ?_) (a' := ?_) #[true, true, false, false, false, false, false, false, false, false, false] rfl rfl (any_of HT_.out (by kernel_rfl)) (fun _ _ _ h => h) (Or.inl ⟨by rfl, ?_⟩) ?_ ?_
                          rotate_left
                          · intro w'
                            go_simp
                            with_reducible rfl
                          rotate_left
                          · simp only [Act.put, List.setIfInBounds_toArray, List.set_cons_zero, List.set_cons_succ, i64_w, i32_w]
                            rfl
                          refine pure_ (i := 2) (N := some 89) (v := ?_) (a' := ?_) #[true, true, true, false, false, false, false, false, false, false, false] rfl rfl (any_of HT_.out (by kernel_rfl)) (fun _ _ _ h => h) (Or.inl ⟨by rfl, ?_⟩) ?_ ?_
                          rotate_left
                          · intro w'
                            go_simp
                            with_reducible rfl
                          rotate_left
                          · simp only [Act.put, List.setIfInBounds_toArray, List.set_cons_zero, List.set_cons_succ, i64_w, i32_w]
                            rfl
                          refine pure_ (i := 3) (N := some 90) (v := ?_) (a' := ?_) #[true, true, true, true, false, false, false, false, false, false, false] rfl rfl (any_of HT_.out (by kernel_rfl)) (fun _ _ _ h => h) (Or.inl ⟨by rfl, ?_⟩) ?_ ?_
                          rotate_left
                          · intro w'
                            go_simp
                            with_reducible rfl
                          rotate_left
                          · simp only [Act.put, List.setIfInBounds_toArray, List.set_cons_zero, List.set_cons_succ, i64_w, i32_w]
                            rfl
                          refine pure_ (i := 8) (N := some 95) (v := ?_) (a' := ?_) #[true, true, true, true, false, false, false, false, true, false, false] rfl rfl (any_of HT_.out (by kernel_rfl)) (fun _ _ _ h => h) (Or.inl ⟨by rfl, ?_⟩) ?_ ?_
                          rotate_left
                          · intro w'
                            go_simp
                            with_reducible rfl
                          rotate_left
                          · simp only [Act.put, List.setIfInBounds_toArray, List.set_cons_zero, List.set_cons_succ, i64_w, i32_w]
                            rfl
                          refine take_ (i := 4) (N := some 91) (v := ?_) (a' := ?_) #[true, true, true, true, true, false, false, false, true, false, false] rfl rfl (take_ofW HT_.out HW_.out (by kernel_rfl)) (fun _ _ _ h => h) (Or.inl ⟨by rfl, ?_⟩) hHeld ?_ ?_
                          rotate_left
                          · rintro w' ⟨s0, s1, s2, s3, s4, s5, s6, s7, s8, s9⟩
                            go_simp
                            with_reducible rfl
                          rotate_left
                          · simp only [Act.put, List.setIfInBounds_toArray, List.set_cons_zero, List.set_cons_succ, i64_w, i32_w]
                            rfl
                          refine pure_ (i := 5) (N := some 92) (v := ?_) (a' := ?_) #[true, true, true, true, true, true, false, false, true, false, false] rfl rfl (any_of HT_.out (by kernel_rfl)) (fun _ _ _ h => h) (Or.inl ⟨by rfl, ?_⟩) ?_ ?_
                          rotate_left
                          · intro w'
                            go_simp
                            with_reducible rfl
                          rotate_left
                          · simp only [Act.put, List.setIfInBounds_toArray, List.set_cons_zero, List.set_cons_succ, i64_w, i32_w]
                            rfl
                          refine pure_ (i := 6) (N := some 93) (v := ?_) (a' := ?_) #[true, true, true, true, true, true, true, false, true, false, false] rfl rfl (any_of HT_.out (by kernel_rfl)) (fun _ _ _ h => h) (Or.inl ⟨by rfl, ?_⟩) ?_ ?_
                          rotate_left
                          · intro w'
                            go_simp
                            with_reducible rfl
                          rotate_left
                          · simp only [Act.put, List.setIfInBounds_toArray, List.set_cons_zero, List.set_cons_succ, i64_w, i32_w]
                            rfl
                          refine pure_ (i := 7) (N := some 94) (v := ?_) (a' := ?_) #[true, true, true, true, true, true, true, true, true, false, false] rfl rfl (any_of HT_.out (by kernel_rfl)) (fun _ _ _ h => h) (Or.inl ⟨by rfl, ?_⟩) ?_ ?_
                          rotate_left
                          · intro w'
                            go_simp
                            with_reducible rfl
                          rotate_left
                          · simp only [Act.put, List.setIfInBounds_toArray, List.set_cons_zero, List.set_cons_succ, i64_w, i32_w]
                            rfl
                          refine take_ (i := 9) (N := some 96) (v := ?_) (a' := ?_) #[true, true, true, true, true, true, true, true, true, true, false] rfl rfl (take_ofW HT_.out HW_.out (by kernel_rfl)) (fun _ _ _ h => h) (Or.inl ⟨by rfl, ?_⟩) hHeld ?_ ?_
                          rotate_left
                          · rintro w' ⟨s0, s1, s2, s3, s4, s5, s6, s7, s8, s9⟩
                            go_simp
                            with_reducible rfl
                          rotate_left
                          · simp only [Act.put, List.setIfInBounds_toArray, List.set_cons_zero, List.set_cons_succ, i64_w, i32_w]
                            rfl
                          refine pure_ (i := 10) (N := some 97) (v := ?_) (a' := ?_) #[true, true, true, true, true, true, true, true, true, true, true] rfl rfl (any_of HT_.out (by kernel_rfl)) (fun _ _ _ h => h) (Or.inl ⟨by rfl, ?_⟩) ?_ ?_
                          rotate_left
                          · intro w'
                            go_simp
                            with_reducible rfl
                          rotate_left
                          · simp only [Act.put, List.setIfInBounds_toArray, List.set_cons_zero, List.set_cons_succ, i64_w, i32_w]
                            rfl
                          refine done_ (done_of HT_.out (by kernel_rfl)) ?_
                          try go_wp2
                          go_roundg k3
                          case measure => have := HJ4.out; have := HJ25.out; have := HK3.out; omega
                          case rel => exact ⟨(x10_3), (wrap64 (x11_3 + 1)), (by first | rfl | (simp; done) | (simp [*]; done) | (simp [bne]; done)), (by first | rfl | (simp; done) | (simp [*]; done) | (simp [bne]; done)), H', ⟨by have := HJ4.out; have := HJ25.out; have := HK3.out; omega⟩, ⟨by (with_reducible repeat (first | apply Kd.R_alloc | apply Kd.R_drewN | apply Kd.R_drew)); exact HO_343009.out⟩, ⟨by (with_reducible repeat (first | refine blk_drewN ?_ _ | refine blk_drew ?_ | refine blk_alloc ?_ _)); exact BK316.out⟩, ⟨by (with_reducible repeat (first | refine blk_drewN ?_ _ | refine blk_drew ?_ | refine blk_alloc ?_ _)); exact BK342.out⟩, ⟨by (with_reducible repeat (first | refine blk_drewN ?_ _ | refine blk_drew ?_ | refine blk_alloc ?_ _)); exact BK343.out⟩, ⟨by repeat (first | (with_reducible first | exact HB.out | apply below_alloc | apply pw_below_drewN | apply below_drew1 | refine below_set ?_ GE316.out | refine below_set ?_ GE342.out | refine below_set ?_ GE343.out) | exact HB.out)⟩⟩
                      · rw [if_neg c53] at H
                        exact absurd H (by simp)
                    · rw [if_neg c52] at H
                      exact absurd H (by simp)
                  · rw [if_neg c51] at H
                    have c51b0 : decide ((wrap64 (x11_3 + (t321.size : Int))) ≤ (x9_25.size : Int)) = false := decide_eq_false c51
                    clear c51
                    (first | rw [c51b0] | (simp only [i64_w, i32_w]; rw [c51b0]) | skip)
                    have H' := Aside0.mk H
                    clear H
                    have hnb64 := NB342_316.out
                    have hnc64 := NB316_342.out
                    have hnb65 := NB342_343.out
                    have hnc65 := NB343_342.out
                    have hcz66_0 : wr.cell? ⟨gb342, 0, none⟩ = some (.string t320) := (blk_cell BK342.out 0).trans rfl
                    have hcz66_1 : wr.cell? ⟨gb342, 1, none⟩ = some (.string t321) := (blk_cell BK342.out 1).trans rfl
                    have hcz66_2 : wr.cell? ⟨gb342, 2, none⟩ = some (.string t322) := (blk_cell BK342.out 2).trans rfl
                    have hcz66_3 : wr.cell? ⟨gb342, 3, none⟩ = some (.string t323) := (blk_cell BK342.out 3).trans rfl
                    have hcz66_4 : wr.cell? ⟨gb342, 4, none⟩ = some (.string t324) := (blk_cell BK342.out 4).trans rfl
                    have hcz66_5 : wr.cell? ⟨gb342, 5, none⟩ = some (.string t325) := (blk_cell BK342.out 5).trans rfl
                    have hcz66_6 : wr.cell? ⟨gb342, 6, none⟩ = some (.string t326) := (blk_cell BK342.out 6).trans rfl
                    have hcz66_7 : wr.cell? ⟨gb342, 7, none⟩ = some (.bool t327) := (blk_cell BK342.out 7).trans rfl
                    have hcz66_8 : wr.cell? ⟨gb342, 8, none⟩ = some (.bool t328) := (blk_cell BK342.out 8).trans rfl
                    have hcz66_9 : wr.cell? ⟨gb342, 9, none⟩ = some (.slice Ao33 t329.length co33) := (blk_cell BK342.out 9).trans rfl
                    have hfz66_0 := blk_frozen BK342.out 0
                    have hfz66_1 := blk_frozen BK342.out 1
                    have hfz66_2 := blk_frozen BK342.out 2
                    have hfz66_3 := blk_frozen BK342.out 3
                    have hfz66_4 := blk_frozen BK342.out 4
                    have hfz66_5 := blk_frozen BK342.out 5
                    have hfz66_6 := blk_frozen BK342.out 6
                    have hfz66_7 := blk_frozen BK342.out 7
                    have hfz66_8 := blk_frozen BK342.out 8
                    have hfz66_9 := blk_frozen BK342.out 9
                    go_wp2
                    go_meet
                    case rel => exact ⟨_, (x10_3), (by first | rfl | (simp; done) | (simp [*]; done) | (simp [bne]; done)), H', ⟨by have := HJ4.out; have := HJ25.out; have := HK3.out; first | omega | exact Nat.le_refl _⟩, ⟨by (with_reducible repeat (first | apply Kd.R_alloc | apply Kd.R_drewN | apply Kd.R_drew)); exact HO_343009.out⟩, ⟨by (with_reducible repeat (first | refine blk_drewN ?_ _ | refine blk_drew ?_ | refine blk_alloc ?_ _)); exact BK316.out⟩, ⟨by (with_reducible repeat (first | refine blk_drewN ?_ _ | refine blk_drew ?_ | refine blk_alloc ?_ _)); exact BK342.out⟩, ⟨by (with_reducible repeat (first | refine blk_drewN ?_ _ | refine blk_drew ?_ | refine blk_alloc ?_ _)); exact BK343.out⟩, ⟨by repeat (first | (with_reducible first | exact HB.out | apply below_alloc | apply pw_below_drewN | apply below_drew1 | refine below_set ?_ GE316.out | refine below_set ?_ GE342.out | refine below_set ?_ GE343.out) | exact HB.out)⟩⟩
            case rest =>
              clear HC50
              try clear c1
              try clear c2
              try clear p2
              try clear c3
              try clear c4
              try clear c5
              try clear c6
              try clear p6
              try clear c10
              try clear c11
              try clear c13
              try clear c13b0
              try clear c16
              try clear c16b0
              try clear c17
              try clear c21
              try clear c23
              try clear c30
              try clear c31
              try clear c34
              try clear c39
              try clear c40
              try clear c40b0
              try clear c40b1
              try clear c41
              try clear c41b0
              try clear c41b1
              try clear c42
              try clear c42b0
              try clear c42b1
              try clear c43
              try clear c43b0
              try clear c43b1
              try clear c44
              try clear c44b0
              try clear c45
              try clear c45b0
              try clear c47
              try clear c48
              try clear c51
              try clear c51b0
              try clear c52
              try clear c52b0
              try clear c52b1
              try clear c53
              try clear c53b0
              try clear c53b1
              try clear c54
              try clear c54b0
              try clear c55
              try clear c55b0
              try clear c55b1
              try clear c56
              try clear c57
              try clear c60
              try clear c61
              try clear c64
              try clear p64
              try clear c65
              try clear hcz14_0
              try clear hcz14_1
              try clear hcz14_2
              try clear hcz17_0
              try clear hcz17_1
              try clear hcz17_2
              try clear hcz19_0
              try clear hcz19_1
              try clear hcz19_2
              try clear hcz20_0
              try clear hcz20_1
              try clear hcz20_2
              try clear hcz22_0
              try clear hcz22_1
              try clear hcz22_2
              try clear hcz32_0
              try clear hcz32_1
              try clear hcz32_2
              try clear hcz32_3
              try clear hcz32_4
              try clear hcz32_5
              try clear hcz32_6
              try clear hcz32_7
              try clear hcz32_8
              try clear hcz32_9
              try clear hcz35_0
              try clear hcz35_1
              try clear hcz35_2
              try clear hcz35_3
              try clear hcz35_4
              try clear hcz35_5
              try clear hcz35_6
              try clear hcz35_7
              try clear hcz35_8
              try clear hcz35_9
              try clear hcz36_0
              try clear hcz36_1
              try clear hcz36_2
              try clear hcz38_0
              try clear hcz38_1
              try clear hcz38_2
              try clear hcz49_0
              try clear hcz49_1
              try clear hcz49_2
              try clear hcz49_3
              try clear hcz49_4
              try clear hcz49_5
              try clear hcz49_6
              try clear hcz49_7
              try clear hcz49_8
              try clear hcz49_9
              try clear hcz58_0
              try clear hcz58_1
              try clear hcz58_2
              try clear hcz58_3
              try clear hcz58_4
              try clear hcz58_5
              try clear hcz58_6
              try clear hcz58_7
              try clear hcz58_8
              try clear hcz58_9
              try clear hcz62_0
              try clear hcz62_1
              try clear hcz62_2
              try clear hcz62_3
              try clear hcz62_4
              try clear hcz62_5
              try clear hcz62_6
              try clear hcz62_7
              try clear hcz62_8
              try clear hcz62_9
              try clear hcz66_0
              try clear hcz66_1
              try clear hcz66_2
              try clear hcz66_3
              try clear hcz66_4
              try clear hcz66_5
              try clear hcz66_6
              try clear hcz66_7
              try clear hcz66_8
              try clear hcz66_9
              try clear hcz8_0
              try clear hcz8_1
              try clear hcz8_2
              try clear hfz14_0
              try clear hfz14_1
              try clear hfz14_2
              try clear hfz17_0
              try clear hfz17_1
              try clear hfz17_2
              try clear hfz19_0
              try clear hfz19_1
              try clear hfz19_2
              try clear hfz20_0
              try clear hfz20_1
              try clear hfz20_2
              try clear hfz22_0
              try clear hfz22_1
              try clear hfz22_2
              try clear hfz32_0
              try clear hfz32_1
              try clear hfz32_2
              try clear hfz32_3
              try clear hfz32_4
              try clear hfz32_5
              try clear hfz32_6
              try clear hfz32_7
              try clear hfz32_8
              try clear hfz32_9
              try clear hfz35_0
              try clear hfz35_1
              try clear hfz35_2
              try clear hfz35_3
              try clear hfz35_4
              try clear hfz35_5
              try clear hfz35_6
              try clear hfz35_7
              try clear hfz35_8
              try clear hfz35_9
              try clear hfz36_0
              try clear hfz36_1
              try clear hfz36_2
              try clear hfz38_0
              try clear hfz38_1
              try clear hfz38_2
              try clear hfz49_0
              try clear hfz49_1
              try clear hfz49_2
              try clear hfz49_3
              try clear hfz49_4
              try clear hfz49_5
              try clear hfz49_6
              try clear hfz49_7
              try clear hfz49_8
              try clear hfz49_9
              try clear hfz58_0
              try clear hfz58_1
              try clear hfz58_2
              try clear hfz58_3
              try clear hfz58_4
              try clear hfz58_5
              try clear hfz58_6
              try clear hfz58_7
              try clear hfz58_8
              try clear hfz58_9
              try clear hfz62_0
              try clear hfz62_1
              try clear hfz62_2
              try clear hfz62_3
              try clear hfz62_4
              try clear hfz62_5
              try clear hfz62_6
              try clear hfz62_7
              try clear hfz62_8
              try clear hfz62_9
              try clear hfz66_0
              try clear hfz66_1
              try clear hfz66_2
              try clear hfz66_3
              try clear hfz66_4
              try clear hfz66_5
              try clear hfz66_6
              try clear hfz66_7
              try clear hfz66_8
              try clear hfz66_9
              try clear hfz8_0
              try clear hfz8_1
              try clear hfz8_2
              try clear p2
              obtain ⟨kq, x10_49, rfl, HA, HJ49, HO_343009, BK316, BK342, BK343, HB⟩ := hcut
              cases kq with
              | zero => exact absurd HA.out (by simp [tabardlaw11_LocaleBack.j3])
              | succ kj49 =>
                have H := HA.out
                clear HA
                simp only [tabardlaw11_LocaleBack.j3] at H
                by_cases c67 : 0 ≤ x10_49
                · rw [if_pos c67] at H
                  have c67b0 := eq_true c67
                  have c67b1 : decide (0 ≤ x10_49) = true := decide_eq_true c67
                  clear c67
                  by_cases c68 : x10_49 ≤ (x9_25.size : Int)
                  · rw [if_pos c68] at H
                    have c68b0 := eq_true c68
                    have c68b1 : decide (x10_49 ≤ (x9_25.size : Int)) = true := decide_eq_true c68
                    clear c68
                    replace H := Option.bind_eq_some_iff.mp H
                    obtain ⟨⟨t345, t346⟩, A690, H⟩ := H
                    replace H : (if x10_49 < (x9_25.size : Int) then (if 0 ≤ (wrap64 (x10_49 + (t321.size : Int))) then (if (wrap64 (x10_49 + (t321.size : Int))) ≤ (x9_25.size : Int) then ((tabardlaw11_digitsAll.f kj49 (x9_25.extract ((wrap64 (x10_49 + (t321.size : Int))) : Int).toNat x9_25.size)).bind fun t347 => (if t345.size + (x9_25.extract ((wrap64 (x10_49 + (t321.size : Int))) : Int).toNat x9_25.size).size ≤ 9223372036854775807 then ((tabardref7_Make.f kj49 a1_0 (t345 ++ (x9_25.extract ((wrap64 (x10_49 + (t321.size : Int))) : Int).toNat x9_25.size)) (wrap64 (-((x9_25.extract ((wrap64 (x10_49 + (t321.size : Int))) : Int).toNat x9_25.size).size : Int)))).bind fun bt348 => (if t346 = true then (if t347 = true then (if bt348.2.2.2 = 0 then (if (bt348.1 == a1_0 && (bt348.2.1.toList == a1_1.toList && (bt348.2.2.1 == a1_2))) = true then (if x10_49 = (x9_25.size : Int) then (some true) else (if (x9_25.extract ((wrap64 (x10_49 + (t321.size : Int))) : Int).toNat x9_25.size).toList = ([] : List UInt8) then (none) else (if 0 ≤ (wrap64 (((x9_25.extract ((wrap64 (x10_49 + (t321.size : Int))) : Int).toNat x9_25.size).size : Int) - 1)) then (if (wrap64 (((x9_25.extract ((wrap64 (x10_49 + (t321.size : Int))) : Int).toNat x9_25.size).size : Int) - 1)) < ((x9_25.extract ((wrap64 (x10_49 + (t321.size : Int))) : Int).toNat x9_25.size).size : Int) then (some ((bt (x9_25.extract ((wrap64 (x10_49 + (t321.size : Int))) : Int).toNat x9_25.size) (wrap64 (((x9_25.extract ((wrap64 (x10_49 + (t321.size : Int))) : Int).toNat x9_25.size).size : Int) - 1))) != 48)) else (none)) else (none)))) else (none)) else (none)) else (none)) else (none))) else (none))) else (none)) else (none)) else ((tabardlaw11_digitsAll.f kj49 (⟨#[]⟩ : ByteArray)).bind fun t353 => (if t345.size + 0 ≤ 9223372036854775807 then ((tabardref7_Make.f kj49 a1_0 (t345 ++ (⟨#[]⟩ : ByteArray)) (-0)).bind fun bt354 => (if t346 = true then (if t353 = true then (if bt354.2.2.2 = 0 then (if (bt354.1 == a1_0 && (bt354.2.1.toList == a1_1.toList && (bt354.2.2.1 == a1_2))) = true then (if x10_49 = (x9_25.size : Int) then (some true) else (if ([] : List UInt8) = ([] : List UInt8) then (none) else (if 0 ≤ (-1) then (if (-1) < 0 then (some ((bt (⟨#[]⟩ : ByteArray) (-1)) != 48)) else (none)) else (none)))) else (none)) else (none)) else (none)) else (none))) else (none)))) = some r := H
                    have A69 := Aside0.mk A690
                    clear A690
                    by_cases c70 : x10_49 < (x9_25.size : Int)
                    · rw [if_pos c70] at H
                      have c70b0 : decide (x10_49 < (x9_25.size : Int)) = true := decide_eq_true c70
                      clear c70
                      obtain ⟨ji71, hji71⟩ : ∃ j_ : Int, (wrap64 (x10_49 + (t321.size : Int))) = j_ := ⟨_, rfl⟩
                      replace H : (if 0 ≤ (ji71) then (if (ji71) ≤ (x9_25.size : Int) then ((tabardlaw11_digitsAll.f kj49 (x9_25.extract ((ji71) : Int).toNat x9_25.size)).bind fun t347 => (if t345.size + (x9_25.extract ((ji71) : Int).toNat x9_25.size).size ≤ 9223372036854775807 then ((tabardref7_Make.f kj49 a1_0 (t345 ++ (x9_25.extract ((ji71) : Int).toNat x9_25.size)) (wrap64 (-((x9_25.extract ((ji71) : Int).toNat x9_25.size).size : Int)))).bind fun bt348 => (if t346 = true then (if t347 = true then (if bt348.2.2.2 = 0 then (if (bt348.1 == a1_0 && (bt348.2.1.toList == a1_1.toList && (bt348.2.2.1 == a1_2))) = true then (if x10_49 = (x9_25.size : Int) then (some true) else (if (x9_25.extract ((ji71) : Int).toNat x9_25.size).toList = ([] : List UInt8) then (none) else (if 0 ≤ (wrap64 (((x9_25.extract ((ji71) : Int).toNat x9_25.size).size : Int) - 1)) then (if (wrap64 (((x9_25.extract ((ji71) : Int).toNat x9_25.size).size : Int) - 1)) < ((x9_25.extract ((ji71) : Int).toNat x9_25.size).size : Int) then (some ((bt (x9_25.extract ((ji71) : Int).toNat x9_25.size) (wrap64 (((x9_25.extract ((ji71) : Int).toNat x9_25.size).size : Int) - 1))) != 48)) else (none)) else (none)))) else (none)) else (none)) else (none)) else (none))) else (none))) else (none)) else (none)) = some r := by first | (rw [hji71] at H; exact H) | (simp only [hji71] at H ⊢; exact H)
                      (try rw [hji71] at A69)
                      have hji71w : (IntKind.i64.wrap (x10_49 + (t321.size : Int))) = ji71 := (i64_w _).trans hji71
                      by_cases c72 : 0 ≤ (ji71)
                      · rw [if_pos c72] at H
                        have c72b0 := eq_true c72
                        have c72b1 : decide (0 ≤ (ji71)) = true := decide_eq_true c72
                        clear c72
                        by_cases c73 : (ji71) ≤ (x9_25.size : Int)
                        · rw [if_pos c73] at H
                          have c73b0 := eq_true c73
                          have c73b1 : decide ((ji71) ≤ (x9_25.size : Int)) = true := decide_eq_true c73
                          clear c73
                          replace H := Option.bind_eq_some_iff.mp H
                          obtain ⟨t347, A740, H⟩ := H
                          replace H : (if t345.size + (x9_25.extract ((ji71) : Int).toNat x9_25.size).size ≤ 9223372036854775807 then ((tabardref7_Make.f kj49 a1_0 (t345 ++ (x9_25.extract ((ji71) : Int).toNat x9_25.size)) (wrap64 (-((x9_25.extract ((ji71) : Int).toNat x9_25.size).size : Int)))).bind fun bt348 => (if t346 = true then (if t347 = true then (if bt348.2.2.2 = 0 then (if (bt348.1 == a1_0 && (bt348.2.1.toList == a1_1.toList && (bt348.2.2.1 == a1_2))) = true then (if x10_49 = (x9_25.size : Int) then (some true) else (if (x9_25.extract ((ji71) : Int).toNat x9_25.size).toList = ([] : List UInt8) then (none) else (if 0 ≤ (wrap64 (((x9_25.extract ((ji71) : Int).toNat x9_25.size).size : Int) - 1)) then (if (wrap64 (((x9_25.extract ((ji71) : Int).toNat x9_25.size).size : Int) - 1)) < ((x9_25.extract ((ji71) : Int).toNat x9_25.size).size : Int) then (some ((bt (x9_25.extract ((ji71) : Int).toNat x9_25.size) (wrap64 (((x9_25.extract ((ji71) : Int).toNat x9_25.size).size : Int) - 1))) != 48)) else (none)) else (none)))) else (none)) else (none)) else (none)) else (none))) else (none)) = some r := H
                          have A74 := Aside0.mk A740
                          clear A740
                          by_cases c75 : t345.size + (x9_25.extract ((ji71) : Int).toNat x9_25.size).size ≤ 9223372036854775807
                          · rw [if_pos c75] at H
                            have c75b0 := eq_true c75
                            have c75b1 : decide (t345.size + (x9_25.extract ((ji71) : Int).toNat x9_25.size).size ≤ 9223372036854775807) = true := decide_eq_true c75
                            try have c75b2 : (9223372036854775807 < t345.size + (x9_25.extract ((ji71) : Int).toNat x9_25.size).size) = False := eq_false (Nat.not_lt.2 c75)
                            replace H := Option.bind_eq_some_iff.mp H
                            obtain ⟨⟨t348, t349, t350, t351⟩, A760, H⟩ := H
                            replace H : (if t346 = true then (if t347 = true then (if t351 = 0 then (if (t348 == a1_0 && (t349.toList == a1_1.toList && (t350 == a1_2))) = true then (if x10_49 = (x9_25.size : Int) then (some true) else (if (x9_25.extract ((ji71) : Int).toNat x9_25.size).toList = ([] : List UInt8) then (none) else (if 0 ≤ (wrap64 (((x9_25.extract ((ji71) : Int).toNat x9_25.size).size : Int) - 1)) then (if (wrap64 (((x9_25.extract ((ji71) : Int).toNat x9_25.size).size : Int) - 1)) < ((x9_25.extract ((ji71) : Int).toNat x9_25.size).size : Int) then (some ((bt (x9_25.extract ((ji71) : Int).toNat x9_25.size) (wrap64 (((x9_25.extract ((ji71) : Int).toNat x9_25.size).size : Int) - 1))) != 48)) else (none)) else (none)))) else (none)) else (none)) else (none)) else (none)) = some r := H
                            have A76 := Aside0.mk A760
                            clear A760
                            by_cases c77 : t346 = true
                            · subst c77
                              have H1 : (if t347 = true then (if t351 = 0 then (if (t348 == a1_0 && (t349.toList == a1_1.toList && (t350 == a1_2))) = true then (if x10_49 = (x9_25.size : Int) then (some true) else (if (x9_25.extract ((ji71) : Int).toNat x9_25.size).toList = ([] : List UInt8) then (none) else (if 0 ≤ (wrap64 (((x9_25.extract ((ji71) : Int).toNat x9_25.size).size : Int) - 1)) then (if (wrap64 (((x9_25.extract ((ji71) : Int).toNat x9_25.size).size : Int) - 1)) < ((x9_25.extract ((ji71) : Int).toNat x9_25.size).size : Int) then (some ((bt (x9_25.extract ((ji71) : Int).toNat x9_25.size) (wrap64 (((x9_25.extract ((ji71) : Int).toNat x9_25.size).size : Int) - 1))) != 48)) else (none)) else (none)))) else (none)) else (none)) else (none)) = some r := by rw [if_pos rfl] at H; exact H
                              clear H
                              have H := H1
                              clear H1
                              by_cases c78 : t347 = true
                              · subst c78
                                have H1 : (if t351 = 0 then (if (t348 == a1_0 && (t349.toList == a1_1.toList && (t350 == a1_2))) = true then (if x10_49 = (x9_25.size : Int) then (some true) else (if (x9_25.extract ((ji71) : Int).toNat x9_25.size).toList = ([] : List UInt8) then (none) else (if 0 ≤ (wrap64 (((x9_25.extract ((ji71) : Int).toNat x9_25.size).size : Int) - 1)) then (if (wrap64 (((x9_25.extract ((ji71) : Int).toNat x9_25.size).size : Int) - 1)) < ((x9_25.extract ((ji71) : Int).toNat x9_25.size).size : Int) then (some ((bt (x9_25.extract ((ji71) : Int).toNat x9_25.size) (wrap64 (((x9_25.extract ((ji71) : Int).toNat x9_25.size).size : Int) - 1))) != 48)) else (none)) else (none)))) else (none)) else (none)) = some r := by rw [if_pos rfl] at H; exact H
                                clear H
                                have H := H1
                                clear H1
                                by_cases c79 : t351 = 0
                                · rw [if_pos c79] at H
                                  have c79b0 : (t351 == 0) = true := beq_iff_eq.mpr c79
                                  have c79b1 : (t351 != 0) = false := bne_eq_false_iff_eq.mpr c79
                                  clear c79
                                  by_cases c80 : (t348 == a1_0 && (t349.toList == a1_1.toList && (t350 == a1_2))) = true
                                  · rw [if_pos c80] at H
                                    have c80b0 : (t348 == a1_0 && (t349.toList == a1_1.toList && (t350 == a1_2))) = true := c80
                                    (try (have c80b1 : decide (t348 = a1_0 && (t349.toList == a1_1.toList && (t350 == a1_2))) = true := by simpa using c80))
                                    (try (have c80b2 : (t348 == a1_0 && (t349.toList == a1_1.toList && (t350 == a1_2))) = true := by simpa using c80))
                                    clear c80
                                    by_cases c81 : x10_49 = (x9_25.size : Int)
                                    · rw [if_pos c81] at H
                                      have c81b0 : (x10_49 == (x9_25.size : Int)) = true := beq_iff_eq.mpr c81
                                      have c81b1 : (x10_49 != (x9_25.size : Int)) = false := bne_eq_false_iff_eq.mpr c81
                                      clear c81
                                      obtain rfl := Option.some.inj H
                                      try go_wp2
                                      have n0_ := Aside0.mk (Kd.R_drew HO_343009.out)
                                      have n1_ := Aside0.mk (blk_drew BK316.out)
                                      have n2_ := Aside0.mk (blk_drew BK342.out)
                                      have n3_ := Aside0.mk (blk_drew BK343.out)
                                      have n4_ := Aside0.mk (below_drew1 HB.out)
                                      clear HO_343009
                                      clear BK316
                                      clear BK342
                                      clear BK343
                                      clear HB
                                      have HO_343009 := n0_
                                      have BK316 := n1_
                                      have BK342 := n2_
                                      have BK343 := n3_
                                      have HB := n4_
                                      clear n0_ n1_ n2_ n3_ n4_
                                      refine start_ (n := 10) (S := fun w' => w'.cell? ⟨gb342, 0, none⟩ = some (.string t320) ∧ w'.cell? ⟨gb342, 1, none⟩ = some (.string t321) ∧ w'.cell? ⟨gb342, 2, none⟩ = some (.string t322) ∧ w'.cell? ⟨gb342, 3, none⟩ = some (.string t323) ∧ w'.cell? ⟨gb342, 4, none⟩ = some (.string t324) ∧ w'.cell? ⟨gb342, 5, none⟩ = some (.string t325) ∧ w'.cell? ⟨gb342, 6, none⟩ = some (.string t326) ∧ w'.cell? ⟨gb342, 7, none⟩ = some (.bool t327) ∧ w'.cell? ⟨gb342, 8, none⟩ = some (.bool t328) ∧ w'.cell? ⟨gb342, 9, none⟩ = some (.slice Ao33 t329.length co33)) (ds := []) #[false, false, false, false, false, false, false, false, false, false] (by kernel_rfl) rfl rfl ⟨(blk_cell BK342.out 0).trans rfl, (blk_cell BK342.out 1).trans rfl, (blk_cell BK342.out 2).trans rfl, (blk_cell BK342.out 3).trans rfl, (blk_cell BK342.out 4).trans rfl, (blk_cell BK342.out 5).trans rfl, (blk_cell BK342.out 6).trans rfl, (blk_cell BK342.out 7).trans rfl, (blk_cell BK342.out 8).trans rfl, (blk_cell BK342.out 9).trans rfl⟩ (fun hHeld => ?_); refine with_tabW tabardlaw11_LocaleBack.tab17 tabardlaw11_LocaleBack.bits17 (fun HT_ HW_ => ?_)
                                      generalize wc.drew = w82 at HO_343009 BK316 BK342 BK343 HB hHeld ⊢
                                      refine pure_ (i := 1) (N := some 101) (v := ?_) (a' := ?_) #[false, true, false, false, false, false, false, false, false, false] rfl rfl (any_of HT_.out (by kernel_rfl)) (fun _ _ _ h => h) (Or.inl ⟨by rfl, ?_⟩) ?_ ?_
                                      rotate_left
                                      · intro w'
                                        go_simp
                                        with_reducible rfl
                                      rotate_left
                                      · simp only [Act.put, List.setIfInBounds_toArray, List.set_cons_zero, List.set_cons_succ, i64_w, i32_w]
                                        rfl
                                      refine pure_ (i := 2) (N := some 102) (v := ?_) (a' := ?_) #[false, true, true, false, false, false, false, false, false, false] rfl rfl (any_of HT_.out (by kernel_rfl)) (fun _ _ _ h => h) (Or.inl ⟨by rfl, ?_⟩) ?_ ?_
                                      rotate_left
                                      · intro w'
                                        go_simp
                                        with_reducible rfl
                                      rotate_left
                                      · simp only [Act.put, List.setIfInBounds_toArray, List.set_cons_zero, List.set_cons_succ, i64_w, i32_w]
                                        rfl
                                      refine pure_ (i := 3) (N := some 103) (v := ?_) (a' := ?_) #[false, true, true, true, false, false, false, false, false, false] rfl rfl (any_of HT_.out (by kernel_rfl)) (fun _ _ _ h => h) (Or.inl ⟨by rfl, ?_⟩) ?_ ?_
                                      rotate_left
                                      · intro w'
                                        go_simp
                                        with_reducible rfl
                                      rotate_left
                                      · simp only [Act.put, List.setIfInBounds_toArray, List.set_cons_zero, List.set_cons_succ, i64_w, i32_w]
                                        rfl
                                      refine take_ (i := 0) (N := some 100) (v := ?_) (a' := ?_) #[true, true, true, true, false, false, false, false, false, false] rfl rfl (take_ofW HT_.out HW_.out (by kernel_rfl)) (fun _ _ _ h => h) (Or.inl ⟨by rfl, ?_⟩) hHeld ?_ ?_
                                      rotate_left
                                      · rintro w' ⟨s0, s1, s2, s3, s4, s5, s6, s7, s8, s9⟩
                                        go_simp
                                        with_reducible rfl
                                      rotate_left
                                      · simp only [Act.put, List.setIfInBounds_toArray, List.set_cons_zero, List.set_cons_succ, i64_w, i32_w]
                                        rfl
                                      refine one_ (i := 4) (N := some 104) #[true, true, true, true, true, false, false, false, false, false] rfl rfl (one_of HT_.out (by kernel_rfl)) (by decide) (fun K hK => ?_)
                                      refine goes_ Tryd.func12 (by kernel_rfl) rfl #[.agg #[.string t320, .string t321, .string t322, .string t323, .string t324, .string t325, .string t326, .bool t327, .bool t328, .slice Ao33 t329.length co33], .string (x9_25.extract 0 (x10_49 : Int).toNat)] (by rfl) rfl rfl (by (try simp only [List.map_toArray, List.map_cons, List.map_nil]); first | done | rfl | (simp only [List.length_drop, List.length_take]; rfl)) ?_
                                      with_reducible refine (locale_Locale_Plain.calls kj49 t320 t321 t322 t323 t324 t325 t326 t327 t328 _ _ t329 (x9_25.extract 0 (x10_49 : Int).toNat) t345 true _ ?side3 ?side1 ?side2 A69.out).mono ?_
                                      (case side1 => repeat (first | exact (Kd.R_reads' HO_343009.out).2.2 | (with_reducible refine Kd.C_alloc ?_ _) | (with_reducible refine Kd.C_drewN ?_ _) | (with_reducible refine Kd.C_drew ?_)))
                                      (case side2 => exact (Kd.R_reads' HO_343009.out).2.1)
                                      (case side3 => exact GL.below HGL.out (by repeat (first | (with_reducible first | exact HB.out | apply below_alloc | apply pw_below_drewN | apply below_drew1 | refine below_set ?_ GE316.out | refine below_set ?_ GE342.out | refine below_set ?_ GE343.out) | exact HB.out)))
                                      rintro e w83 ⟨rfl, hb⟩
                                      refine ⟨_, rfl, ?_⟩
                                      have n0_ := Aside0.mk (Kd.R_below (by (with_reducible repeat (first | apply Kd.R_alloc | apply Kd.R_drewN | apply Kd.R_drew)); exact HO_343009.out) hb)
                                      have n1_ := Aside0.mk (blk_below (g := gb316) (o := .cells #[.bool a1_0, .string a1_1, .int .i64 a1_2] 36 (0, 0)) (by (with_reducible repeat (first | refine blk_drewN ?_ _ | refine blk_drew ?_ | refine blk_alloc ?_ _)); exact BK316.out) hb)
                                      have n2_ := Aside0.mk (blk_below (g := gb342) (o := .cells #[.string t320, .string t321, .string t322, .string t323, .string t324, .string t325, .string t326, .bool t327, .bool t328, .slice Ao33 t329.length co33] 25 (0, 0)) (by (with_reducible repeat (first | refine blk_drewN ?_ _ | refine blk_drew ?_ | refine blk_alloc ?_ _)); exact BK342.out) hb)
                                      have n3_ := Aside0.mk (blk_below (g := gb343) (o := .cells #[.string t332, .string t333, .string t334, .string t335, .string t336, .string t337, .string t338, .bool t339, .bool t340, .int .i64 t341] 27 (0, 0)) (by (with_reducible repeat (first | refine blk_drewN ?_ _ | refine blk_drew ?_ | refine blk_alloc ?_ _)); exact BK343.out) hb)
                                      have n4_ := Aside0.mk (below_step (by repeat (first | (with_reducible first | exact HB.out | apply below_alloc | apply pw_below_drewN | apply below_drew1 | refine below_set ?_ GE316.out | refine below_set ?_ GE342.out | refine below_set ?_ GE343.out) | exact HB.out)) hb)
                                      clear HO_343009
                                      clear BK316
                                      clear BK342
                                      clear BK343
                                      clear HB
                                      have HO_343009 := n0_
                                      have BK316 := n1_
                                      have BK342 := n2_
                                      have BK343 := n3_
                                      have HB := n4_
                                      clear n0_ n1_ n2_ n3_ n4_
                                      (try clear hb)
                                      (try clear hb2)
                                      (try clear hk)
                                      (try clear hi)
                                      refine hK.out _ _ ⟨(blk_cell BK342.out 0).trans rfl, (blk_cell BK342.out 1).trans rfl, (blk_cell BK342.out 2).trans rfl, (blk_cell BK342.out 3).trans rfl, (blk_cell BK342.out 4).trans rfl, (blk_cell BK342.out 5).trans rfl, (blk_cell BK342.out 6).trans rfl, (blk_cell BK342.out 7).trans rfl, (blk_cell BK342.out 8).trans rfl, (blk_cell BK342.out 9).trans rfl⟩ (fun hHeld => ?_)
                                      clear hK K
                                      refine norm_ (a' := ?_) ?_ ?_
                                      rotate_left
                                      · show Act.put _ (some 104) _ = _
                                        simp only [Act.put, List.setIfInBounds_toArray, List.set_cons_zero, List.set_cons_succ, i64_w, i32_w]
                                        rfl
                                      refine pure_ (i := 5) (N := some 99) (v := ?_) (a' := ?_) #[true, true, true, true, true, true, false, false, false, false] rfl rfl (any_of HT_.out (by kernel_rfl)) (fun _ _ _ h => h) (Or.inl ⟨by rfl, ?_⟩) ?_ ?_
                                      rotate_left
                                      · intro w'
                                        go_simp
                                        with_reducible rfl
                                      rotate_left
                                      · simp only [Act.put, List.setIfInBounds_toArray, List.set_cons_zero, List.set_cons_succ, i64_w, i32_w]
                                        rfl
                                      refine pure_ (i := 6) (N := some 105) (v := ?_) (a' := ?_) #[true, true, true, true, true, true, true, false, false, false] rfl rfl (any_of HT_.out (by kernel_rfl)) (fun _ _ _ h => h) (Or.inl ⟨by rfl, ?_⟩) ?_ ?_
                                      rotate_left
                                      · intro w'
                                        go_simp
                                        with_reducible rfl
                                      rotate_left
                                      · simp only [Act.put, List.setIfInBounds_toArray, List.set_cons_zero, List.set_cons_succ, i64_w, i32_w]
                                        rfl
                                      refine pure_ (i := 7) (N := some 106) (v := ?_) (a' := ?_) #[true, true, true, true, true, true, true, true, false, false] rfl rfl (any_of HT_.out (by kernel_rfl)) (fun _ _ _ h => h) (Or.inl ⟨by rfl, ?_⟩) ?_ ?_
                                      rotate_left
                                      · intro w'
                                        go_simp
                                        with_reducible rfl
                                      rotate_left
                                      · simp only [Act.put, List.setIfInBounds_toArray, List.set_cons_zero, List.set_cons_succ, i64_w, i32_w]
                                        rfl
                                      refine pure_ (i := 8) (N := some 12) (v := ?_) (a' := ?_) #[true, true, true, true, true, true, true, true, true, false] rfl rfl (any_of HT_.out (by kernel_rfl)) (fun _ _ _ h => h) (Or.inl ⟨by rfl, ?_⟩) ?_ ?_
                                      rotate_left
                                      · intro w'
                                        go_simp
                                        with_reducible rfl
                                      rotate_left
                                      · simp only [Act.put, List.setIfInBounds_toArray, List.set_cons_zero, List.set_cons_succ, i64_w, i32_w]
                                        rfl
                                      refine pure_ (i := 9) (N := some 13) (v := ?_) (a' := ?_) #[true, true, true, true, true, true, true, true, true, true] rfl rfl (any_of HT_.out (by kernel_rfl)) (fun _ _ _ h => h) (Or.inl ⟨by rfl, ?_⟩) ?_ ?_
                                      rotate_left
                                      · intro w'
                                        go_simp
                                        with_reducible rfl
                                      rotate_left
                                      · simp only [Act.put, List.setIfInBounds_toArray, List.set_cons_zero, List.set_cons_succ, i64_w, i32_w]
                                        rfl
                                      refine done_ (done_of HT_.out (by kernel_rfl)) ?_
                                      have hnb84 := NB342_316.out
                                      have hnc84 := NB316_342.out
                                      have hnb85 := NB342_343.out
                                      have hnc85 := NB343_342.out
                                      have hcz86_0 : w83.cell? ⟨gb342, 0, none⟩ = some (.string t320) := (blk_cell BK342.out 0).trans rfl
                                      have hcz86_1 : w83.cell? ⟨gb342, 1, none⟩ = some (.string t321) := (blk_cell BK342.out 1).trans rfl
                                      have hcz86_2 : w83.cell? ⟨gb342, 2, none⟩ = some (.string t322) := (blk_cell BK342.out 2).trans rfl
                                      have hcz86_3 : w83.cell? ⟨gb342, 3, none⟩ = some (.string t323) := (blk_cell BK342.out 3).trans rfl
                                      have hcz86_4 : w83.cell? ⟨gb342, 4, none⟩ = some (.string t324) := (blk_cell BK342.out 4).trans rfl
                                      have hcz86_5 : w83.cell? ⟨gb342, 5, none⟩ = some (.string t325) := (blk_cell BK342.out 5).trans rfl
                                      have hcz86_6 : w83.cell? ⟨gb342, 6, none⟩ = some (.string t326) := (blk_cell BK342.out 6).trans rfl
                                      have hcz86_7 : w83.cell? ⟨gb342, 7, none⟩ = some (.bool t327) := (blk_cell BK342.out 7).trans rfl
                                      have hcz86_8 : w83.cell? ⟨gb342, 8, none⟩ = some (.bool t328) := (blk_cell BK342.out 8).trans rfl
                                      have hcz86_9 : w83.cell? ⟨gb342, 9, none⟩ = some (.slice Ao33 t329.length co33) := (blk_cell BK342.out 9).trans rfl
                                      have hfz86_0 := blk_frozen BK342.out 0
                                      have hfz86_1 := blk_frozen BK342.out 1
                                      have hfz86_2 := blk_frozen BK342.out 2
                                      have hfz86_3 := blk_frozen BK342.out 3
                                      have hfz86_4 := blk_frozen BK342.out 4
                                      have hfz86_5 := blk_frozen BK342.out 5
                                      have hfz86_6 := blk_frozen BK342.out 6
                                      have hfz86_7 := blk_frozen BK342.out 7
                                      have hfz86_8 := blk_frozen BK342.out 8
                                      have hfz86_9 := blk_frozen BK342.out 9
                                      try go_wp2_with (first | ((with_reducible refine gate_callee (f := 14) rfl ?_); refine goesL_ (some 119) rfl rfl Tryd.func14 (by kernel_rfl) rfl #[.string (x9_25.extract ((ji71) : Int).toNat x9_25.size)] rfl (by (try simp only [List.map_toArray, List.map_cons, List.map_nil]); first | done | (simp only [hji71]; rfl) | rfl | (simp only [List.length_drop, List.length_take]; rfl)) ?_; (with_reducible refine (tabardlaw11_digitsAll.calls kj49 (x9_25.extract ((ji71) : Int).toNat x9_25.size) true _ A74.out).mono ?_); rintro e w' ⟨rfl, ⟨nd, rfl⟩⟩; refine ⟨_, rfl, ?_⟩; (try (rw [drewN_self w83]; generalize hq_ : World.drewN w83 _ = w83; have n0_ : Aside0 (Kd.R (Kd.int .i64) 3 w83 w.heap.size (fun _ => True) (.slice Ao33 t329.length co33) t329) := ⟨by rw [← hq_]; exact (by (with_reducible repeat (first | apply Kd.R_alloc | apply Kd.R_drewN | apply Kd.R_drew)); exact HO_343009.out)⟩; have n1_ : Aside0 (w83.heap[gb316]? = some (.cells #[.bool a1_0, .string a1_1, .int .i64 a1_2] 36 (0, 0))) := ⟨by rw [← hq_]; exact (by (with_reducible repeat (first | refine blk_drewN ?_ _ | refine blk_drew ?_ | refine blk_alloc ?_ _)); exact BK316.out)⟩; have n2_ : Aside0 (w83.heap[gb342]? = some (.cells #[.string t320, .string t321, .string t322, .string t323, .string t324, .string t325, .string t326, .bool t327, .bool t328, .slice Ao33 t329.length co33] 25 (0, 0))) := ⟨by rw [← hq_]; exact (by (with_reducible repeat (first | refine blk_drewN ?_ _ | refine blk_drew ?_ | refine blk_alloc ?_ _)); exact BK342.out)⟩; have n3_ : Aside0 (w83.heap[gb343]? = some (.cells #[.string t332, .string t333, .string t334, .string t335, .string t336, .string t337, .string t338, .bool t339, .bool t340, .int .i64 t341] 27 (0, 0))) := ⟨by rw [← hq_]; exact (by (with_reducible repeat (first | refine blk_drewN ?_ _ | refine blk_drew ?_ | refine blk_alloc ?_ _)); exact BK343.out)⟩; have n4_ : Aside0 (Below w.heap.size w w83) := ⟨by rw [← hq_]; exact (by repeat (first | (with_reducible first | exact HB.out | apply below_alloc | apply pw_below_drewN | apply below_drew1 | refine below_set ?_ GE316.out | refine below_set ?_ GE342.out | refine below_set ?_ GE343.out) | exact HB.out))⟩; clear HO_343009 BK316 BK342 BK343 HB hq_; have HO_343009 := n0_; have BK316 := n1_; have BK342 := n2_; have BK343 := n3_; have HB := n4_; clear n0_ n1_ n2_ n3_ n4_)); have hnb87 := NB316_343.out; have hnc87 := NB343_316.out; have hcz88_0 : w83.cell? ⟨gb316, 0, none⟩ = some (.bool a1_0) := (blk_cell BK316.out 0).trans rfl; have hcz88_1 : w83.cell? ⟨gb316, 1, none⟩ = some (.string a1_1) := (blk_cell BK316.out 1).trans rfl; have hcz88_2 : w83.cell? ⟨gb316, 2, none⟩ = some (.int .i64 a1_2) := (blk_cell BK316.out 2).trans rfl; have hfz88_0 := blk_frozen BK316.out 0; have hfz88_1 := blk_frozen BK316.out 1; have hfz88_2 := blk_frozen BK316.out 2) | ((with_reducible refine gate_callee (f := 23) rfl ?_); refine goesL_ (some 129) rfl rfl Tryd.func23 (by kernel_rfl) rfl #[.bool a1_0, .string (t345 ++ (x9_25.extract ((ji71) : Int).toNat x9_25.size)), .int .i64 (wrap64 (-((x9_25.extract ((ji71) : Int).toNat x9_25.size).size : Int)))] rfl (by (try simp only [List.map_toArray, List.map_cons, List.map_nil]); first | done | (simp only [hji71]; rfl) | rfl | (simp only [List.length_drop, List.length_take]; rfl) | (rw [show (wrap64 (-((x9_25.extract ((ji71) : Int).toNat x9_25.size).size : Int))) = (-((x9_25.extract ((ji71) : Int).toNat x9_25.size).size : Int)) from (by have h75_ := c75; unfold wrap64; omega)]; try rfl)) ?_; (with_reducible refine (tabardref7_Make.calls kj49 a1_0 (t345 ++ (x9_25.extract ((ji71) : Int).toNat x9_25.size)) (wrap64 (-((x9_25.extract ((ji71) : Int).toNat x9_25.size).size : Int))) t348 t349 t350 t351 _ A76.out).mono ?_); rintro e w89 ⟨rfl, hb⟩; refine ⟨_, rfl, ?_⟩; have n0_ := Aside0.mk (Kd.R_below (by (with_reducible repeat (first | apply Kd.R_alloc | apply Kd.R_drewN | apply Kd.R_drew)); exact HO_343009.out) hb); have n1_ := Aside0.mk (blk_below (g := gb316) (o := .cells #[.bool a1_0, .string a1_1, .int .i64 a1_2] 36 (0, 0)) (by (with_reducible repeat (first | refine blk_drewN ?_ _ | refine blk_drew ?_ | refine blk_alloc ?_ _)); exact BK316.out) hb); have n2_ := Aside0.mk (blk_below (g := gb342) (o := .cells #[.string t320, .string t321, .string t322, .string t323, .string t324, .string t325, .string t326, .bool t327, .bool t328, .slice Ao33 t329.length co33] 25 (0, 0)) (by (with_reducible repeat (first | refine blk_drewN ?_ _ | refine blk_drew ?_ | refine blk_alloc ?_ _)); exact BK342.out) hb); have n3_ := Aside0.mk (blk_below (g := gb343) (o := .cells #[.string t332, .string t333, .string t334, .string t335, .string t336, .string t337, .string t338, .bool t339, .bool t340, .int .i64 t341] 27 (0, 0)) (by (with_reducible repeat (first | refine blk_drewN ?_ _ | refine blk_drew ?_ | refine blk_alloc ?_ _)); exact BK343.out) hb); have n4_ := Aside0.mk (below_step (by repeat (first | (with_reducible first | exact HB.out | apply below_alloc | apply pw_below_drewN | apply below_drew1 | refine below_set ?_ GE316.out | refine below_set ?_ GE342.out | refine below_set ?_ GE343.out) | exact HB.out)) hb); clear HO_343009; clear BK316; clear BK342; clear BK343; clear HB; have HO_343009 := n0_; have BK316 := n1_; have BK342 := n2_; have BK343 := n3_; have HB := n4_; clear n0_ n1_ n2_ n3_ n4_; (try clear hb); (try clear hb2); (try clear hk); (try clear hi)) | ((with_reducible refine gate_dst (N := 16) rfl ?_); (try (refine gate_guard (by rfl) ?_; dsimp only)); refine box_event ?hg (N := 16) ?hd (cs := #[.bool false, .string (⟨#[]⟩ : ByteArray), .int .i64 0]) (t := 36) ?hr ?_; (case hd => rfl); (case hg => rfl); (case hr => first | (go_simp; done) | (go_simp; rfl)); intro gb352 hg w90 hbox hb; have n0_ := Aside0.mk (Kd.R_below (by (with_reducible repeat (first | apply Kd.R_alloc | apply Kd.R_drewN | apply Kd.R_drew)); exact HO_343009.out) hb); have n1_ := Aside0.mk (blk_below (g := gb316) (o := .cells #[.bool a1_0, .string a1_1, .int .i64 a1_2] 36 (0, 0)) (by (with_reducible repeat (first | refine blk_drewN ?_ _ | refine blk_drew ?_ | refine blk_alloc ?_ _)); exact BK316.out) hb); have n2_ := Aside0.mk (blk_below (g := gb342) (o := .cells #[.string t320, .string t321, .string t322, .string t323, .string t324, .string t325, .string t326, .bool t327, .bool t328, .slice Ao33 t329.length co33] 25 (0, 0)) (by (with_reducible repeat (first | refine blk_drewN ?_ _ | refine blk_drew ?_ | refine blk_alloc ?_ _)); exact BK342.out) hb); have n3_ := Aside0.mk (blk_below (g := gb343) (o := .cells #[.string t332, .string t333, .string t334, .string t335, .string t336, .string t337, .string t338, .bool t339, .bool t340, .int .i64 t341] 27 (0, 0)) (by (with_reducible repeat (first | refine blk_drewN ?_ _ | refine blk_drew ?_ | refine blk_alloc ?_ _)); exact BK343.out) hb); have n4_ := Aside0.mk (below_step (by repeat (first | (with_reducible first | exact HB.out | apply below_alloc | apply pw_below_drewN | apply below_drew1 | refine below_set ?_ GE316.out | refine below_set ?_ GE342.out | refine below_set ?_ GE343.out) | exact HB.out)) hb); have n5_ := Aside0.mk (hbox); have n6_ := Aside0.mk ((by rw [hg]; exact (below_size (by repeat (first | (with_reducible first | exact HB.out | apply below_alloc | apply pw_below_drewN | apply below_drew1 | refine below_set ?_ GE316.out | refine below_set ?_ GE342.out | refine below_set ?_ GE343.out) | exact HB.out))) : w.heap.size ≤ gb352)); have n7_ := Aside0.mk ((by rw [hg]; exact (below_size (by repeat (first | (with_reducible first | exact HB.out | apply below_alloc | apply pw_below_drewN | apply below_drew1 | refine below_set ?_ GE316.out | refine below_set ?_ GE342.out | refine below_set ?_ GE343.out) | exact HB.out))) : w.heap.size ≤ gb352)); have n8_ := Aside0.mk ((by rw [hg]; exact Nat.ne_of_lt (blk_lt (g := gb316) (o := .cells #[.bool a1_0, .string a1_1, .int .i64 a1_2] 36 (0, 0)) (by (with_reducible repeat (first | refine blk_drewN ?_ _ | refine blk_drew ?_ | refine blk_alloc ?_ _)); exact BK316.out)) : gb316 ≠ gb352)); have n9_ := Aside0.mk ((by rw [hg]; exact Nat.ne_of_gt (blk_lt (g := gb316) (o := .cells #[.bool a1_0, .string a1_1, .int .i64 a1_2] 36 (0, 0)) (by (with_reducible repeat (first | refine blk_drewN ?_ _ | refine blk_drew ?_ | refine blk_alloc ?_ _)); exact BK316.out)) : gb352 ≠ gb316)); have n10_ := Aside0.mk ((by rw [hg]; exact Nat.ne_of_lt (blk_lt (g := gb342) (o := .cells #[.string t320, .string t321, .string t322, .string t323, .string t324, .string t325, .string t326, .bool t327, .bool t328, .slice Ao33 t329.length co33] 25 (0, 0)) (by (with_reducible repeat (first | refine blk_drewN ?_ _ | refine blk_drew ?_ | refine blk_alloc ?_ _)); exact BK342.out)) : gb342 ≠ gb352)); have n11_ := Aside0.mk ((by rw [hg]; exact Nat.ne_of_gt (blk_lt (g := gb342) (o := .cells #[.string t320, .string t321, .string t322, .string t323, .string t324, .string t325, .string t326, .bool t327, .bool t328, .slice Ao33 t329.length co33] 25 (0, 0)) (by (with_reducible repeat (first | refine blk_drewN ?_ _ | refine blk_drew ?_ | refine blk_alloc ?_ _)); exact BK342.out)) : gb352 ≠ gb342)); have n12_ := Aside0.mk ((by rw [hg]; exact Nat.ne_of_lt (blk_lt (g := gb343) (o := .cells #[.string t332, .string t333, .string t334, .string t335, .string t336, .string t337, .string t338, .bool t339, .bool t340, .int .i64 t341] 27 (0, 0)) (by (with_reducible repeat (first | refine blk_drewN ?_ _ | refine blk_drew ?_ | refine blk_alloc ?_ _)); exact BK343.out)) : gb343 ≠ gb352)); have n13_ := Aside0.mk ((by rw [hg]; exact Nat.ne_of_gt (blk_lt (g := gb343) (o := .cells #[.string t332, .string t333, .string t334, .string t335, .string t336, .string t337, .string t338, .bool t339, .bool t340, .int .i64 t341] 27 (0, 0)) (by (with_reducible repeat (first | refine blk_drewN ?_ _ | refine blk_drew ?_ | refine blk_alloc ?_ _)); exact BK343.out)) : gb352 ≠ gb343)); clear HO_343009; clear BK316; clear BK342; clear BK343; clear HB; have HO_343009 := n0_; have BK316 := n1_; have BK342 := n2_; have BK343 := n3_; have HB := n4_; have BK352 := n5_; have GW352 := n6_; have GE352 := n7_; have NB316_352 := n8_; have NB352_316 := n9_; have NB342_352 := n10_; have NB352_342 := n11_; have NB343_352 := n12_; have NB352_343 := n13_; clear n0_ n1_ n2_ n3_ n4_ n5_ n6_ n7_ n8_ n9_ n10_ n11_ n12_ n13_; clear hb hbox hg; have hnb91 := NB352_316.out; have hnc91 := NB316_352.out; have hnb92 := NB352_342.out; have hnc92 := NB342_352.out; have hnb93 := NB352_343.out; have hnc93 := NB343_352.out; have hcz94_0 : w90.cell? ⟨gb352, 0, none⟩ = some (.bool false) := (blk_cell BK352.out 0).trans rfl; have hcz94_1 : w90.cell? ⟨gb352, 1, none⟩ = some (.string (⟨#[]⟩ : ByteArray)) := (blk_cell BK352.out 1).trans rfl; have hcz94_2 : w90.cell? ⟨gb352, 2, none⟩ = some (.int .i64 0) := (blk_cell BK352.out 2).trans rfl; have hfz94_0 := blk_frozen BK352.out 0; have hfz94_1 := blk_frozen BK352.out 1; have hfz94_2 := blk_frozen BK352.out 2; have hcz95_0 : w90.cell? ⟨gb316, 0, none⟩ = some (.bool a1_0) := (blk_cell BK316.out 0).trans rfl; have hcz95_1 : w90.cell? ⟨gb316, 1, none⟩ = some (.string a1_1) := (blk_cell BK316.out 1).trans rfl; have hcz95_2 : w90.cell? ⟨gb316, 2, none⟩ = some (.int .i64 a1_2) := (blk_cell BK316.out 2).trans rfl; have hfz95_0 := blk_frozen BK316.out 0; have hfz95_1 := blk_frozen BK316.out 1; have hfz95_2 := blk_frozen BK316.out 2))
                                      go_ret
                                      exact ⟨by first | rfl | (simp [errW_none, errW_some] <;> rfl) | (simp only [← hji71]; first | rfl | (simp [errW_none, errW_some] <;> rfl)) | (simp [*, errW_none, errW_some] <;> rfl), by repeat (first | (with_reducible first | exact HB.out | apply below_alloc | apply pw_below_drewN | apply below_drew1 | refine below_set ?_ GE316.out | refine below_set ?_ GE342.out | refine below_set ?_ GE343.out | refine below_set ?_ GE352.out) | exact HB.out)⟩
                                    · rw [if_neg c81] at H
                                      have c81b0 : (x10_49 == (x9_25.size : Int)) = false := beq_eq_false_iff_ne.mpr c81
                                      have c81b1 : (x10_49 != (x9_25.size : Int)) = true := bne_iff_ne.mpr c81
                                      by_cases c96 : (x9_25.extract ((ji71) : Int).toNat x9_25.size).toList = ([] : List UInt8)
                                      · rw [if_pos c96] at H
                                        exact absurd H (by simp)
                                      · rw [if_neg c96] at H
                                        have c96b0 : ((x9_25.extract ((ji71) : Int).toNat x9_25.size).toList == ([] : List UInt8)) = false := beq_eq_false_iff_ne.mpr c96
                                        have c96b1 : ((x9_25.extract ((ji71) : Int).toNat x9_25.size).toList != ([] : List UInt8)) = true := bne_iff_ne.mpr c96
                                        obtain ⟨ji97, hji97⟩ : ∃ j_ : Int, (wrap64 (((x9_25.extract ((ji71) : Int).toNat x9_25.size).size : Int) - 1)) = j_ := ⟨_, rfl⟩
                                        replace H : (if 0 ≤ (ji97) then (if (ji97) < ((x9_25.extract ((ji71) : Int).toNat x9_25.size).size : Int) then (some ((bt (x9_25.extract ((ji71) : Int).toNat x9_25.size) (ji97)) != 48)) else (none)) else (none)) = some r := by first | (rw [hji97] at H; exact H) | (simp only [hji97] at H ⊢; exact H)
                                        (try rw [hji97] at A69)
                                        (try rw [hji97] at A74)
                                        (try rw [hji97] at A76)
                                        have hji97w : (IntKind.i64.wrap (((x9_25.extract ((ji71) : Int).toNat x9_25.size).size : Int) - 1)) = ji97 := (i64_w _).trans hji97
                                        by_cases c98 : 0 ≤ (ji97)
                                        · rw [if_pos c98] at H
                                          have c98b0 : decide (0 ≤ (ji97)) = true := decide_eq_true c98
                                          clear c98
                                          by_cases c99 : (ji97) < ((x9_25.extract ((ji71) : Int).toNat x9_25.size).size : Int)
                                          · rw [if_pos c99] at H
                                            have c99b0 : decide ((ji97) < ((x9_25.extract ((ji71) : Int).toNat x9_25.size).size : Int)) = true := decide_eq_true c99
                                            clear c99
                                            obtain rfl := Option.some.inj H
                                            try go_wp2
                                            have n0_ := Aside0.mk (Kd.R_drew HO_343009.out)
                                            have n1_ := Aside0.mk (blk_drew BK316.out)
                                            have n2_ := Aside0.mk (blk_drew BK342.out)
                                            have n3_ := Aside0.mk (blk_drew BK343.out)
                                            have n4_ := Aside0.mk (below_drew1 HB.out)
                                            clear HO_343009
                                            clear BK316
                                            clear BK342
                                            clear BK343
                                            clear HB
                                            have HO_343009 := n0_
                                            have BK316 := n1_
                                            have BK342 := n2_
                                            have BK343 := n3_
                                            have HB := n4_
                                            clear n0_ n1_ n2_ n3_ n4_
                                            refine start_ (n := 10) (S := fun w' => w'.cell? ⟨gb342, 0, none⟩ = some (.string t320) ∧ w'.cell? ⟨gb342, 1, none⟩ = some (.string t321) ∧ w'.cell? ⟨gb342, 2, none⟩ = some (.string t322) ∧ w'.cell? ⟨gb342, 3, none⟩ = some (.string t323) ∧ w'.cell? ⟨gb342, 4, none⟩ = some (.string t324) ∧ w'.cell? ⟨gb342, 5, none⟩ = some (.string t325) ∧ w'.cell? ⟨gb342, 6, none⟩ = some (.string t326) ∧ w'.cell? ⟨gb342, 7, none⟩ = some (.bool t327) ∧ w'.cell? ⟨gb342, 8, none⟩ = some (.bool t328) ∧ w'.cell? ⟨gb342, 9, none⟩ = some (.slice Ao33 t329.length co33)) (ds := []) #[false, false, false, false, false, false, false, false, false, false] (by kernel_rfl) rfl rfl ⟨(blk_cell BK342.out 0).trans rfl, (blk_cell BK342.out 1).trans rfl, (blk_cell BK342.out 2).trans rfl, (blk_cell BK342.out 3).trans rfl, (blk_cell BK342.out 4).trans rfl, (blk_cell BK342.out 5).trans rfl, (blk_cell BK342.out 6).trans rfl, (blk_cell BK342.out 7).trans rfl, (blk_cell BK342.out 8).trans rfl, (blk_cell BK342.out 9).trans rfl⟩ (fun hHeld => ?_); refine with_tabW tabardlaw11_LocaleBack.tab17 tabardlaw11_LocaleBack.bits17 (fun HT_ HW_ => ?_)
                                            generalize wc.drew = w101 at HO_343009 BK316 BK342 BK343 HB hHeld ⊢
                                            refine pure_ (i := 1) (N := some 101) (v := ?_) (a' := ?_) #[false, true, false, false, false, false, false, false, false, false] rfl rfl (any_of HT_.out (by kernel_rfl)) (fun _ _ _ h => h) (Or.inl ⟨by rfl, ?_⟩) ?_ ?_
                                            rotate_left
                                            · intro w'
                                              go_simp
                                              with_reducible rfl
                                            rotate_left
                                            · simp only [Act.put, List.setIfInBounds_toArray, List.set_cons_zero, List.set_cons_succ, i64_w, i32_w]
                                              rfl
                                            refine pure_ (i := 2) (N := some 102) (v := ?_) (a' := ?_) #[false, true, true, false, false, false, false, false, false, false] rfl rfl (any_of HT_.out (by kernel_rfl)) (fun _ _ _ h => h) (Or.inl ⟨by rfl, ?_⟩) ?_ ?_
                                            rotate_left
                                            · intro w'
                                              go_simp
                                              with_reducible rfl
                                            rotate_left
                                            · simp only [Act.put, List.setIfInBounds_toArray, List.set_cons_zero, List.set_cons_succ, i64_w, i32_w]
                                              rfl
                                            refine pure_ (i := 3) (N := some 103) (v := ?_) (a' := ?_) #[false, true, true, true, false, false, false, false, false, false] rfl rfl (any_of HT_.out (by kernel_rfl)) (fun _ _ _ h => h) (Or.inl ⟨by rfl, ?_⟩) ?_ ?_
                                            rotate_left
                                            · intro w'
                                              go_simp
                                              with_reducible rfl
                                            rotate_left
                                            · simp only [Act.put, List.setIfInBounds_toArray, List.set_cons_zero, List.set_cons_succ, i64_w, i32_w]
                                              rfl
                                            refine take_ (i := 0) (N := some 100) (v := ?_) (a' := ?_) #[true, true, true, true, false, false, false, false, false, false] rfl rfl (take_ofW HT_.out HW_.out (by kernel_rfl)) (fun _ _ _ h => h) (Or.inl ⟨by rfl, ?_⟩) hHeld ?_ ?_
                                            rotate_left
                                            · rintro w' ⟨s0, s1, s2, s3, s4, s5, s6, s7, s8, s9⟩
                                              go_simp
                                              with_reducible rfl
                                            rotate_left
                                            · simp only [Act.put, List.setIfInBounds_toArray, List.set_cons_zero, List.set_cons_succ, i64_w, i32_w]
                                              rfl
                                            refine one_ (i := 4) (N := some 104) #[true, true, true, true, true, false, false, false, false, false] rfl rfl (one_of HT_.out (by kernel_rfl)) (by decide) (fun K hK => ?_)
                                            refine goes_ Tryd.func12 (by kernel_rfl) rfl #[.agg #[.string t320, .string t321, .string t322, .string t323, .string t324, .string t325, .string t326, .bool t327, .bool t328, .slice Ao33 t329.length co33], .string (x9_25.extract 0 (x10_49 : Int).toNat)] (by rfl) rfl rfl (by (try simp only [List.map_toArray, List.map_cons, List.map_nil]); first | done | rfl | (simp only [List.length_drop, List.length_take]; rfl)) ?_
                                            with_reducible refine (locale_Locale_Plain.calls kj49 t320 t321 t322 t323 t324 t325 t326 t327 t328 _ _ t329 (x9_25.extract 0 (x10_49 : Int).toNat) t345 true _ ?side3 ?side1 ?side2 A69.out).mono ?_
                                            (case side1 => repeat (first | exact (Kd.R_reads' HO_343009.out).2.2 | (with_reducible refine Kd.C_alloc ?_ _) | (with_reducible refine Kd.C_drewN ?_ _) | (with_reducible refine Kd.C_drew ?_)))
                                            (case side2 => exact (Kd.R_reads' HO_343009.out).2.1)
                                            (case side3 => exact GL.below HGL.out (by repeat (first | (with_reducible first | exact HB.out | apply below_alloc | apply pw_below_drewN | apply below_drew1 | refine below_set ?_ GE316.out | refine below_set ?_ GE342.out | refine below_set ?_ GE343.out) | exact HB.out)))
                                            rintro e w102 ⟨rfl, hb⟩
                                            refine ⟨_, rfl, ?_⟩
                                            have n0_ := Aside0.mk (Kd.R_below (by (with_reducible repeat (first | apply Kd.R_alloc | apply Kd.R_drewN | apply Kd.R_drew)); exact HO_343009.out) hb)
                                            have n1_ := Aside0.mk (blk_below (g := gb316) (o := .cells #[.bool a1_0, .string a1_1, .int .i64 a1_2] 36 (0, 0)) (by (with_reducible repeat (first | refine blk_drewN ?_ _ | refine blk_drew ?_ | refine blk_alloc ?_ _)); exact BK316.out) hb)
                                            have n2_ := Aside0.mk (blk_below (g := gb342) (o := .cells #[.string t320, .string t321, .string t322, .string t323, .string t324, .string t325, .string t326, .bool t327, .bool t328, .slice Ao33 t329.length co33] 25 (0, 0)) (by (with_reducible repeat (first | refine blk_drewN ?_ _ | refine blk_drew ?_ | refine blk_alloc ?_ _)); exact BK342.out) hb)
                                            have n3_ := Aside0.mk (blk_below (g := gb343) (o := .cells #[.string t332, .string t333, .string t334, .string t335, .string t336, .string t337, .string t338, .bool t339, .bool t340, .int .i64 t341] 27 (0, 0)) (by (with_reducible repeat (first | refine blk_drewN ?_ _ | refine blk_drew ?_ | refine blk_alloc ?_ _)); exact BK343.out) hb)
                                            have n4_ := Aside0.mk (below_step (by repeat (first | (with_reducible first | exact HB.out | apply below_alloc | apply pw_below_drewN | apply below_drew1 | refine below_set ?_ GE316.out | refine below_set ?_ GE342.out | refine below_set ?_ GE343.out) | exact HB.out)) hb)
                                            clear HO_343009
                                            clear BK316
                                            clear BK342
                                            clear BK343
                                            clear HB
                                            have HO_343009 := n0_
                                            have BK316 := n1_
                                            have BK342 := n2_
                                            have BK343 := n3_
                                            have HB := n4_
                                            clear n0_ n1_ n2_ n3_ n4_
                                            (try clear hb)
                                            (try clear hb2)
                                            (try clear hk)
                                            (try clear hi)
                                            refine hK.out _ _ ⟨(blk_cell BK342.out 0).trans rfl, (blk_cell BK342.out 1).trans rfl, (blk_cell BK342.out 2).trans rfl, (blk_cell BK342.out 3).trans rfl, (blk_cell BK342.out 4).trans rfl, (blk_cell BK342.out 5).trans rfl, (blk_cell BK342.out 6).trans rfl, (blk_cell BK342.out 7).trans rfl, (blk_cell BK342.out 8).trans rfl, (blk_cell BK342.out 9).trans rfl⟩ (fun hHeld => ?_)
                                            clear hK K
                                            refine norm_ (a' := ?_) ?_ ?_
                                            rotate_left
                                            · show Act.put _ (some 104) _ = _
                                              simp only [Act.put, List.setIfInBounds_toArray, List.set_cons_zero, List.set_cons_succ, i64_w, i32_w]
                                              rfl
                                            refine pure_ (i := 5) (N := some 99) (v := ?_) (a' := ?_) #[true, true, true, true, true, true, false, false, false, false] rfl rfl (any_of HT_.out (by kernel_rfl)) (fun _ _ _ h => h) (Or.inl ⟨by rfl, ?_⟩) ?_ ?_
                                            rotate_left
                                            · intro w'
                                              go_simp
                                              with_reducible rfl
                                            rotate_left
                                            · simp only [Act.put, List.setIfInBounds_toArray, List.set_cons_zero, List.set_cons_succ, i64_w, i32_w]
                                              rfl
                                            refine pure_ (i := 6) (N := some 105) (v := ?_) (a' := ?_) #[true, true, true, true, true, true, true, false, false, false] rfl rfl (any_of HT_.out (by kernel_rfl)) (fun _ _ _ h => h) (Or.inl ⟨by rfl, ?_⟩) ?_ ?_
                                            rotate_left
                                            · intro w'
                                              go_simp
                                              with_reducible rfl
                                            rotate_left
                                            · simp only [Act.put, List.setIfInBounds_toArray, List.set_cons_zero, List.set_cons_succ, i64_w, i32_w]
                                              rfl
                                            refine pure_ (i := 7) (N := some 106) (v := ?_) (a' := ?_) #[true, true, true, true, true, true, true, true, false, false] rfl rfl (any_of HT_.out (by kernel_rfl)) (fun _ _ _ h => h) (Or.inl ⟨by rfl, ?_⟩) ?_ ?_
                                            rotate_left
                                            · intro w'
                                              go_simp
                                              with_reducible rfl
                                            rotate_left
                                            · simp only [Act.put, List.setIfInBounds_toArray, List.set_cons_zero, List.set_cons_succ, i64_w, i32_w]
                                              rfl
                                            refine pure_ (i := 8) (N := some 12) (v := ?_) (a' := ?_) #[true, true, true, true, true, true, true, true, true, false] rfl rfl (any_of HT_.out (by kernel_rfl)) (fun _ _ _ h => h) (Or.inl ⟨by rfl, ?_⟩) ?_ ?_
                                            rotate_left
                                            · intro w'
                                              go_simp
                                              with_reducible rfl
                                            rotate_left
                                            · simp only [Act.put, List.setIfInBounds_toArray, List.set_cons_zero, List.set_cons_succ, i64_w, i32_w]
                                              rfl
                                            refine pure_ (i := 9) (N := some 13) (v := ?_) (a' := ?_) #[true, true, true, true, true, true, true, true, true, true] rfl rfl (any_of HT_.out (by kernel_rfl)) (fun _ _ _ h => h) (Or.inl ⟨by rfl, ?_⟩) ?_ ?_
                                            rotate_left
                                            · intro w'
                                              go_simp
                                              with_reducible rfl
                                            rotate_left
                                            · simp only [Act.put, List.setIfInBounds_toArray, List.set_cons_zero, List.set_cons_succ, i64_w, i32_w]
                                              rfl
                                            refine done_ (done_of HT_.out (by kernel_rfl)) ?_
                                            have hnb103 := NB342_316.out
                                            have hnc103 := NB316_342.out
                                            have hnb104 := NB342_343.out
                                            have hnc104 := NB343_342.out
                                            have hcz105_0 : w102.cell? ⟨gb342, 0, none⟩ = some (.string t320) := (blk_cell BK342.out 0).trans rfl
                                            have hcz105_1 : w102.cell? ⟨gb342, 1, none⟩ = some (.string t321) := (blk_cell BK342.out 1).trans rfl
                                            have hcz105_2 : w102.cell? ⟨gb342, 2, none⟩ = some (.string t322) := (blk_cell BK342.out 2).trans rfl
                                            have hcz105_3 : w102.cell? ⟨gb342, 3, none⟩ = some (.string t323) := (blk_cell BK342.out 3).trans rfl
                                            have hcz105_4 : w102.cell? ⟨gb342, 4, none⟩ = some (.string t324) := (blk_cell BK342.out 4).trans rfl
                                            have hcz105_5 : w102.cell? ⟨gb342, 5, none⟩ = some (.string t325) := (blk_cell BK342.out 5).trans rfl
                                            have hcz105_6 : w102.cell? ⟨gb342, 6, none⟩ = some (.string t326) := (blk_cell BK342.out 6).trans rfl
                                            have hcz105_7 : w102.cell? ⟨gb342, 7, none⟩ = some (.bool t327) := (blk_cell BK342.out 7).trans rfl
                                            have hcz105_8 : w102.cell? ⟨gb342, 8, none⟩ = some (.bool t328) := (blk_cell BK342.out 8).trans rfl
                                            have hcz105_9 : w102.cell? ⟨gb342, 9, none⟩ = some (.slice Ao33 t329.length co33) := (blk_cell BK342.out 9).trans rfl
                                            have hfz105_0 := blk_frozen BK342.out 0
                                            have hfz105_1 := blk_frozen BK342.out 1
                                            have hfz105_2 := blk_frozen BK342.out 2
                                            have hfz105_3 := blk_frozen BK342.out 3
                                            have hfz105_4 := blk_frozen BK342.out 4
                                            have hfz105_5 := blk_frozen BK342.out 5
                                            have hfz105_6 := blk_frozen BK342.out 6
                                            have hfz105_7 := blk_frozen BK342.out 7
                                            have hfz105_8 := blk_frozen BK342.out 8
                                            have hfz105_9 := blk_frozen BK342.out 9
                                            try go_wp2_with (first | ((with_reducible refine gate_callee (f := 14) rfl ?_); refine goesL_ (some 119) rfl rfl Tryd.func14 (by kernel_rfl) rfl #[.string (x9_25.extract ((ji71) : Int).toNat x9_25.size)] rfl (by (try simp only [List.map_toArray, List.map_cons, List.map_nil]); first | done | (simp only [hji71]; rfl) | rfl | (simp only [List.length_drop, List.length_take]; rfl)) ?_; (with_reducible refine (tabardlaw11_digitsAll.calls kj49 (x9_25.extract ((ji71) : Int).toNat x9_25.size) true _ A74.out).mono ?_); rintro e w' ⟨rfl, ⟨nd, rfl⟩⟩; refine ⟨_, rfl, ?_⟩; (try (rw [drewN_self w102]; generalize hq_ : World.drewN w102 _ = w102; have n0_ : Aside0 (Kd.R (Kd.int .i64) 3 w102 w.heap.size (fun _ => True) (.slice Ao33 t329.length co33) t329) := ⟨by rw [← hq_]; exact (by (with_reducible repeat (first | apply Kd.R_alloc | apply Kd.R_drewN | apply Kd.R_drew)); exact HO_343009.out)⟩; have n1_ : Aside0 (w102.heap[gb316]? = some (.cells #[.bool a1_0, .string a1_1, .int .i64 a1_2] 36 (0, 0))) := ⟨by rw [← hq_]; exact (by (with_reducible repeat (first | refine blk_drewN ?_ _ | refine blk_drew ?_ | refine blk_alloc ?_ _)); exact BK316.out)⟩; have n2_ : Aside0 (w102.heap[gb342]? = some (.cells #[.string t320, .string t321, .string t322, .string t323, .string t324, .string t325, .string t326, .bool t327, .bool t328, .slice Ao33 t329.length co33] 25 (0, 0))) := ⟨by rw [← hq_]; exact (by (with_reducible repeat (first | refine blk_drewN ?_ _ | refine blk_drew ?_ | refine blk_alloc ?_ _)); exact BK342.out)⟩; have n3_ : Aside0 (w102.heap[gb343]? = some (.cells #[.string t332, .string t333, .string t334, .string t335, .string t336, .string t337, .string t338, .bool t339, .bool t340, .int .i64 t341] 27 (0, 0))) := ⟨by rw [← hq_]; exact (by (with_reducible repeat (first | refine blk_drewN ?_ _ | refine blk_drew ?_ | refine blk_alloc ?_ _)); exact BK343.out)⟩; have n4_ : Aside0 (Below w.heap.size w w102) := ⟨by rw [← hq_]; exact (by repeat (first | (with_reducible first | exact HB.out | apply below_alloc | apply pw_below_drewN | apply below_drew1 | refine below_set ?_ GE316.out | refine below_set ?_ GE342.out | refine below_set ?_ GE343.out) | exact HB.out))⟩; clear HO_343009 BK316 BK342 BK343 HB hq_; have HO_343009 := n0_; have BK316 := n1_; have BK342 := n2_; have BK343 := n3_; have HB := n4_; clear n0_ n1_ n2_ n3_ n4_)); have hnb106 := NB316_343.out; have hnc106 := NB343_316.out; have hcz107_0 : w102.cell? ⟨gb316, 0, none⟩ = some (.bool a1_0) := (blk_cell BK316.out 0).trans rfl; have hcz107_1 : w102.cell? ⟨gb316, 1, none⟩ = some (.string a1_1) := (blk_cell BK316.out 1).trans rfl; have hcz107_2 : w102.cell? ⟨gb316, 2, none⟩ = some (.int .i64 a1_2) := (blk_cell BK316.out 2).trans rfl; have hfz107_0 := blk_frozen BK316.out 0; have hfz107_1 := blk_frozen BK316.out 1; have hfz107_2 := blk_frozen BK316.out 2) | ((with_reducible refine gate_callee (f := 23) rfl ?_); refine goesL_ (some 129) rfl rfl Tryd.func23 (by kernel_rfl) rfl #[.bool a1_0, .string (t345 ++ (x9_25.extract ((ji71) : Int).toNat x9_25.size)), .int .i64 (wrap64 (-((x9_25.extract ((ji71) : Int).toNat x9_25.size).size : Int)))] rfl (by (try simp only [List.map_toArray, List.map_cons, List.map_nil]); first | done | (simp only [hji71]; rfl) | rfl | (simp only [List.length_drop, List.length_take]; rfl) | (rw [show (wrap64 (-((x9_25.extract ((ji71) : Int).toNat x9_25.size).size : Int))) = (-((x9_25.extract ((ji71) : Int).toNat x9_25.size).size : Int)) from (by have h75_ := c75; unfold wrap64; omega)]; try rfl)) ?_; (with_reducible refine (tabardref7_Make.calls kj49 a1_0 (t345 ++ (x9_25.extract ((ji71) : Int).toNat x9_25.size)) (wrap64 (-((x9_25.extract ((ji71) : Int).toNat x9_25.size).size : Int))) t348 t349 t350 t351 _ A76.out).mono ?_); rintro e w108 ⟨rfl, hb⟩; refine ⟨_, rfl, ?_⟩; have n0_ := Aside0.mk (Kd.R_below (by (with_reducible repeat (first | apply Kd.R_alloc | apply Kd.R_drewN | apply Kd.R_drew)); exact HO_343009.out) hb); have n1_ := Aside0.mk (blk_below (g := gb316) (o := .cells #[.bool a1_0, .string a1_1, .int .i64 a1_2] 36 (0, 0)) (by (with_reducible repeat (first | refine blk_drewN ?_ _ | refine blk_drew ?_ | refine blk_alloc ?_ _)); exact BK316.out) hb); have n2_ := Aside0.mk (blk_below (g := gb342) (o := .cells #[.string t320, .string t321, .string t322, .string t323, .string t324, .string t325, .string t326, .bool t327, .bool t328, .slice Ao33 t329.length co33] 25 (0, 0)) (by (with_reducible repeat (first | refine blk_drewN ?_ _ | refine blk_drew ?_ | refine blk_alloc ?_ _)); exact BK342.out) hb); have n3_ := Aside0.mk (blk_below (g := gb343) (o := .cells #[.string t332, .string t333, .string t334, .string t335, .string t336, .string t337, .string t338, .bool t339, .bool t340, .int .i64 t341] 27 (0, 0)) (by (with_reducible repeat (first | refine blk_drewN ?_ _ | refine blk_drew ?_ | refine blk_alloc ?_ _)); exact BK343.out) hb); have n4_ := Aside0.mk (below_step (by repeat (first | (with_reducible first | exact HB.out | apply below_alloc | apply pw_below_drewN | apply below_drew1 | refine below_set ?_ GE316.out | refine below_set ?_ GE342.out | refine below_set ?_ GE343.out) | exact HB.out)) hb); clear HO_343009; clear BK316; clear BK342; clear BK343; clear HB; have HO_343009 := n0_; have BK316 := n1_; have BK342 := n2_; have BK343 := n3_; have HB := n4_; clear n0_ n1_ n2_ n3_ n4_; (try clear hb); (try clear hb2); (try clear hk); (try clear hi)) | ((with_reducible refine gate_dst (N := 16) rfl ?_); (try (refine gate_guard (by rfl) ?_; dsimp only)); refine box_event ?hg (N := 16) ?hd (cs := #[.bool false, .string (⟨#[]⟩ : ByteArray), .int .i64 0]) (t := 36) ?hr ?_; (case hd => rfl); (case hg => rfl); (case hr => first | (go_simp; done) | (go_simp; rfl)); intro gb352 hg w109 hbox hb; have n0_ := Aside0.mk (Kd.R_below (by (with_reducible repeat (first | apply Kd.R_alloc | apply Kd.R_drewN | apply Kd.R_drew)); exact HO_343009.out) hb); have n1_ := Aside0.mk (blk_below (g := gb316) (o := .cells #[.bool a1_0, .string a1_1, .int .i64 a1_2] 36 (0, 0)) (by (with_reducible repeat (first | refine blk_drewN ?_ _ | refine blk_drew ?_ | refine blk_alloc ?_ _)); exact BK316.out) hb); have n2_ := Aside0.mk (blk_below (g := gb342) (o := .cells #[.string t320, .string t321, .string t322, .string t323, .string t324, .string t325, .string t326, .bool t327, .bool t328, .slice Ao33 t329.length co33] 25 (0, 0)) (by (with_reducible repeat (first | refine blk_drewN ?_ _ | refine blk_drew ?_ | refine blk_alloc ?_ _)); exact BK342.out) hb); have n3_ := Aside0.mk (blk_below (g := gb343) (o := .cells #[.string t332, .string t333, .string t334, .string t335, .string t336, .string t337, .string t338, .bool t339, .bool t340, .int .i64 t341] 27 (0, 0)) (by (with_reducible repeat (first | refine blk_drewN ?_ _ | refine blk_drew ?_ | refine blk_alloc ?_ _)); exact BK343.out) hb); have n4_ := Aside0.mk (below_step (by repeat (first | (with_reducible first | exact HB.out | apply below_alloc | apply pw_below_drewN | apply below_drew1 | refine below_set ?_ GE316.out | refine below_set ?_ GE342.out | refine below_set ?_ GE343.out) | exact HB.out)) hb); have n5_ := Aside0.mk (hbox); have n6_ := Aside0.mk ((by rw [hg]; exact (below_size (by repeat (first | (with_reducible first | exact HB.out | apply below_alloc | apply pw_below_drewN | apply below_drew1 | refine below_set ?_ GE316.out | refine below_set ?_ GE342.out | refine below_set ?_ GE343.out) | exact HB.out))) : w.heap.size ≤ gb352)); have n7_ := Aside0.mk ((by rw [hg]; exact (below_size (by repeat (first | (with_reducible first | exact HB.out | apply below_alloc | apply pw_below_drewN | apply below_drew1 | refine below_set ?_ GE316.out | refine below_set ?_ GE342.out | refine below_set ?_ GE343.out) | exact HB.out))) : w.heap.size ≤ gb352)); have n8_ := Aside0.mk ((by rw [hg]; exact Nat.ne_of_lt (blk_lt (g := gb316) (o := .cells #[.bool a1_0, .string a1_1, .int .i64 a1_2] 36 (0, 0)) (by (with_reducible repeat (first | refine blk_drewN ?_ _ | refine blk_drew ?_ | refine blk_alloc ?_ _)); exact BK316.out)) : gb316 ≠ gb352)); have n9_ := Aside0.mk ((by rw [hg]; exact Nat.ne_of_gt (blk_lt (g := gb316) (o := .cells #[.bool a1_0, .string a1_1, .int .i64 a1_2] 36 (0, 0)) (by (with_reducible repeat (first | refine blk_drewN ?_ _ | refine blk_drew ?_ | refine blk_alloc ?_ _)); exact BK316.out)) : gb352 ≠ gb316)); have n10_ := Aside0.mk ((by rw [hg]; exact Nat.ne_of_lt (blk_lt (g := gb342) (o := .cells #[.string t320, .string t321, .string t322, .string t323, .string t324, .string t325, .string t326, .bool t327, .bool t328, .slice Ao33 t329.length co33] 25 (0, 0)) (by (with_reducible repeat (first | refine blk_drewN ?_ _ | refine blk_drew ?_ | refine blk_alloc ?_ _)); exact BK342.out)) : gb342 ≠ gb352)); have n11_ := Aside0.mk ((by rw [hg]; exact Nat.ne_of_gt (blk_lt (g := gb342) (o := .cells #[.string t320, .string t321, .string t322, .string t323, .string t324, .string t325, .string t326, .bool t327, .bool t328, .slice Ao33 t329.length co33] 25 (0, 0)) (by (with_reducible repeat (first | refine blk_drewN ?_ _ | refine blk_drew ?_ | refine blk_alloc ?_ _)); exact BK342.out)) : gb352 ≠ gb342)); have n12_ := Aside0.mk ((by rw [hg]; exact Nat.ne_of_lt (blk_lt (g := gb343) (o := .cells #[.string t332, .string t333, .string t334, .string t335, .string t336, .string t337, .string t338, .bool t339, .bool t340, .int .i64 t341] 27 (0, 0)) (by (with_reducible repeat (first | refine blk_drewN ?_ _ | refine blk_drew ?_ | refine blk_alloc ?_ _)); exact BK343.out)) : gb343 ≠ gb352)); have n13_ := Aside0.mk ((by rw [hg]; exact Nat.ne_of_gt (blk_lt (g := gb343) (o := .cells #[.string t332, .string t333, .string t334, .string t335, .string t336, .string t337, .string t338, .bool t339, .bool t340, .int .i64 t341] 27 (0, 0)) (by (with_reducible repeat (first | refine blk_drewN ?_ _ | refine blk_drew ?_ | refine blk_alloc ?_ _)); exact BK343.out)) : gb352 ≠ gb343)); clear HO_343009; clear BK316; clear BK342; clear BK343; clear HB; have HO_343009 := n0_; have BK316 := n1_; have BK342 := n2_; have BK343 := n3_; have HB := n4_; have BK352 := n5_; have GW352 := n6_; have GE352 := n7_; have NB316_352 := n8_; have NB352_316 := n9_; have NB342_352 := n10_; have NB352_342 := n11_; have NB343_352 := n12_; have NB352_343 := n13_; clear n0_ n1_ n2_ n3_ n4_ n5_ n6_ n7_ n8_ n9_ n10_ n11_ n12_ n13_; clear hb hbox hg; have hnb110 := NB352_316.out; have hnc110 := NB316_352.out; have hnb111 := NB352_342.out; have hnc111 := NB342_352.out; have hnb112 := NB352_343.out; have hnc112 := NB343_352.out; have hcz113_0 : w109.cell? ⟨gb352, 0, none⟩ = some (.bool false) := (blk_cell BK352.out 0).trans rfl; have hcz113_1 : w109.cell? ⟨gb352, 1, none⟩ = some (.string (⟨#[]⟩ : ByteArray)) := (blk_cell BK352.out 1).trans rfl; have hcz113_2 : w109.cell? ⟨gb352, 2, none⟩ = some (.int .i64 0) := (blk_cell BK352.out 2).trans rfl; have hfz113_0 := blk_frozen BK352.out 0; have hfz113_1 := blk_frozen BK352.out 1; have hfz113_2 := blk_frozen BK352.out 2; have hcz114_0 : w109.cell? ⟨gb316, 0, none⟩ = some (.bool a1_0) := (blk_cell BK316.out 0).trans rfl; have hcz114_1 : w109.cell? ⟨gb316, 1, none⟩ = some (.string a1_1) := (blk_cell BK316.out 1).trans rfl; have hcz114_2 : w109.cell? ⟨gb316, 2, none⟩ = some (.int .i64 a1_2) := (blk_cell BK316.out 2).trans rfl; have hfz114_0 := blk_frozen BK316.out 0; have hfz114_1 := blk_frozen BK316.out 1; have hfz114_2 := blk_frozen BK316.out 2; have p100 : 0 ≤ ((ji97) : Int) := of_decide_eq_true (by first | (with_reducible assumption) | assumption); have q100 : (ji97) < ((x9_25.extract ((ji71) : Int).toNat x9_25.size).size : Int) := of_decide_eq_true (by first | (with_reducible assumption) | assumption); have hx100 := bt_at (x9_25.extract ((ji71) : Int).toNat x9_25.size) (ji97); replace p100 := eq_true p100; replace q100 := eq_true q100))
                                            go_ret
                                            exact ⟨by first | rfl | (simp [errW_none, errW_some] <;> rfl) | (simp only [← hji71, ← hji97]; first | rfl | (simp [errW_none, errW_some] <;> rfl)) | (simp [*, errW_none, errW_some] <;> rfl), by repeat (first | (with_reducible first | exact HB.out | apply below_alloc | apply pw_below_drewN | apply below_drew1 | refine below_set ?_ GE316.out | refine below_set ?_ GE342.out | refine below_set ?_ GE343.out | refine below_set ?_ GE352.out) | exact HB.out)⟩
                                          · rw [if_neg c99] at H
                                            exact absurd H (by simp)
                                        · rw [if_neg c98] at H
                                          exact absurd H (by simp)
                                  · rw [if_neg c80] at H
                                    exact absurd H (by simp)
                                · rw [if_neg c79] at H
                                  exact absurd H (by simp)
                              · replace c78 := Bool.eq_false_iff.mpr c78
                                subst c78
                                have H1 : (none) = some r := by rw [if_neg (show ¬ (false = true) by decide)] at H; exact H
                                clear H
                                have H := H1
                                clear H1
                                exact absurd H (by simp)
                            · replace c77 := Bool.eq_false_iff.mpr c77
                              subst c77
                              have H1 : (none) = some r := by rw [if_neg (show ¬ (false = true) by decide)] at H; exact H
                              clear H
                              have H := H1
                              clear H1
                              exact absurd H (by simp)
                          · rw [if_neg c75] at H
                            exact absurd H (by simp)
                        · rw [if_neg c73] at H
                          exact absurd H (by simp)
                      · rw [if_neg c72] at H
                        exact absurd H (by simp)
                    · rw [if_neg c70] at H
                      have c70b0 : decide (x10_49 < (x9_25.size : Int)) = false := decide_eq_false c70
                      clear c70
                      replace H := Option.bind_eq_some_iff.mp H
                      obtain ⟨t353, A1150, H⟩ := H
                      replace H : (if t345.size + 0 ≤ 9223372036854775807 then ((tabardref7_Make.f kj49 a1_0 (t345 ++ (⟨#[]⟩ : ByteArray)) (-0)).bind fun bt354 => (if t346 = true then (if t353 = true then (if bt354.2.2.2 = 0 then (if (bt354.1 == a1_0 && (bt354.2.1.toList == a1_1.toList && (bt354.2.2.1 == a1_2))) = true then (if x10_49 = (x9_25.size : Int) then (some true) else (if ([] : List UInt8) = ([] : List UInt8) then (none) else (if 0 ≤ (-1) then (if (-1) < 0 then (some ((bt (⟨#[]⟩ : ByteArray) (-1)) != 48)) else (none)) else (none)))) else (none)) else (none)) else (none)) else (none))) else (none)) = some r := H
                      have A115 := Aside0.mk A1150
                      clear A1150
                      by_cases c116 : t345.size + 0 ≤ 9223372036854775807
                      · rw [if_pos c116] at H
                        have c116b0 := eq_true c116
                        have c116b1 : decide (t345.size + 0 ≤ 9223372036854775807) = true := decide_eq_true c116
                        try have c116b2 : (9223372036854775807 < t345.size + 0) = False := eq_false (Nat.not_lt.2 c116)
                        replace H := Option.bind_eq_some_iff.mp H
                        obtain ⟨⟨t354, t355, t356, t357⟩, A1170, H⟩ := H
                        replace H : (if t346 = true then (if t353 = true then (if t357 = 0 then (if (t354 == a1_0 && (t355.toList == a1_1.toList && (t356 == a1_2))) = true then (if x10_49 = (x9_25.size : Int) then (some true) else (if ([] : List UInt8) = ([] : List UInt8) then (none) else (if 0 ≤ (-1) then (if (-1) < 0 then (some ((bt (⟨#[]⟩ : ByteArray) (-1)) != 48)) else (none)) else (none)))) else (none)) else (none)) else (none)) else (none)) = some r := H
                        have A117 := Aside0.mk A1170
                        clear A1170
                        by_cases c118 : t346 = true
                        · subst c118
                          have H1 : (if t353 = true then (if t357 = 0 then (if (t354 == a1_0 && (t355.toList == a1_1.toList && (t356 == a1_2))) = true then (if x10_49 = (x9_25.size : Int) then (some true) else (if ([] : List UInt8) = ([] : List UInt8) then (none) else (if 0 ≤ (-1) then (if (-1) < 0 then (some ((bt (⟨#[]⟩ : ByteArray) (-1)) != 48)) else (none)) else (none)))) else (none)) else (none)) else (none)) = some r := by rw [if_pos rfl] at H; exact H
                          clear H
                          have H := H1
                          clear H1
                          by_cases c119 : t353 = true
                          · subst c119
                            have H1 : (if t357 = 0 then (if (t354 == a1_0 && (t355.toList == a1_1.toList && (t356 == a1_2))) = true then (if x10_49 = (x9_25.size : Int) then (some true) else (if ([] : List UInt8) = ([] : List UInt8) then (none) else (if 0 ≤ (-1) then (if (-1) < 0 then (some ((bt (⟨#[]⟩ : ByteArray) (-1)) != 48)) else (none)) else (none)))) else (none)) else (none)) = some r := by rw [if_pos rfl] at H; exact H
                            clear H
                            have H := H1
                            clear H1
                            by_cases c120 : t357 = 0
                            · rw [if_pos c120] at H
                              have c120b0 : (t357 == 0) = true := beq_iff_eq.mpr c120
                              have c120b1 : (t357 != 0) = false := bne_eq_false_iff_eq.mpr c120
                              clear c120
                              by_cases c121 : (t354 == a1_0 && (t355.toList == a1_1.toList && (t356 == a1_2))) = true
                              · rw [if_pos c121] at H
                                have c121b0 : (t354 == a1_0 && (t355.toList == a1_1.toList && (t356 == a1_2))) = true := c121
                                (try (have c121b1 : decide (t354 = a1_0 && (t355.toList == a1_1.toList && (t356 == a1_2))) = true := by simpa using c121))
                                (try (have c121b2 : (t354 == a1_0 && (t355.toList == a1_1.toList && (t356 == a1_2))) = true := by simpa using c121))
                                clear c121
                                by_cases c122 : x10_49 = (x9_25.size : Int)
                                · rw [if_pos c122] at H
                                  have c122b0 : (x10_49 == (x9_25.size : Int)) = true := beq_iff_eq.mpr c122
                                  have c122b1 : (x10_49 != (x9_25.size : Int)) = false := bne_eq_false_iff_eq.mpr c122
                                  clear c122
                                  obtain rfl := Option.some.inj H
                                  try go_wp2
                                  have n0_ := Aside0.mk (Kd.R_drew HO_343009.out)
                                  have n1_ := Aside0.mk (blk_drew BK316.out)
                                  have n2_ := Aside0.mk (blk_drew BK342.out)
                                  have n3_ := Aside0.mk (blk_drew BK343.out)
                                  have n4_ := Aside0.mk (below_drew1 HB.out)
                                  clear HO_343009
                                  clear BK316
                                  clear BK342
                                  clear BK343
                                  clear HB
                                  have HO_343009 := n0_
                                  have BK316 := n1_
                                  have BK342 := n2_
                                  have BK343 := n3_
                                  have HB := n4_
                                  clear n0_ n1_ n2_ n3_ n4_
                                  refine start_ (n := 10) (S := fun w' => w'.cell? ⟨gb342, 0, none⟩ = some (.string t320) ∧ w'.cell? ⟨gb342, 1, none⟩ = some (.string t321) ∧ w'.cell? ⟨gb342, 2, none⟩ = some (.string t322) ∧ w'.cell? ⟨gb342, 3, none⟩ = some (.string t323) ∧ w'.cell? ⟨gb342, 4, none⟩ = some (.string t324) ∧ w'.cell? ⟨gb342, 5, none⟩ = some (.string t325) ∧ w'.cell? ⟨gb342, 6, none⟩ = some (.string t326) ∧ w'.cell? ⟨gb342, 7, none⟩ = some (.bool t327) ∧ w'.cell? ⟨gb342, 8, none⟩ = some (.bool t328) ∧ w'.cell? ⟨gb342, 9, none⟩ = some (.slice Ao33 t329.length co33)) (ds := []) #[false, false, false, false, false, false, false, false, false, false] (by kernel_rfl) rfl rfl ⟨(blk_cell BK342.out 0).trans rfl, (blk_cell BK342.out 1).trans rfl, (blk_cell BK342.out 2).trans rfl, (blk_cell BK342.out 3).trans rfl, (blk_cell BK342.out 4).trans rfl, (blk_cell BK342.out 5).trans rfl, (blk_cell BK342.out 6).trans rfl, (blk_cell BK342.out 7).trans rfl, (blk_cell BK342.out 8).trans rfl, (blk_cell BK342.out 9).trans rfl⟩ (fun hHeld => ?_); refine with_tabW tabardlaw11_LocaleBack.tab17 tabardlaw11_LocaleBack.bits17 (fun HT_ HW_ => ?_)
                                  generalize wc.drew = w123 at HO_343009 BK316 BK342 BK343 HB hHeld ⊢
                                  refine pure_ (i := 1) (N := some 101) (v := ?_) (a' := ?_) #[false, true, false, false, false, false, false, false, false, false] rfl rfl (any_of HT_.out (by kernel_rfl)) (fun _ _ _ h => h) (Or.inl ⟨by rfl, ?_⟩) ?_ ?_
                                  rotate_left
                                  · intro w'
                                    go_simp
                                    with_reducible rfl
                                  rotate_left
                                  · simp only [Act.put, List.setIfInBounds_toArray, List.set_cons_zero, List.set_cons_succ, i64_w, i32_w]
                                    rfl
                                  refine pure_ (i := 2) (N := some 102) (v := ?_) (a' := ?_) #[false, true, true, false, false, false, false, false, false, false] rfl rfl (any_of HT_.out (by kernel_rfl)) (fun _ _ _ h => h) (Or.inl ⟨by rfl, ?_⟩) ?_ ?_
                                  rotate_left
                                  · intro w'
                                    go_simp
                                    with_reducible rfl
                                  rotate_left
                                  · simp only [Act.put, List.setIfInBounds_toArray, List.set_cons_zero, List.set_cons_succ, i64_w, i32_w]
                                    rfl
                                  refine pure_ (i := 3) (N := some 103) (v := ?_) (a' := ?_) #[false, true, true, true, false, false, false, false, false, false] rfl rfl (any_of HT_.out (by kernel_rfl)) (fun _ _ _ h => h) (Or.inl ⟨by rfl, ?_⟩) ?_ ?_
                                  rotate_left
                                  · intro w'
                                    go_simp
                                    with_reducible rfl
                                  rotate_left
                                  · simp only [Act.put, List.setIfInBounds_toArray, List.set_cons_zero, List.set_cons_succ, i64_w, i32_w]
                                    rfl
                                  refine take_ (i := 0) (N := some 100) (v := ?_) (a' := ?_) #[true, true, true, true, false, false, false, false, false, false] rfl rfl (take_ofW HT_.out HW_.out (by kernel_rfl)) (fun _ _ _ h => h) (Or.inl ⟨by rfl, ?_⟩) hHeld ?_ ?_
                                  rotate_left
                                  · rintro w' ⟨s0, s1, s2, s3, s4, s5, s6, s7, s8, s9⟩
                                    go_simp
                                    with_reducible rfl
                                  rotate_left
                                  · simp only [Act.put, List.setIfInBounds_toArray, List.set_cons_zero, List.set_cons_succ, i64_w, i32_w]
                                    rfl
                                  refine one_ (i := 4) (N := some 104) #[true, true, true, true, true, false, false, false, false, false] rfl rfl (one_of HT_.out (by kernel_rfl)) (by decide) (fun K hK => ?_)
                                  refine goes_ Tryd.func12 (by kernel_rfl) rfl #[.agg #[.string t320, .string t321, .string t322, .string t323, .string t324, .string t325, .string t326, .bool t327, .bool t328, .slice Ao33 t329.length co33], .string (x9_25.extract 0 (x10_49 : Int).toNat)] (by rfl) rfl rfl (by (try simp only [List.map_toArray, List.map_cons, List.map_nil]); first | done | rfl | (simp only [List.length_drop, List.length_take]; rfl)) ?_
                                  with_reducible refine (locale_Locale_Plain.calls kj49 t320 t321 t322 t323 t324 t325 t326 t327 t328 _ _ t329 (x9_25.extract 0 (x10_49 : Int).toNat) t345 true _ ?side3 ?side1 ?side2 A69.out).mono ?_
                                  (case side1 => repeat (first | exact (Kd.R_reads' HO_343009.out).2.2 | (with_reducible refine Kd.C_alloc ?_ _) | (with_reducible refine Kd.C_drewN ?_ _) | (with_reducible refine Kd.C_drew ?_)))
                                  (case side2 => exact (Kd.R_reads' HO_343009.out).2.1)
                                  (case side3 => exact GL.below HGL.out (by repeat (first | (with_reducible first | exact HB.out | apply below_alloc | apply pw_below_drewN | apply below_drew1 | refine below_set ?_ GE316.out | refine below_set ?_ GE342.out | refine below_set ?_ GE343.out) | exact HB.out)))
                                  rintro e w124 ⟨rfl, hb⟩
                                  refine ⟨_, rfl, ?_⟩
                                  have n0_ := Aside0.mk (Kd.R_below (by (with_reducible repeat (first | apply Kd.R_alloc | apply Kd.R_drewN | apply Kd.R_drew)); exact HO_343009.out) hb)
                                  have n1_ := Aside0.mk (blk_below (g := gb316) (o := .cells #[.bool a1_0, .string a1_1, .int .i64 a1_2] 36 (0, 0)) (by (with_reducible repeat (first | refine blk_drewN ?_ _ | refine blk_drew ?_ | refine blk_alloc ?_ _)); exact BK316.out) hb)
                                  have n2_ := Aside0.mk (blk_below (g := gb342) (o := .cells #[.string t320, .string t321, .string t322, .string t323, .string t324, .string t325, .string t326, .bool t327, .bool t328, .slice Ao33 t329.length co33] 25 (0, 0)) (by (with_reducible repeat (first | refine blk_drewN ?_ _ | refine blk_drew ?_ | refine blk_alloc ?_ _)); exact BK342.out) hb)
                                  have n3_ := Aside0.mk (blk_below (g := gb343) (o := .cells #[.string t332, .string t333, .string t334, .string t335, .string t336, .string t337, .string t338, .bool t339, .bool t340, .int .i64 t341] 27 (0, 0)) (by (with_reducible repeat (first | refine blk_drewN ?_ _ | refine blk_drew ?_ | refine blk_alloc ?_ _)); exact BK343.out) hb)
                                  have n4_ := Aside0.mk (below_step (by repeat (first | (with_reducible first | exact HB.out | apply below_alloc | apply pw_below_drewN | apply below_drew1 | refine below_set ?_ GE316.out | refine below_set ?_ GE342.out | refine below_set ?_ GE343.out) | exact HB.out)) hb)
                                  clear HO_343009
                                  clear BK316
                                  clear BK342
                                  clear BK343
                                  clear HB
                                  have HO_343009 := n0_
                                  have BK316 := n1_
                                  have BK342 := n2_
                                  have BK343 := n3_
                                  have HB := n4_
                                  clear n0_ n1_ n2_ n3_ n4_
                                  (try clear hb)
                                  (try clear hb2)
                                  (try clear hk)
                                  (try clear hi)
                                  refine hK.out _ _ ⟨(blk_cell BK342.out 0).trans rfl, (blk_cell BK342.out 1).trans rfl, (blk_cell BK342.out 2).trans rfl, (blk_cell BK342.out 3).trans rfl, (blk_cell BK342.out 4).trans rfl, (blk_cell BK342.out 5).trans rfl, (blk_cell BK342.out 6).trans rfl, (blk_cell BK342.out 7).trans rfl, (blk_cell BK342.out 8).trans rfl, (blk_cell BK342.out 9).trans rfl⟩ (fun hHeld => ?_)
                                  clear hK K
                                  refine norm_ (a' := ?_) ?_ ?_
                                  rotate_left
                                  · show Act.put _ (some 104) _ = _
                                    simp only [Act.put, List.setIfInBounds_toArray, List.set_cons_zero, List.set_cons_succ, i64_w, i32_w]
                                    rfl
                                  refine pure_ (i := 5) (N := some 99) (v := ?_) (a' := ?_) #[true, true, true, true, true, true, false, false, false, false] rfl rfl (any_of HT_.out (by kernel_rfl)) (fun _ _ _ h => h) (Or.inl ⟨by rfl, ?_⟩) ?_ ?_
                                  rotate_left
                                  · intro w'
                                    go_simp
                                    with_reducible rfl
                                  rotate_left
                                  · simp only [Act.put, List.setIfInBounds_toArray, List.set_cons_zero, List.set_cons_succ, i64_w, i32_w]
                                    rfl
                                  refine pure_ (i := 6) (N := some 105) (v := ?_) (a' := ?_) #[true, true, true, true, true, true, true, false, false, false] rfl rfl (any_of HT_.out (by kernel_rfl)) (fun _ _ _ h => h) (Or.inl ⟨by rfl, ?_⟩) ?_ ?_
                                  rotate_left
                                  · intro w'
                                    go_simp
                                    with_reducible rfl
                                  rotate_left
                                  · simp only [Act.put, List.setIfInBounds_toArray, List.set_cons_zero, List.set_cons_succ, i64_w, i32_w]
                                    rfl
                                  refine pure_ (i := 7) (N := some 106) (v := ?_) (a' := ?_) #[true, true, true, true, true, true, true, true, false, false] rfl rfl (any_of HT_.out (by kernel_rfl)) (fun _ _ _ h => h) (Or.inl ⟨by rfl, ?_⟩) ?_ ?_
                                  rotate_left
                                  · intro w'
                                    go_simp
                                    with_reducible rfl
                                  rotate_left
                                  · simp only [Act.put, List.setIfInBounds_toArray, List.set_cons_zero, List.set_cons_succ, i64_w, i32_w]
                                    rfl
                                  refine pure_ (i := 8) (N := some 12) (v := ?_) (a' := ?_) #[true, true, true, true, true, true, true, true, true, false] rfl rfl (any_of HT_.out (by kernel_rfl)) (fun _ _ _ h => h) (Or.inl ⟨by rfl, ?_⟩) ?_ ?_
                                  rotate_left
                                  · intro w'
                                    go_simp
                                    with_reducible rfl
                                  rotate_left
                                  · simp only [Act.put, List.setIfInBounds_toArray, List.set_cons_zero, List.set_cons_succ, i64_w, i32_w]
                                    rfl
                                  refine pure_ (i := 9) (N := some 13) (v := ?_) (a' := ?_) #[true, true, true, true, true, true, true, true, true, true] rfl rfl (any_of HT_.out (by kernel_rfl)) (fun _ _ _ h => h) (Or.inl ⟨by rfl, ?_⟩) ?_ ?_
                                  rotate_left
                                  · intro w'
                                    go_simp
                                    with_reducible rfl
                                  rotate_left
                                  · simp only [Act.put, List.setIfInBounds_toArray, List.set_cons_zero, List.set_cons_succ, i64_w, i32_w]
                                    rfl
                                  refine done_ (done_of HT_.out (by kernel_rfl)) ?_
                                  try go_wp2_with (first | ((with_reducible refine gate_callee (f := 14) rfl ?_); refine goesL_ (some 119) rfl rfl Tryd.func14 (by kernel_rfl) rfl #[.string (⟨#[]⟩ : ByteArray)] rfl (by (try simp only [List.map_toArray, List.map_cons, List.map_nil]); first | done | rfl | (simp only [List.length_drop, List.length_take]; rfl)) ?_; (with_reducible refine (tabardlaw11_digitsAll.calls kj49 (⟨#[]⟩ : ByteArray) true _ A115.out).mono ?_); rintro e w' ⟨rfl, ⟨nd, rfl⟩⟩; refine ⟨_, rfl, ?_⟩; (try (rw [drewN_self w124]; generalize hq_ : World.drewN w124 _ = w124; have n0_ : Aside0 (Kd.R (Kd.int .i64) 3 w124 w.heap.size (fun _ => True) (.slice Ao33 t329.length co33) t329) := ⟨by rw [← hq_]; exact (by (with_reducible repeat (first | apply Kd.R_alloc | apply Kd.R_drewN | apply Kd.R_drew)); exact HO_343009.out)⟩; have n1_ : Aside0 (w124.heap[gb316]? = some (.cells #[.bool a1_0, .string a1_1, .int .i64 a1_2] 36 (0, 0))) := ⟨by rw [← hq_]; exact (by (with_reducible repeat (first | refine blk_drewN ?_ _ | refine blk_drew ?_ | refine blk_alloc ?_ _)); exact BK316.out)⟩; have n2_ : Aside0 (w124.heap[gb342]? = some (.cells #[.string t320, .string t321, .string t322, .string t323, .string t324, .string t325, .string t326, .bool t327, .bool t328, .slice Ao33 t329.length co33] 25 (0, 0))) := ⟨by rw [← hq_]; exact (by (with_reducible repeat (first | refine blk_drewN ?_ _ | refine blk_drew ?_ | refine blk_alloc ?_ _)); exact BK342.out)⟩; have n3_ : Aside0 (w124.heap[gb343]? = some (.cells #[.string t332, .string t333, .string t334, .string t335, .string t336, .string t337, .string t338, .bool t339, .bool t340, .int .i64 t341] 27 (0, 0))) := ⟨by rw [← hq_]; exact (by (with_reducible repeat (first | refine blk_drewN ?_ _ | refine blk_drew ?_ | refine blk_alloc ?_ _)); exact BK343.out)⟩; have n4_ : Aside0 (Below w.heap.size w w124) := ⟨by rw [← hq_]; exact (by repeat (first | (with_reducible first | exact HB.out | apply below_alloc | apply pw_below_drewN | apply below_drew1 | refine below_set ?_ GE316.out | refine below_set ?_ GE342.out | refine below_set ?_ GE343.out) | exact HB.out))⟩; clear HO_343009 BK316 BK342 BK343 HB hq_; have HO_343009 := n0_; have BK316 := n1_; have BK342 := n2_; have BK343 := n3_; have HB := n4_; clear n0_ n1_ n2_ n3_ n4_)); have hnb125 := NB316_342.out; have hnc125 := NB342_316.out; have hnb126 := NB316_343.out; have hnc126 := NB343_316.out; have hcz127_0 : w124.cell? ⟨gb316, 0, none⟩ = some (.bool a1_0) := (blk_cell BK316.out 0).trans rfl; have hcz127_1 : w124.cell? ⟨gb316, 1, none⟩ = some (.string a1_1) := (blk_cell BK316.out 1).trans rfl; have hcz127_2 : w124.cell? ⟨gb316, 2, none⟩ = some (.int .i64 a1_2) := (blk_cell BK316.out 2).trans rfl; have hfz127_0 := blk_frozen BK316.out 0; have hfz127_1 := blk_frozen BK316.out 1; have hfz127_2 := blk_frozen BK316.out 2) | ((with_reducible refine gate_callee (f := 23) rfl ?_); refine goesL_ (some 129) rfl rfl Tryd.func23 (by kernel_rfl) rfl #[.bool a1_0, .string (t345 ++ (⟨#[]⟩ : ByteArray)), .int .i64 (-0)] rfl (by (try simp only [List.map_toArray, List.map_cons, List.map_nil]); first | done | rfl | (simp only [List.length_drop, List.length_take]; rfl)) ?_; (with_reducible refine (tabardref7_Make.calls kj49 a1_0 (t345 ++ (⟨#[]⟩ : ByteArray)) (-0) t354 t355 t356 t357 _ A117.out).mono ?_); rintro e w128 ⟨rfl, hb⟩; refine ⟨_, rfl, ?_⟩; have n0_ := Aside0.mk (Kd.R_below (by (with_reducible repeat (first | apply Kd.R_alloc | apply Kd.R_drewN | apply Kd.R_drew)); exact HO_343009.out) hb); have n1_ := Aside0.mk (blk_below (g := gb316) (o := .cells #[.bool a1_0, .string a1_1, .int .i64 a1_2] 36 (0, 0)) (by (with_reducible repeat (first | refine blk_drewN ?_ _ | refine blk_drew ?_ | refine blk_alloc ?_ _)); exact BK316.out) hb); have n2_ := Aside0.mk (blk_below (g := gb342) (o := .cells #[.string t320, .string t321, .string t322, .string t323, .string t324, .string t325, .string t326, .bool t327, .bool t328, .slice Ao33 t329.length co33] 25 (0, 0)) (by (with_reducible repeat (first | refine blk_drewN ?_ _ | refine blk_drew ?_ | refine blk_alloc ?_ _)); exact BK342.out) hb); have n3_ := Aside0.mk (blk_below (g := gb343) (o := .cells #[.string t332, .string t333, .string t334, .string t335, .string t336, .string t337, .string t338, .bool t339, .bool t340, .int .i64 t341] 27 (0, 0)) (by (with_reducible repeat (first | refine blk_drewN ?_ _ | refine blk_drew ?_ | refine blk_alloc ?_ _)); exact BK343.out) hb); have n4_ := Aside0.mk (below_step (by repeat (first | (with_reducible first | exact HB.out | apply below_alloc | apply pw_below_drewN | apply below_drew1 | refine below_set ?_ GE316.out | refine below_set ?_ GE342.out | refine below_set ?_ GE343.out) | exact HB.out)) hb); clear HO_343009; clear BK316; clear BK342; clear BK343; clear HB; have HO_343009 := n0_; have BK316 := n1_; have BK342 := n2_; have BK343 := n3_; have HB := n4_; clear n0_ n1_ n2_ n3_ n4_; (try clear hb); (try clear hb2); (try clear hk); (try clear hi)) | ((with_reducible refine gate_dst (N := 16) rfl ?_); (try (refine gate_guard (by rfl) ?_; dsimp only)); refine box_event ?hg (N := 16) ?hd (cs := #[.bool false, .string (⟨#[]⟩ : ByteArray), .int .i64 0]) (t := 36) ?hr ?_; (case hd => rfl); (case hg => rfl); (case hr => first | (go_simp; done) | (go_simp; rfl)); intro gb358 hg w129 hbox hb; have n0_ := Aside0.mk (Kd.R_below (by (with_reducible repeat (first | apply Kd.R_alloc | apply Kd.R_drewN | apply Kd.R_drew)); exact HO_343009.out) hb); have n1_ := Aside0.mk (blk_below (g := gb316) (o := .cells #[.bool a1_0, .string a1_1, .int .i64 a1_2] 36 (0, 0)) (by (with_reducible repeat (first | refine blk_drewN ?_ _ | refine blk_drew ?_ | refine blk_alloc ?_ _)); exact BK316.out) hb); have n2_ := Aside0.mk (blk_below (g := gb342) (o := .cells #[.string t320, .string t321, .string t322, .string t323, .string t324, .string t325, .string t326, .bool t327, .bool t328, .slice Ao33 t329.length co33] 25 (0, 0)) (by (with_reducible repeat (first | refine blk_drewN ?_ _ | refine blk_drew ?_ | refine blk_alloc ?_ _)); exact BK342.out) hb); have n3_ := Aside0.mk (blk_below (g := gb343) (o := .cells #[.string t332, .string t333, .string t334, .string t335, .string t336, .string t337, .string t338, .bool t339, .bool t340, .int .i64 t341] 27 (0, 0)) (by (with_reducible repeat (first | refine blk_drewN ?_ _ | refine blk_drew ?_ | refine blk_alloc ?_ _)); exact BK343.out) hb); have n4_ := Aside0.mk (below_step (by repeat (first | (with_reducible first | exact HB.out | apply below_alloc | apply pw_below_drewN | apply below_drew1 | refine below_set ?_ GE316.out | refine below_set ?_ GE342.out | refine below_set ?_ GE343.out) | exact HB.out)) hb); have n5_ := Aside0.mk (hbox); have n6_ := Aside0.mk ((by rw [hg]; exact (below_size (by repeat (first | (with_reducible first | exact HB.out | apply below_alloc | apply pw_below_drewN | apply below_drew1 | refine below_set ?_ GE316.out | refine below_set ?_ GE342.out | refine below_set ?_ GE343.out) | exact HB.out))) : w.heap.size ≤ gb358)); have n7_ := Aside0.mk ((by rw [hg]; exact (below_size (by repeat (first | (with_reducible first | exact HB.out | apply below_alloc | apply pw_below_drewN | apply below_drew1 | refine below_set ?_ GE316.out | refine below_set ?_ GE342.out | refine below_set ?_ GE343.out) | exact HB.out))) : w.heap.size ≤ gb358)); have n8_ := Aside0.mk ((by rw [hg]; exact Nat.ne_of_lt (blk_lt (g := gb316) (o := .cells #[.bool a1_0, .string a1_1, .int .i64 a1_2] 36 (0, 0)) (by (with_reducible repeat (first | refine blk_drewN ?_ _ | refine blk_drew ?_ | refine blk_alloc ?_ _)); exact BK316.out)) : gb316 ≠ gb358)); have n9_ := Aside0.mk ((by rw [hg]; exact Nat.ne_of_gt (blk_lt (g := gb316) (o := .cells #[.bool a1_0, .string a1_1, .int .i64 a1_2] 36 (0, 0)) (by (with_reducible repeat (first | refine blk_drewN ?_ _ | refine blk_drew ?_ | refine blk_alloc ?_ _)); exact BK316.out)) : gb358 ≠ gb316)); have n10_ := Aside0.mk ((by rw [hg]; exact Nat.ne_of_lt (blk_lt (g := gb342) (o := .cells #[.string t320, .string t321, .string t322, .string t323, .string t324, .string t325, .string t326, .bool t327, .bool t328, .slice Ao33 t329.length co33] 25 (0, 0)) (by (with_reducible repeat (first | refine blk_drewN ?_ _ | refine blk_drew ?_ | refine blk_alloc ?_ _)); exact BK342.out)) : gb342 ≠ gb358)); have n11_ := Aside0.mk ((by rw [hg]; exact Nat.ne_of_gt (blk_lt (g := gb342) (o := .cells #[.string t320, .string t321, .string t322, .string t323, .string t324, .string t325, .string t326, .bool t327, .bool t328, .slice Ao33 t329.length co33] 25 (0, 0)) (by (with_reducible repeat (first | refine blk_drewN ?_ _ | refine blk_drew ?_ | refine blk_alloc ?_ _)); exact BK342.out)) : gb358 ≠ gb342)); have n12_ := Aside0.mk ((by rw [hg]; exact Nat.ne_of_lt (blk_lt (g := gb343) (o := .cells #[.string t332, .string t333, .string t334, .string t335, .string t336, .string t337, .string t338, .bool t339, .bool t340, .int .i64 t341] 27 (0, 0)) (by (with_reducible repeat (first | refine blk_drewN ?_ _ | refine blk_drew ?_ | refine blk_alloc ?_ _)); exact BK343.out)) : gb343 ≠ gb358)); have n13_ := Aside0.mk ((by rw [hg]; exact Nat.ne_of_gt (blk_lt (g := gb343) (o := .cells #[.string t332, .string t333, .string t334, .string t335, .string t336, .string t337, .string t338, .bool t339, .bool t340, .int .i64 t341] 27 (0, 0)) (by (with_reducible repeat (first | refine blk_drewN ?_ _ | refine blk_drew ?_ | refine blk_alloc ?_ _)); exact BK343.out)) : gb358 ≠ gb343)); clear HO_343009; clear BK316; clear BK342; clear BK343; clear HB; have HO_343009 := n0_; have BK316 := n1_; have BK342 := n2_; have BK343 := n3_; have HB := n4_; have BK358 := n5_; have GW358 := n6_; have GE358 := n7_; have NB316_358 := n8_; have NB358_316 := n9_; have NB342_358 := n10_; have NB358_342 := n11_; have NB343_358 := n12_; have NB358_343 := n13_; clear n0_ n1_ n2_ n3_ n4_ n5_ n6_ n7_ n8_ n9_ n10_ n11_ n12_ n13_; clear hb hbox hg; have hnb130 := NB358_316.out; have hnc130 := NB316_358.out; have hnb131 := NB358_342.out; have hnc131 := NB342_358.out; have hnb132 := NB358_343.out; have hnc132 := NB343_358.out; have hcz133_0 : w129.cell? ⟨gb358, 0, none⟩ = some (.bool false) := (blk_cell BK358.out 0).trans rfl; have hcz133_1 : w129.cell? ⟨gb358, 1, none⟩ = some (.string (⟨#[]⟩ : ByteArray)) := (blk_cell BK358.out 1).trans rfl; have hcz133_2 : w129.cell? ⟨gb358, 2, none⟩ = some (.int .i64 0) := (blk_cell BK358.out 2).trans rfl; have hfz133_0 := blk_frozen BK358.out 0; have hfz133_1 := blk_frozen BK358.out 1; have hfz133_2 := blk_frozen BK358.out 2; have hcz134_0 : w129.cell? ⟨gb316, 0, none⟩ = some (.bool a1_0) := (blk_cell BK316.out 0).trans rfl; have hcz134_1 : w129.cell? ⟨gb316, 1, none⟩ = some (.string a1_1) := (blk_cell BK316.out 1).trans rfl; have hcz134_2 : w129.cell? ⟨gb316, 2, none⟩ = some (.int .i64 a1_2) := (blk_cell BK316.out 2).trans rfl; have hfz134_0 := blk_frozen BK316.out 0; have hfz134_1 := blk_frozen BK316.out 1; have hfz134_2 := blk_frozen BK316.out 2))
                                  go_ret
                                  exact ⟨by first | rfl | (simp [errW_none, errW_some] <;> rfl) | (simp [*, errW_none, errW_some] <;> rfl), by repeat (first | (with_reducible first | exact HB.out | apply below_alloc | apply pw_below_drewN | apply below_drew1 | refine below_set ?_ GE316.out | refine below_set ?_ GE342.out | refine below_set ?_ GE343.out | refine below_set ?_ GE358.out) | exact HB.out)⟩
                                · rw [if_neg c122] at H
                                  have c122b0 : (x10_49 == (x9_25.size : Int)) = false := beq_eq_false_iff_ne.mpr c122
                                  have c122b1 : (x10_49 != (x9_25.size : Int)) = true := bne_iff_ne.mpr c122
                                  by_cases c135 : ([] : List UInt8) = ([] : List UInt8)
                                  · rw [if_pos c135] at H
                                    exact absurd H (by simp)
                                  · exact absurd rfl c135
                              · rw [if_neg c121] at H
                                exact absurd H (by simp)
                            · rw [if_neg c120] at H
                              exact absurd H (by simp)
                          · replace c119 := Bool.eq_false_iff.mpr c119
                            subst c119
                            have H1 : (none) = some r := by rw [if_neg (show ¬ (false = true) by decide)] at H; exact H
                            clear H
                            have H := H1
                            clear H1
                            exact absurd H (by simp)
                        · replace c118 := Bool.eq_false_iff.mpr c118
                          subst c118
                          have H1 : (none) = some r := by rw [if_neg (show ¬ (false = true) by decide)] at H; exact H
                          clear H
                          have H := H1
                          clear H1
                          exact absurd H (by simp)
                      · rw [if_neg c116] at H
                        exact absurd H (by simp)
                  · rw [if_neg c68] at H
                    exact absurd H (by simp)
                · rw [if_neg c67] at H
                  exact absurd H (by simp)

end Go.Proofs.YtmbhjogohfcjgaaDoor.L
