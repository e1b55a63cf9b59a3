/- Contracts of the functions that the print does not take: decimal.plain, locale.Find, strings.ReplaceAll, Trim, Repeat, in the print's own form. -/
import Derived.Test.YtmbhjogohfcjgaaDoorLfdA
import Derived.Test.YtmbhjogohfcjgaaDoorLfdB
import Derived.Test.YtmbhjogohfcjgaaDoorLfdC
import Derived.Test.YtmbhjogohfcjgaaDoorLfdD
import Derived.Test.YtmbhjogohfcjgaaDoorLpl
import Derived.Test.YtmbhjogohfcjgaaDoorSh
import Derived.Shelf.Strings.SlTrimAscii
namespace Go.Proofs.YtmbhjogohfcjgaaDoor.L
open Go.RowKit Go.Proofs.YtmbhjogohfcjgaaDoorW.PrintWords Go.Proofs.YtmbhjogohfcjgaaDoorW.PrintLast Go.Proofs.YtmbhjogohfcjgaaDoorW.PrintMore

def decimal_plain.f (a0 : ByteArray) : Option (Bool) := some (allDig a0)
theorem decimal_plain.calls (a0 : ByteArray) (r : Bool) (w : World) (h : decimal_plain.f a0 = some r) :
    Calls Tryd.prog 79 #[.string a0] w fun e w' => e = .returned (.bool r) ∧ Below w.heap.size w w' := by
  obtain rfl := Option.some.inj h
  exact (plain_walk a0 w).mono fun e w' ⟨he, pos, hw⟩ => ⟨he, hw ▸ (Below.refl _ _).alloc (Nat.le_refl _) _⟩

def strings_ReplaceAll.f (a0 : ByteArray) (a1 : ByteArray) (a2 : ByteArray) : Option (ByteArray) :=
  if a0.size < 4294967281 ∧ 1 ≤ a1.size ∧ a0.size + Lib.countB a0 a1 * a2.size ≤ 140737488355328 then some ⟨(Lib.replaceAll a0.data.toList a1.data.toList a2.data.toList).toArray⟩ else none
theorem strings_ReplaceAll.calls (a0 : ByteArray) (a1 : ByteArray) (a2 : ByteArray) (r : ByteArray) (w : World) (hGL : GL w) (h : strings_ReplaceAll.f a0 a1 a2 = some r) :
    Calls Tryd.prog 40 #[.string a0, .string a1, .string a2] w fun e w' => e = .returned (.string r) ∧ Below w.heap.size w w' := by
  unfold strings_ReplaceAll.f at h
  by_cases c : a0.size < 4294967281 ∧ 1 ≤ a1.size ∧ a0.size + Lib.countB a0 a1 * a2.size ≤ 140737488355328
  · rw [if_pos c] at h
    obtain rfl := Option.some.inj h
    obtain ⟨m, hm⟩ := hGL.m
    exact Tryd.strings_ReplaceAll a0 a1 a2 m w c.1 hm c.2.1 c.2.2
  · rw [if_neg c] at h; exact absurd h (by simp)

def strings_Trim.f (a0 : ByteArray) (a1 : ByteArray) : Option (ByteArray) :=
  if a0.size ≤ 9223372036854775807 ∧ a1.size < 4294967281 ∧ a1.data.toList.all (fun b => decide (b.toNat < 128)) = true then some ⟨(Lib.trimS a0.data.toList a1.data.toList).toArray⟩ else none
theorem strings_Trim.calls (a0 : ByteArray) (a1 : ByteArray) (r : ByteArray) (w : World) (h : strings_Trim.f a0 a1 = some r) :
    Calls Tryd.prog 41 #[.string a0, .string a1] w fun e w' => e = .returned (.string r) ∧ Below w.heap.size w w' := by
  unfold strings_Trim.f at h
  by_cases c : a0.size ≤ 9223372036854775807 ∧ a1.size < 4294967281 ∧ a1.data.toList.all (fun b => decide (b.toNat < 128)) = true
  · rw [if_pos c] at h
    obtain rfl := Option.some.inj h
    exact Any.strings_Trim_laid Tryd.lays160 (by kernel_rfl) a0 a1 w c.1 c.2.1 (fun j b hj => of_decide_eq_true (List.all_eq_true.1 c.2.2 b (List.mem_of_getElem? hj)))
  · rw [if_neg c] at h; exact absurd h (by simp)

def strings_Repeat.f (a0 : ByteArray) (a1 : Int) : Option (ByteArray) :=
  if 0 ≤ a1 ∧ a1 ≤ 9223372036854775807 ∧ a0.size * a1.toNat ≤ 140737488355328 then some ⟨(Lib.repeatL a0.data.toList a1.toNat).toArray⟩ else none
theorem strings_Repeat.calls (a0 : ByteArray) (a1 : Int) (r : ByteArray) (w : World) (h : strings_Repeat.f a0 a1 = some r) :
    Calls Tryd.prog 78 #[.string a0, .int .i64 a1] w fun e w' => e = .returned (.string r) ∧ Below w.heap.size w w' := by
  unfold strings_Repeat.f at h
  by_cases c : 0 ≤ a1 ∧ a1 ≤ 9223372036854775807 ∧ a0.size * a1.toNat ≤ 140737488355328
  · rw [if_pos c] at h
    obtain rfl := Option.some.inj h
    have := Tryd.strings_Repeat a0 a1.toNat w (by omega) c.2.2
    rw [Int.toNat_of_nonneg c.1] at this
    exact this
  · rw [if_neg c] at h; exact absurd h (by simp)

/-- A made row of numbers is the call's own. -/
theorem R_ints {w : World} {base g : Nat} {l : List Int} (hb : w.heap[g]? = some (.cells ((l.map (Value.int .i64)).toArray) 3 (0, 0))) (hg : base ≤ g) (hl : l.length ≤ maxLen) :
    Kd.R (Kd.int .i64) 3 w base (fun _ => True) (.slice (some ⟨g, 0, none⟩) l.length l.length) l := by
  refine ⟨fun _ _ => trivial, l.map (Value.int .i64), ⟨by simp [Kd.int, Kd.scalar], .inr ⟨g, l.length, _, rfl, hg, hb, Nat.le_refl _, hl, by simp [Kd.int, Kd.scalar], by simp [Kd.int, Kd.scalar]; exact List.take_of_length_le (by simp)⟩⟩, by simp [Kd.int, Kd.scalar], fun j p hp => ?_⟩
  simp only [Kd.int, Kd.scalar, Nat.mul_one]
  have hj : j < l.length := (List.getElem?_eq_some_iff.1 hp).1
  have e : (l.map (Value.int .i64))[j]? = some (.int .i64 p) := by rw [List.getElem?_map, hp]; rfl
  rw [List.drop_eq_getElem_cons (by simpa using hj)]
  have := List.getElem?_eq_some_iff.1 e
  obtain ⟨h1, h2⟩ := this
  rw [h2]
  rfl

def locale_Find.f (a0 : ByteArray) : Option (ByteArray × ByteArray × ByteArray × ByteArray × ByteArray × ByteArray × ByteArray × Bool × Bool × List Int × Int) :=
  if a0 = ⟨#[99, 104]⟩ then some (⟨#[99, 104]⟩, ⟨#[46]⟩, ⟨#[226, 128, 153]⟩, ⟨#[59]⟩, ⟨#[45]⟩, ⟨#[37]⟩, ⟨#[67, 72, 70]⟩, true, true, [3], 0) else
  if a0 = ⟨#[100, 101]⟩ then some (⟨#[100, 101]⟩, ⟨#[44]⟩, ⟨#[46]⟩, ⟨#[59]⟩, ⟨#[45]⟩, ⟨#[37]⟩, ⟨#[226, 130, 172]⟩, false, true, [3], 0) else
  if a0 = ⟨#[101, 110]⟩ then some (⟨#[101, 110]⟩, ⟨#[46]⟩, ⟨#[44]⟩, ⟨#[44]⟩, ⟨#[45]⟩, ⟨#[37]⟩, ⟨#[36]⟩, true, false, [3], 0) else
  if a0 = ⟨#[102, 114]⟩ then some (⟨#[102, 114]⟩, ⟨#[44]⟩, ⟨#[226, 128, 175]⟩, ⟨#[59]⟩, ⟨#[45]⟩, ⟨#[37]⟩, ⟨#[226, 130, 172]⟩, false, true, [3], 0) else
  if a0 = ⟨#[104, 105]⟩ then some (⟨#[104, 105]⟩, ⟨#[46]⟩, ⟨#[44]⟩, ⟨#[44]⟩, ⟨#[45]⟩, ⟨#[37]⟩, ⟨#[226, 130, 185]⟩, true, false, [3, 2], 0) else
  if a0 = ⟨#[115, 118]⟩ then some (⟨#[115, 118]⟩, ⟨#[44]⟩, ⟨#[194, 160]⟩, ⟨#[59]⟩, ⟨#[226, 136, 146]⟩, ⟨#[37]⟩, ⟨#[107, 114]⟩, false, true, [3], 0) else
  some (⟨#[]⟩, ⟨#[]⟩, ⟨#[]⟩, ⟨#[]⟩, ⟨#[]⟩, ⟨#[]⟩, ⟨#[]⟩, false, false, [], 8)
theorem find_of_says {w : World} {s f0 f1 f2 f3 f4 f5 : ByteArray} {b0 b1 : Bool} {l : List Int} {e : Ending} {w' : World} (h : FindSays w s f0 f1 f2 f3 f4 f5 b0 b1 l e w') (hl : l.length ≤ maxLen) :
    ∃ v9_ : Value, e = .returned (.tuple #[.agg #[.string s, .string f0, .string f1, .string f2, .string f3, .string f4, .string f5, .bool b0, .bool b1, v9_], .int .i64 0]) ∧ Kd.R (Kd.int .i64) 3 w' w.heap.size (fun _ => True) v9_ l ∧ Below w.heap.size w w' := by
  obtain ⟨v, he, ⟨g, hv, hg, hb⟩, hB⟩ := h
  exact ⟨v, he, hv ▸ R_ints hb hg hl, hB⟩
theorem bne_list {s t : ByteArray} (h : ¬ s = t) : (t.data.toList == s.toList) = false := by
  rw [beq_eq_false_iff_ne]
  intro e
  apply h
  have e2 : t.data.toList = s.data.toList := by rw [e, ByteArray.toList_eq]
  exact (ByteArray.ext (Array.ext' e2)).symm
theorem locale_Find.calls (a0 : ByteArray) (r1 : ByteArray) (r2 : ByteArray) (r3 : ByteArray) (r4 : ByteArray) (r5 : ByteArray) (r6 : ByteArray) (r7 : ByteArray) (r8 : Bool) (r9 : Bool) (r10 : List Int) (r11 : Int) (w : World) (hGL : GL w) (h : locale_Find.f a0 = some (r1, r2, r3, r4, r5, r6, r7, r8, r9, r10, r11)) :
    Calls Tryd.prog 26 #[.string a0] w fun e w' => ∃ v9_ : Value, e = .returned (.tuple #[.agg #[.string r1, .string r2, .string r3, .string r4, .string r5, .string r6, .string r7, .bool r8, .bool r9, v9_], .int .i64 r11]) ∧ Kd.R (Kd.int .i64) 3 w' w.heap.size (fun _ => True) v9_ r10 ∧ Below w.heap.size w w' := by
  unfold locale_Find.f at h
  by_cases c0 : a0 = ⟨#[99, 104]⟩
  · rw [if_pos c0] at h
    simp only [Option.some.injEq, Prod.mk.injEq] at h
    obtain ⟨rfl, rfl, rfl, rfl, rfl, rfl, rfl, rfl, rfl, rfl, rfl⟩ := h
    subst c0
    exact (find_ch w hGL).mono fun e w' hf => find_of_says hf (by simp [maxLen])
  rw [if_neg c0] at h
  by_cases c1 : a0 = ⟨#[100, 101]⟩
  · rw [if_pos c1] at h
    simp only [Option.some.injEq, Prod.mk.injEq] at h
    obtain ⟨rfl, rfl, rfl, rfl, rfl, rfl, rfl, rfl, rfl, rfl, rfl⟩ := h
    subst c1
    exact (find_de w hGL).mono fun e w' hf => find_of_says hf (by simp [maxLen])
  rw [if_neg c1] at h
  by_cases c2 : a0 = ⟨#[101, 110]⟩
  · rw [if_pos c2] at h
    simp only [Option.some.injEq, Prod.mk.injEq] at h
    obtain ⟨rfl, rfl, rfl, rfl, rfl, rfl, rfl, rfl, rfl, rfl, rfl⟩ := h
    subst c2
    exact (find_en w hGL).mono fun e w' hf => find_of_says hf (by simp [maxLen])
  rw [if_neg c2] at h
  by_cases c3 : a0 = ⟨#[102, 114]⟩
  · rw [if_pos c3] at h
    simp only [Option.some.injEq, Prod.mk.injEq] at h
    obtain ⟨rfl, rfl, rfl, rfl, rfl, rfl, rfl, rfl, rfl, rfl, rfl⟩ := h
    subst c3
    exact (find_fr w hGL).mono fun e w' hf => find_of_says hf (by simp [maxLen])
  rw [if_neg c3] at h
  by_cases c4 : a0 = ⟨#[104, 105]⟩
  · rw [if_pos c4] at h
    simp only [Option.some.injEq, Prod.mk.injEq] at h
    obtain ⟨rfl, rfl, rfl, rfl, rfl, rfl, rfl, rfl, rfl, rfl, rfl⟩ := h
    subst c4
    exact (find_hi w hGL).mono fun e w' hf => find_of_says hf (by simp [maxLen])
  rw [if_neg c4] at h
  by_cases c5 : a0 = ⟨#[115, 118]⟩
  · rw [if_pos c5] at h
    simp only [Option.some.injEq, Prod.mk.injEq] at h
    obtain ⟨rfl, rfl, rfl, rfl, rfl, rfl, rfl, rfl, rfl, rfl, rfl⟩ := h
    subst c5
    exact (find_sv w hGL).mono fun e w' hf => find_of_says hf (by simp [maxLen])
  rw [if_neg c5] at h
  simp only [Option.some.injEq, Prod.mk.injEq] at h
  obtain ⟨rfl, rfl, rfl, rfl, rfl, rfl, rfl, rfl, rfl, rfl, rfl⟩ := h
  exact (find_none a0 w hGL (bne_list c0) (bne_list c1) (bne_list c2) (bne_list c3) (bne_list c4) (bne_list c5)).mono fun e w' ⟨he, hB⟩ => ⟨_, he, Kd.R_nil _ _ _ _ _, hB⟩
end Go.Proofs.YtmbhjogohfcjgaaDoor.L
