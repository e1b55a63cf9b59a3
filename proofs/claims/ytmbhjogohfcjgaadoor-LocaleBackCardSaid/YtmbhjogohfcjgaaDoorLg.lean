/- The contract of the law's find, in the print's own form. -/
import Derived.Test.YtmbhjogohfcjgaaDoorLlfch
import Derived.Test.YtmbhjogohfcjgaaDoorLlfde
import Derived.Test.YtmbhjogohfcjgaaDoorLlfen
import Derived.Test.YtmbhjogohfcjgaaDoorLlffr
import Derived.Test.YtmbhjogohfcjgaaDoorLlfhi
import Derived.Test.YtmbhjogohfcjgaaDoorLlfsv
namespace Go.Proofs.YtmbhjogohfcjgaaDoor.L
open Go.RowKit Go.Proofs.YtmbhjogohfcjgaaDoorW.PrintWords Go.Proofs.YtmbhjogohfcjgaaDoorW.PrintLast Go.Proofs.YtmbhjogohfcjgaaDoorW.PrintMore
set_option linter.unusedVariables false
def tabardlaw11_find.f (a0 : Int) : Option (ByteArray × ByteArray × ByteArray × ByteArray × ByteArray × ByteArray × ByteArray × Bool × Bool × List Int × ByteArray × ByteArray × ByteArray × ByteArray × ByteArray × ByteArray × ByteArray × Bool × Bool × Int) :=
  (tabardlaw11_pick.f a0 6).bind fun p =>
    if p = 0 then some (⟨#[99, 104]⟩, ⟨#[46]⟩, ⟨#[226, 128, 153]⟩, ⟨#[59]⟩, ⟨#[45]⟩, ⟨#[37]⟩, ⟨#[67, 72, 70]⟩, true, true, [3], ⟨#[99, 104]⟩, ⟨#[46]⟩, ⟨#[226, 128, 153]⟩, ⟨#[59]⟩, ⟨#[45]⟩, ⟨#[37]⟩, ⟨#[67, 72, 70]⟩, true, true, 3) else
    if p = 1 then some (⟨#[100, 101]⟩, ⟨#[44]⟩, ⟨#[46]⟩, ⟨#[59]⟩, ⟨#[45]⟩, ⟨#[37]⟩, ⟨#[226, 130, 172]⟩, false, true, [3], ⟨#[100, 101]⟩, ⟨#[44]⟩, ⟨#[46]⟩, ⟨#[59]⟩, ⟨#[45]⟩, ⟨#[37]⟩, ⟨#[226, 130, 172]⟩, false, true, 3) else
    if p = 2 then some (⟨#[101, 110]⟩, ⟨#[46]⟩, ⟨#[44]⟩, ⟨#[44]⟩, ⟨#[45]⟩, ⟨#[37]⟩, ⟨#[36]⟩, true, false, [3], ⟨#[101, 110]⟩, ⟨#[46]⟩, ⟨#[44]⟩, ⟨#[44]⟩, ⟨#[45]⟩, ⟨#[37]⟩, ⟨#[36]⟩, true, false, 3) else
    if p = 3 then some (⟨#[102, 114]⟩, ⟨#[44]⟩, ⟨#[226, 128, 175]⟩, ⟨#[59]⟩, ⟨#[45]⟩, ⟨#[37]⟩, ⟨#[226, 130, 172]⟩, false, true, [3], ⟨#[102, 114]⟩, ⟨#[44]⟩, ⟨#[226, 128, 175]⟩, ⟨#[59]⟩, ⟨#[45]⟩, ⟨#[37]⟩, ⟨#[226, 130, 172]⟩, false, true, 3) else
    if p = 4 then some (⟨#[104, 105]⟩, ⟨#[46]⟩, ⟨#[44]⟩, ⟨#[44]⟩, ⟨#[45]⟩, ⟨#[37]⟩, ⟨#[226, 130, 185]⟩, true, false, [3, 2], ⟨#[104, 105]⟩, ⟨#[46]⟩, ⟨#[44]⟩, ⟨#[44]⟩, ⟨#[45]⟩, ⟨#[37]⟩, ⟨#[226, 130, 185]⟩, true, false, 2) else
    if p = 5 then some (⟨#[115, 118]⟩, ⟨#[44]⟩, ⟨#[194, 160]⟩, ⟨#[59]⟩, ⟨#[226, 136, 146]⟩, ⟨#[37]⟩, ⟨#[107, 114]⟩, false, true, [3], ⟨#[115, 118]⟩, ⟨#[44]⟩, ⟨#[194, 160]⟩, ⟨#[59]⟩, ⟨#[226, 136, 146]⟩, ⟨#[37]⟩, ⟨#[107, 114]⟩, false, true, 3) else
    none
theorem lawfind_of_says {w : World} {s f0 f1 f2 f3 f4 f5 : ByteArray} {b0 b1 : Bool} {l : List Int} {k : Int} {e : Ending} {w' : World} (h : LawFinds w s f0 f1 f2 f3 f4 f5 b0 b1 l k e w') (hl : l.length ≤ maxLen) :
    ∃ v9_ : Value, e = .returned (.tuple #[.agg #[.string s, .string f0, .string f1, .string f2, .string f3, .string f4, .string f5, .bool b0, .bool b1, v9_], .agg #[.string s, .string f0, .string f1, .string f2, .string f3, .string f4, .string f5, .bool b0, .bool b1, .int .i64 k]]) ∧ Kd.R (Kd.int .i64) 3 w' w.heap.size (fun _ => True) v9_ l ∧ Below w.heap.size w w' := by
  obtain ⟨v, he, ⟨g, hv, hg, hb⟩, hB⟩ := h
  exact ⟨v, he, hv ▸ R_ints hb hg hl, hB⟩
theorem tabardlaw11_find.calls (a0 : Int) (r1 : ByteArray) (r2 : ByteArray) (r3 : ByteArray) (r4 : ByteArray) (r5 : ByteArray) (r6 : ByteArray) (r7 : ByteArray) (r8 : Bool) (r9 : Bool) (r10 : List Int) (r11 : ByteArray) (r12 : ByteArray) (r13 : ByteArray) (r14 : ByteArray) (r15 : ByteArray) (r16 : ByteArray) (r17 : ByteArray) (r18 : Bool) (r19 : Bool) (r20 : Int) (w : World) (hGL : GL w) (h : tabardlaw11_find.f a0 = some (r1, r2, r3, r4, r5, r6, r7, r8, r9, r10, r11, r12, r13, r14, r15, r16, r17, r18, r19, r20)) :
    Calls Tryd.prog 11 #[.int .i64 a0] w fun e w' => ∃ v9_ : Value, e = .returned (.tuple #[.agg #[.string r1, .string r2, .string r3, .string r4, .string r5, .string r6, .string r7, .bool r8, .bool r9, v9_], .agg #[.string r11, .string r12, .string r13, .string r14, .string r15, .string r16, .string r17, .bool r18, .bool r19, .int .i64 r20]]) ∧ Kd.R (Kd.int .i64) 3 w' w.heap.size (fun _ => True) v9_ r10 ∧ Below w.heap.size w w' := by
  unfold tabardlaw11_find.f at h
  obtain ⟨p, hp, h⟩ := Option.bind_eq_some_iff.mp h
  by_cases c0 : p = 0
  · rw [if_pos c0] at h
    simp only [Option.some.injEq, Prod.mk.injEq] at h
    obtain ⟨rfl, rfl, rfl, rfl, rfl, rfl, rfl, rfl, rfl, rfl, rfl, rfl, rfl, rfl, rfl, rfl, rfl, rfl, rfl, rfl⟩ := h
    subst c0
    exact (lawfind_ch a0 w hGL hp).mono fun e w' hf => lawfind_of_says hf (by simp [maxLen])
  rw [if_neg c0] at h
  by_cases c1 : p = 1
  · rw [if_pos c1] at h
    simp only [Option.some.injEq, Prod.mk.injEq] at h
    obtain ⟨rfl, rfl, rfl, rfl, rfl, rfl, rfl, rfl, rfl, rfl, rfl, rfl, rfl, rfl, rfl, rfl, rfl, rfl, rfl, rfl⟩ := h
    subst c1
    exact (lawfind_de a0 w hGL hp).mono fun e w' hf => lawfind_of_says hf (by simp [maxLen])
  rw [if_neg c1] at h
  by_cases c2 : p = 2
  · rw [if_pos c2] at h
    simp only [Option.some.injEq, Prod.mk.injEq] at h
    obtain ⟨rfl, rfl, rfl, rfl, rfl, rfl, rfl, rfl, rfl, rfl, rfl, rfl, rfl, rfl, rfl, rfl, rfl, rfl, rfl, rfl⟩ := h
    subst c2
    exact (lawfind_en a0 w hGL hp).mono fun e w' hf => lawfind_of_says hf (by simp [maxLen])
  rw [if_neg c2] at h
  by_cases c3 : p = 3
  · rw [if_pos c3] at h
    simp only [Option.some.injEq, Prod.mk.injEq] at h
    obtain ⟨rfl, rfl, rfl, rfl, rfl, rfl, rfl, rfl, rfl, rfl, rfl, rfl, rfl, rfl, rfl, rfl, rfl, rfl, rfl, rfl⟩ := h
    subst c3
    exact (lawfind_fr a0 w hGL hp).mono fun e w' hf => lawfind_of_says hf (by simp [maxLen])
  rw [if_neg c3] at h
  by_cases c4 : p = 4
  · rw [if_pos c4] at h
    simp only [Option.some.injEq, Prod.mk.injEq] at h
    obtain ⟨rfl, rfl, rfl, rfl, rfl, rfl, rfl, rfl, rfl, rfl, rfl, rfl, rfl, rfl, rfl, rfl, rfl, rfl, rfl, rfl⟩ := h
    subst c4
    exact (lawfind_hi a0 w hGL hp).mono fun e w' hf => lawfind_of_says hf (by simp [maxLen])
  rw [if_neg c4] at h
  by_cases c5 : p = 5
  · rw [if_pos c5] at h
    simp only [Option.some.injEq, Prod.mk.injEq] at h
    obtain ⟨rfl, rfl, rfl, rfl, rfl, rfl, rfl, rfl, rfl, rfl, rfl, rfl, rfl, rfl, rfl, rfl, rfl, rfl, rfl, rfl⟩ := h
    subst c5
    exact (lawfind_sv a0 w hGL hp).mono fun e w' hf => lawfind_of_says hf (by simp [maxLen])
  rw [if_neg c5] at h
  exact absurd h (by simp)
end Go.Proofs.YtmbhjogohfcjgaaDoor.L
