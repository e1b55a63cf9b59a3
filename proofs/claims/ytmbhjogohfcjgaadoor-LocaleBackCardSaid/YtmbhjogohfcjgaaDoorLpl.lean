/- The walk of decimal.plain: it tells whether a text is digits alone. -/
import Derived.Test.YtmbhjogohfcjgaaDoorL0
import Derived.Laws.RangeString
import Derived.Laws.RangeAny
import Derived.LoopTactic
import Derived.Lib.Hide
namespace Go.Proofs.YtmbhjogohfcjgaaDoor.L
open Go.RowKit

/-- A byte of '0' to '9'. -/
def isDig (c : UInt8) : Bool := 48 ≤ c.toNat && c.toNat ≤ 57
/-- All bytes are digits. -/
def allDig (s : ByteArray) : Bool := s.data.toList.all isDig

theorem allDig_of {s : ByteArray} (h : ∀ j (hj : j < s.size), isDig (s[j]'hj) = true) : allDig s = true := by
  unfold allDig
  rw [List.all_eq_true]
  intro x hx
  obtain ⟨j, hj, rfl⟩ := List.getElem_of_mem hx
  exact h j (by simpa using hj)
theorem allDig_not {s : ByteArray} {j : Nat} (hj : j < s.size) (h : isDig (s[j]'hj) = false) : allDig s = false := by
  unfold allDig
  rw [List.all_eq_false]
  refine ⟨s[j]'hj, ?_, by simp [h]⟩
  exact List.getElem_mem (l := s.data.toList) (n := j) (by simpa using hj)

set_option maxRecDepth 1000000 in
set_option maxHeartbeats 1000000 in
theorem plain_walk (s : ByteArray) (w : World) :
    Calls Tryd.prog 79 #[.string s] w fun e w' => e = .returned (.bool (allDig s)) ∧ ∃ pos, w' = w.iter s pos := by
  go_enter Tryd.func79, Tryd.ntmps79
  go_wp2
  go_loopw [2] (fun _ w' => ∃ pos : Nat, w' = w.iter s pos ∧ ∀ j (hj : j < s.size), j < pos → isDig (s[j]'hj) = true) (fun _ w' => s.size - w'.iterPos w.heap.size)
  case atStart => exact ⟨0, rfl, fun j hj h => absurd h (by omega)⟩
  case round =>
    obtain ⟨pos, rfl, hall⟩ := hrel
    have HA := Lib.hid hall
    clear hall
    by_cases hp : pos < s.size
    · by_cases ha : (s[pos]'hp).toNat < 128
      · have hnx : ∀ ty, (Instr.next (.pointer (some ⟨w.heap.size, 0, none⟩)) true ty).run Tryd.prog (w.iter s pos) = _ := fun ty => run_next_ascii w s pos ty hp ha
        by_cases hd : isDig (s[pos]'hp) = true
        · obtain ⟨c, hc⟩ : ∃ c : Nat, (s[pos]'hp).toNat = c := ⟨_, rfl⟩
          have h48 : 48 ≤ c ∧ c ≤ 57 := by rw [← hc]; simpa [isDig] using hd
          have HC := Lib.hid hc
          rw [hc] at hnx
          obtain ⟨h1, h2⟩ := h48
          clear hc ha
          have HD := Lib.hid hd
          clear hd
          go_wp2
          go_roundw
          case rel =>
            refine ⟨pos + 1, rfl, fun j hj hlt => ?_⟩
            rcases Nat.lt_or_ge j pos with h | h
            · exact HA.out j hj h
            · obtain rfl : j = pos := by omega
              exact HD.out
          case measure => simp; omega
        · have HF := Lib.hid (allDig_not hp (by simpa using hd))
          obtain ⟨c, hc⟩ : ∃ c : Nat, (s[pos]'hp).toNat = c := ⟨_, rfl⟩
          have h48 : c < 48 ∨ 57 < c := by
            rw [← hc]; simp [isDig] at hd; omega
          rw [hc] at hnx
          clear hc ha hd
          rcases h48 with h | h
          · go_wp2
            go_ret
            exact ⟨by rw [HF.out]; rfl, _, rfl⟩
          · go_wp2
            go_ret
            exact ⟨by rw [HF.out]; rfl, _, rfl⟩
      · have hnx : ∀ ty, (Instr.next (.pointer (some ⟨w.heap.size, 0, none⟩)) true ty).run Tryd.prog (w.iter s pos) = _ := fun ty => run_next_any w s pos ty hp
        have h8 : 128 ≤ (Utf8.decode s pos).1 := by
          exact (decode_high s pos hp (by omega)).1
        have HF := Lib.hid (allDig_not hp (by simp [isDig]; omega))
        obtain ⟨c, hc⟩ : ∃ c : Nat, (Utf8.decode s pos).1 = c := ⟨_, rfl⟩
        obtain ⟨q, hq⟩ : ∃ q : Nat, (Utf8.decode s pos).2 = q := ⟨_, rfl⟩
        rw [hc, hq] at hnx
        rw [hc] at h8
        clear hc hq ha
        go_wp2
        go_ret
        exact ⟨by rw [HF.out]; rfl, _, rfl⟩
    · have hnx : ∀ ty, (Instr.next (.pointer (some ⟨w.heap.size, 0, none⟩)) true ty).run Tryd.prog (w.iter s pos) = _ := fun ty => run_next_end w s pos ty hp
      have HF := Lib.hid (allDig_of fun j hj => HA.out j hj (by omega))
      go_wp2
      go_ret
      exact ⟨by rw [HF.out]; rfl, _, rfl⟩
end Go.Proofs.YtmbhjogohfcjgaaDoor.L
