/- Contracts of library functions that the print does not take, in the print's own form: utf8.DecodeRuneInString, strings.Contains, strings.Join, strings.Repeat, strings.IndexByte, strings.HasPrefix, slices.Contains. -/
import Derived.Test.YtmbhjogohfcjgaaDoorPg
import Derived.Test.YtmbhjogohfcjgaaDoorSh3
namespace Go.Proofs.YtmbhjogohfcjgaaDoor.P
open Go.RowKit Go.Proofs.YtmbhjogohfcjgaaDoorW.PrintWords
def utf8_DecodeRuneInString.f (a0 : ByteArray) : Option (Int × Int) := some (((Lib.decodeGo a0).1 : Int), ((Lib.decodeGo a0).2 : Int))
theorem utf8_DecodeRuneInString.calls (a0 : ByteArray) (r1 : Int) (r2 : Int) (w : World) (hGL : GL w) (h : utf8_DecodeRuneInString.f a0 = some (r1, r2)) :
  Calls Tryd.prog 102 #[.string a0] w fun e w' => e = .returned (.tuple #[.int .i32 r1, .int .i64 r2]) ∧ Below w.heap.size w w' := by
 have h := Option.some.inj h
 obtain ⟨rfl, rfl⟩ := Prod.mk.inj h
 exact Tryd.utf8_DecodeRuneInString a0 w hGL.tabs
theorem utf8_DecodeRuneInString.calls_any (a0 : ByteArray) (w : World) (hGL : GL w) :
  Calls Tryd.prog 102 #[.string a0] w fun e w' => e = .returned (.tuple #[.int .i32 ((Lib.decodeGo a0).1 : Int), .int .i64 ((Lib.decodeGo a0).2 : Int)]) ∧ Below w.heap.size w w' :=
 Tryd.utf8_DecodeRuneInString a0 w hGL.tabs
def strings_Contains.f (a0 : ByteArray) (a1 : ByteArray) : Option (Bool) := if a0.size < 4294967281 then some (Lib.contains a0.data.toList a1.data.toList) else none
theorem strings_Contains.calls (a0 : ByteArray) (a1 : ByteArray) (r : Bool) (w : World) (hGL : GL w) (h : strings_Contains.f a0 a1 = some r) :
  Calls Tryd.prog 115 #[.string a0, .string a1] w fun e w' => e = .returned (.bool r) ∧ Below w.heap.size w w' := by
 unfold strings_Contains.f at h
 by_cases c : a0.size < 4294967281
 ·rw [if_pos c] at h
  obtain rfl := Option.some.inj h
  obtain ⟨m, hm⟩ := hGL.m
  exact (Tryd.strings_Contains a0 a1 m w c hm).mono fun e w' ⟨he, hw⟩ => ⟨he, hw ▸ Below.refl _ _⟩
 ·rw [if_neg c] at h; exact absurd h (by simp)
theorem plain_addr {w : World} {ad : Addr} {v : Value} (h : w.cell? ad = some v) : ad = ⟨ad.block, ad.off, none⟩ := by
 obtain ⟨b, o, s⟩ := ad
 cases s with
 | none => rfl
 | some s =>
  exfalso
  simp only [World.cell?] at h
  split at h <;> simp_all
def strings_Join.f (l0 : List ByteArray) (a1 : ByteArray) : Option (ByteArray) :=
 if l0.length ≤ 140737488355328 ∧ (Lib.join (l0.map (·.data.toList)) a1.data.toList).length ≤ 140737488355328 then some ⟨(Lib.join (l0.map (·.data.toList)) a1.data.toList).toArray⟩ else none
theorem strings_Join.calls (A0 : Option Addr) (c0 : Nat) (l0 : List ByteArray) (a1 : ByteArray) (r : ByteArray) (w : World) (hr0 : Kd.C Kd.string w A0 l0.length l0) (hc0 : l0.length ≤ c0) (h : strings_Join.f l0 a1 = some r) :
  Calls Tryd.prog 63 #[.slice A0 l0.length c0, .string a1] w fun e w' => e = .returned (.string r) ∧ Below w.heap.size w w' := by
 unfold strings_Join.f at h
 by_cases c : l0.length ≤ 140737488355328 ∧ (Lib.join (l0.map (·.data.toList)) a1.data.toList).length ≤ 140737488355328
 ·rw [if_pos c] at h
  obtain rfl := Option.some.inj h
  rcases Nat.eq_zero_or_pos l0.length with h0 | h0
  ·obtain rfl := List.eq_nil_of_length_eq_zero h0
   exact (Tryd.strings_Join_none A0 c0 a1 w).mono fun e w' ⟨he, hw⟩ => ⟨he, hw ▸ Below.refl _ _⟩
  ·obtain ⟨ad, rfl, hc⟩ := hr0.2.2 h0
   have hcell : ∀ (j : Nat) x, l0[j]? = some x → w.cell? (ad.add j) = some (.string x) := fun j x hj => by
    obtain ⟨c, hl, hR, hcc⟩ := hc j x hj
    have hR : c = [.string x] := hR
    subst hR
    have := hcc 0 _ rfl
    rwa [show Kd.string.sz = 1 from rfl, Nat.mul_one, Nat.add_zero] at this
   have h00 := hcell 0 _ (List.getElem?_eq_getElem h0)
   have hp : ad = ⟨ad.block, ad.off, none⟩ := plain_addr (by simpa [Addr.add] using h00)
   have hbk : ad.block < w.heap.size := World.block_lt_of_cell? w ad (by simpa [Addr.add] using h00)
   rw [hp]
   refine Tryd.strings_Join ad.block ad.off c0 l0 a1 w (fun j x hj => ?_) hbk c.1 hc0 c.2
   have := hcell j x hj
   rw [hp] at this
   unfold Addr.add at this
   split at this
   ·rename_i hz
    subst hz
    exact this
   ·exact this
 ·rw [if_neg c] at h; exact absurd h (by simp)
def strings_Repeat.f (a0 : ByteArray) (a1 : Int) : Option (ByteArray) :=
 if 0 ≤ a1 ∧ a1 ≤ 9223372036854775807 ∧ a0.size * a1.toNat ≤ 140737488355328 then some ⟨(Lib.repeatL a0.data.toList a1.toNat).toArray⟩ else none
theorem strings_Repeat.calls (a0 : ByteArray) (a1 : Int) (r : ByteArray) (w : World) (h : strings_Repeat.f a0 a1 = some r) :
  Calls Tryd.prog 78 #[.string a0, .int .i64 a1] w fun e w' => e = .returned (.string r) ∧ Below w.heap.size w w' := by
 unfold strings_Repeat.f at h
 by_cases c : 0 ≤ a1 ∧ a1 ≤ 9223372036854775807 ∧ a0.size * a1.toNat ≤ 140737488355328
 ·rw [if_pos c] at h
  obtain rfl := Option.some.inj h
  have := Tryd.strings_Repeat a0 a1.toNat w (by omega) c.2.2
  rw [Int.toNat_of_nonneg c.1] at this
  exact this
 ·rw [if_neg c] at h; exact absurd h (by simp)
def hasInt (l : List Int) (x : Int) : Bool := l.contains x
theorem slices_Contains.calls (A0 : Option Addr) (c0 : Nat) (l0 : List Int) (x : Int) (w : World) (hr0 : Kd.C (Kd.int .i64) w A0 l0.length l0) :
  Calls Tryd.prog 112 #[.slice A0 l0.length c0, .int .i64 x] w fun e w' => e = .returned (.bool (hasInt l0 x)) ∧ w = w' := by
 rcases Nat.eq_zero_or_pos l0.length with h0 | h0
 ·obtain rfl := List.eq_nil_of_length_eq_zero h0
  exact (Tryd.slices_Contains_int_empty A0 c0 x w).mono fun e w' ⟨he, hw⟩ => ⟨by simpa [hasInt] using he, hw.symm⟩
 ·obtain ⟨ad, rfl, hc⟩ := hr0.2.2 h0
  have hcell : ∀ (j : Nat) x, l0[j]? = some x → w.cell? (ad.add j) = some (.int .i64 x) := fun j x hj => by
   obtain ⟨c, hl, hR, hcc⟩ := hc j x hj
   have hR : c = [.int .i64 x] := hR
   subst hR
   have := hcc 0 _ rfl
   rwa [show (Kd.int .i64).sz = 1 from rfl, Nat.mul_one, Nat.add_zero] at this
  have h00 := hcell 0 _ (List.getElem?_eq_getElem h0)
  have hp : ad = ⟨ad.block, ad.off, none⟩ := plain_addr (by simpa [Addr.add] using h00)
  rw [hp]
  refine (Tryd.slices_Contains_int ad.block ad.off l0.length c0 l0 x w (Nat.le_refl _) hr0.2.1 (fun j hj => ?_)).mono fun e w' ⟨he, hw⟩ => ⟨by simpa [hasInt] using he, hw.symm⟩
  have := hcell j _ (List.getElem?_eq_getElem hj)
  rw [hp] at this
  rw [List.getD_eq_getElem?_getD, List.getElem?_eq_getElem hj]
  unfold Addr.add at this
  split at this
  ·rename_i hz
   subst hz
   exact this
  ·exact this
end Go.Proofs.YtmbhjogohfcjgaaDoor.P
