/- What the document shows, what find tells, and what is grouped: for all the laws of the locales. -/
import Derived.Test.YtmbhjogohfcjgaaDoorLm3
import Derived.Test.YtmbhjogohfcjgaaDoorL11
import Derived.Test.YtmbhjogohfcjgaaDoorLg
namespace Go.Proofs.YtmbhjogohfcjgaaDoor.Lm
open Go.RowKit Go.Proofs.YtmbhjogohfcjgaaDoorW.PrintWords Go.Proofs.YtmbhjogohfcjgaaDoorW.PrintLast Go.Proofs.YtmbhjogohfcjgaaDoorW.PrintMore Go.Proofs.YtmbhjogohfcjgaaDoor.L
set_option linter.unusedVariables false
set_option linter.unusedSimpArgs false

theorem shown_60 : tabardlaw11_shown.f 60 = some true := by kernel_rfl
theorem shown_big {k : Nat} (hk : 60 ≤ k) : tabardlaw11_shown.f k = some true :=
  at_rounds (g := fun k => tabardlaw11_shown.f k) (fun k => tabardlaw11_shown.mono k) hk shown_60

theorem pick6 (a : Int) (hlo : -9223372036854775808 ≤ a) (hhi : a ≤ 9223372036854775807) : ∃ p : Nat, p < 6 ∧ tabardlaw11_pick.f a 6 = some (p : Int) := by
  unfold tabardlaw11_pick.f
  by_cases h : a < 0
  · rw [if_pos h, if_neg (by decide)]
    have e1 : wrap64 (a + 1) = a + 1 := by unfold wrap64; omega
    have e2 : wrap64 (-(a + 1)) = -(a + 1) := by unfold wrap64; omega
    rw [e1, e2]
    obtain ⟨n, hn⟩ : ∃ n : Nat, -(a + 1) = n := ⟨(-(a + 1)).toNat, by omega⟩
    rw [hn]
    exact ⟨n % 6, Nat.mod_lt _ (by decide), rfl⟩
  · rw [if_neg h, if_neg (by decide)]
    obtain ⟨n, hn⟩ : ∃ n : Nat, a = n := ⟨a.toNat, by omega⟩
    rw [hn]
    exact ⟨n % 6, Nat.mod_lt _ (by decide), rfl⟩

/-- What find tells: a locale whose marks and sizes are those of a right one, and the reference's row of it. -/
def Right (a : Int) (Q : ByteArray → ByteArray → ByteArray → ByteArray → ByteArray → ByteArray → ByteArray → Bool → Bool → List Int → Nat → Prop) : Prop :=
  ∃ f0 f1 G f3 f4 f5 f6 b0 b1 l sec, Szs l sec ∧ Gm G ∧ tabardlaw11_find.f a = some (f0, f1, G, f3, f4, f5, f6, b0, b1, l, f0, f1, G, f3, f4, f5, f6, b0, b1, (sec : Int)) ∧ Q f0 f1 G f3 f4 f5 f6 b0 b1 l sec

/-- The six's signs, as far as the laws need them. -/
def Six (f0 f1 G f3 f4 f5 f6 : ByteArray) (b0 b1 : Bool) (l : List Int) (sec : Nat) : Prop :=
  (f1 = ⟨#[46]⟩ ∨ f1 = ⟨#[44]⟩) ∧ (G = ⟨#[226, 128, 153]⟩ ∨ G = ⟨#[46]⟩ ∨ G = ⟨#[44]⟩ ∨ G = ⟨#[226, 128, 175]⟩ ∨ G = ⟨#[194, 160]⟩) ∧ f1 ≠ G ∧ (f4 = ⟨#[45]⟩ ∨ f4 = ⟨#[226, 136, 146]⟩) ∧ f6.size ≤ 3

theorem gm_of {b : UInt8} {r : List UInt8} (h : isDig b = false) (hl : r.length ≤ 2) : Gm (tx (b :: r)) := by
  have e : by_ (tx (b :: r)) = b :: r := rfl
  refine ⟨by rw [← by_len, e]; simp, by rw [← by_len, e]; simp; omega, fun c t hc => ?_⟩
  rw [e] at hc
  injection hc with h1 _
  rw [← h1]; exact h

theorem find_right (a : Int) (hlo : -9223372036854775808 ≤ a) (hhi : a ≤ 9223372036854775807) : Right a Six := by
  obtain ⟨p, hp, he⟩ := pick6 a hlo hhi
  unfold Right tabardlaw11_find.f
  rw [he]
  have h6 : p = 0 ∨ p = 1 ∨ p = 2 ∨ p = 3 ∨ p = 4 ∨ p = 5 := by omega
  rcases h6 with rfl | rfl | rfl | rfl | rfl | rfl
  · exact ⟨_, _, _, _, _, _, _, _, _, _, 3, .inl ⟨rfl, rfl⟩, gm_of (by decide) (by decide), rfl, .inl rfl, .inl rfl, by decide, .inl rfl, by decide⟩
  · exact ⟨_, _, _, _, _, _, _, _, _, _, 3, .inl ⟨rfl, rfl⟩, gm_of (by decide) (by decide), rfl, .inr rfl, .inr (.inl rfl), by decide, .inl rfl, by decide⟩
  · exact ⟨_, _, _, _, _, _, _, _, _, _, 3, .inl ⟨rfl, rfl⟩, gm_of (by decide) (by decide), rfl, .inl rfl, .inr (.inr (.inl rfl)), by decide, .inl rfl, by decide⟩
  · exact ⟨_, _, _, _, _, _, _, _, _, _, 3, .inl ⟨rfl, rfl⟩, gm_of (by decide) (by decide), rfl, .inr rfl, .inr (.inr (.inr (.inl rfl))), by decide, .inl rfl, by decide⟩
  · exact ⟨_, _, _, _, _, _, _, _, _, _, 2, .inr ⟨rfl, rfl⟩, gm_of (by decide) (by decide), rfl, .inl rfl, .inr (.inr (.inl rfl)), by decide, .inl rfl, by decide⟩
  · exact ⟨_, _, _, _, _, _, _, _, _, _, 3, .inl ⟨rfl, rfl⟩, gm_of (by decide) (by decide), rfl, .inr rfl, .inr (.inr (.inr (.inr rfl))), by decide, .inr rfl, by decide⟩

theorem grp_len (g : List UInt8) (sec off : Nat) : ∀ (f : Bool) (d : List UInt8), (grp g sec off f d).length ≤ d.length * (g.length + 1) := by
  intro f d
  induction d generalizing f with
  | nil => simp [grp]
  | cons c t ih =>
    simp only [grp, List.length_append, List.length_cons, Nat.add_mul, Nat.one_mul]
    have := ih false
    have h2 : (if (!f && mark sec (t.length + 1 + off)) = true then g else []).length ≤ g.length := by split <;> simp
    simp only [Nat.mul_add, Nat.mul_one] at this ⊢
    omega

theorem prog_grouped_f {l : List Int} {sec : Nat} (h : Szs l sec) (f0 f1 G f3 f4 f5 f6 : ByteArray) (b0 b1 : Bool) (hG : Gm G) (x : ByteArray) (hx : x.size ≤ 900000) (k : Nat) (hk : x.size + 1 ≤ k) :
    locale_Locale_Grouped.f k f0 f1 G f3 f4 f5 f6 b0 b1 l x = some (tx (grp (by_ G) sec 0 true (by_ x))) := by
  have := prog_grouped h f0 f1 G f3 f4 f5 f6 b0 b1 hG.le k 0 x ⟨#[]⟩ (by omega) (by show _ + 0 ≤ _; omega) (by omega)
  unfold locale_Locale_Grouped.f
  rw [show (0 : Int) = ((0 : Nat) : Int) from rfl, this, cutg_eq _ _ h.pos.1 _ _ _ _ (by rw [by_len]; omega)]
  show some (tx (grp _ _ 0 true _ ++ [])) = _
  rw [List.append_nil]
theorem ref_grouped_f {sec : Nat} (h0 : 0 < sec) (h3 : sec ≤ 3) (f0 f1 G f3 f4 f5 f6 : ByteArray) (b0 b1 : Bool) (hG : Gm G) (x : ByteArray) (hx : x.size ≤ 900000) (k : Nat) (hk : x.size + 1 ≤ k) :
    tabardref11_Locale_Grouped.f k f0 f1 G f3 f4 f5 f6 b0 b1 (sec : Int) x = some (tx (grp (by_ G) sec 0 true (by_ x))) := by
  have := ref_grouped h0 h3 f0 f1 G f3 f4 f5 f6 b0 b1 hG.le x.size k 0 x ⟨#[]⟩ (by omega) (by omega) (by omega) (by omega) (by show 0 + _ ≤ _; omega)
  unfold tabardref11_Locale_Grouped.f
  rw [show (0 : Int) = ((0 : Nat) : Int) from rfl, this]
  rfl

end Go.Proofs.YtmbhjogohfcjgaaDoor.Lm
