/- Plain laws: sections and same, of which PatternJoins asks. -/
import Derived.Test.YtmbhjogohfcjgaaDoorP8
import Derived.Test.YtmbhjogohfcjgaaDoorP9
namespace Go.Proofs.YtmbhjogohfcjgaaDoor.P
open Go.RowKit Go.Proofs.YtmbhjogohfcjgaaDoorW.PrintWords Go.Proofs.YtmbhjogohfcjgaaDoorW.PrintMore
set_option linter.unusedVariables false
set_option linter.unusedSimpArgs false

theorem jw {n : Int} (h : -4000000000000 ≤ n ∧ n ≤ 4000000000000) : wrap64 n = n := by unfold wrap64; omega
theorem jbs {α β : Type} {x : Option α} {a : α} (h : x = some a) (f : α → Option β) : x.bind f = f a := by subst h; rfl
def cj (x : S88) : S98 := ⟨x.f0, x.f1⟩
def sj (s : S62) : S66 := ⟨s.f0.map cj, s.f1, s.f2⟩
theorem rd_cj (l : List S88) (i : Int) : rd_T98 (l.map cj) i = cj (rd_T88 l i) := by
  unfold rd_T98 rd_T88
  rw [List.getD_eq_getElem?_getD, List.getD_eq_getElem?_getD, List.getElem?_map]
  cases l[i.toNat]? <;> rfl
theorem rd_sj (l : List S62) (i : Int) : rd_T66 (l.map sj) i = sj (rd_T62 l i) := by
  unfold rd_T66 rd_T62
  rw [List.getD_eq_getElem?_getD, List.getD_eq_getElem?_getD, List.getElem?_map]
  cases l[i.toNat]? <;> rfl
theorem jget1 {l : List S88} {j : Nat} (hj : j < l.length) : rd_T88 l (j : Int) = l[j] := by
  unfold rd_T88
  rw [Int.toNat_natCast, List.getD_eq_getElem?_getD, List.getElem?_eq_getElem hj]; rfl
theorem jgets {l : List S62} {j : Nat} (hj : j < l.length) : rd_T62 l (j : Int) = l[j] := by
  unfold rd_T62
  rw [Int.toNat_natCast, List.getD_eq_getElem?_getD, List.getElem?_eq_getElem hj]; rfl
theorem jsection_l0 (l : List S88) (b : Bool) (sc : Int) (hl : l.length ≤ 1000000) : ∀ (d j k : Nat), l.length - j = d → j ≤ l.length → d < k → tabardlaw13_section.l0 k ((l.take j).map cj) j l b sc = some (l.map cj, b, sc)
  | 0, j, k, hd, hj, hk => by
    obtain ⟨k, rfl⟩ : ∃ k', k = k' + 1 := ⟨k - 1, by omega⟩
    rw [tabardlaw13_section.l0, if_neg (by omega : ¬ (j : Int) < (l.length : Int)), List.take_of_length_le (by omega)]
  | d + 1, j, k, hd, hj, hk => by
    obtain ⟨k, rfl⟩ : ∃ k', k = k' + 1 := ⟨k - 1, by omega⟩
    have hlt : j < l.length := by omega
    have e1 : ((j : Int) + 1) = ((j + 1 : Nat) : Int) := rfl
    have hlen : ((l.take j).map cj).length < 5864062014805 := by rw [List.length_map, List.length_take]; omega
    have hacc : (l.take j).map cj ++ [(⟨(l[j]).f0, (l[j]).f1⟩ : S98)] = (l.take (j + 1)).map cj := by rw [List.take_succ_eq_append_getElem hlt, List.map_append]; rfl
    rw [tabardlaw13_section.l0, if_pos (by omega : (j : Int) < (l.length : Int)), if_pos (by omega : (0 : Int) ≤ (j : Int)), if_pos hlen, jget1 hlt, jw (n := (j : Int) + 1) (by omega), e1, hacc, jsection_l0 l b sc hl d (j + 1) k (by omega) (by omega) (by omega)]
theorem jsections_one (a : S62) (ha : a.f0.length ≤ 1000000) (k : Nat) (hk : a.f0.length + 2 < k) : tabardlaw13_sections.f k [a] = some [sj a] := by
  obtain ⟨k, rfl⟩ : ∃ k', k = k' + 1 + 1 := ⟨k - 2, by omega⟩
  have hs : tabardlaw13_section.f (k + 1) a.f0 a.f1 a.f2 = some (a.f0.map cj, a.f1, a.f2) := by
    unfold tabardlaw13_section.f
    exact jsection_l0 a.f0 a.f1 a.f2 ha a.f0.length 0 (k + 1) (by omega) (by omega) (by omega)
  unfold tabardlaw13_sections.f
  rw [tabardlaw13_sections.l0, if_pos (show (0 : Int) < (([a].length : Nat) : Int) by simp), if_pos (by omega), show rd_T62 [a] 0 = a from rfl, jbs hs, if_pos (by simp), jw (n := (0 : Int) + 1) (by omega), tabardlaw13_sections.l0, if_neg (by simp)]
  rfl
/-- What is compared with itself is the same. -/
theorem jsame_l1 (L : List S62) (hn : L.length ≤ 100) (j : Nat) (hj : j < L.length) (hl : (L[j]).f0.length ≤ 1000000) (q : Nat) (H : tabardlaw13_same.l0 q (L.map sj) ((j + 1 : Nat) : Int) L = some true) :
    ∀ (d i : Nat), (L[j]).f0.length - i = d → i ≤ (L[j]).f0.length → tabardlaw13_same.l1 (q + d + 1) (L.map sj) j i L (L[j]).f0 (L[j]).f1 (L[j]).f2 = some true
  | 0, i, hd, hi => by
    rw [Nat.add_zero, tabardlaw13_same.l1, if_neg (by omega), jw (n := (j : Int) + 1) (by omega)]; exact H
  | d + 1, i, hd, hi => by
    have e1 : ((i : Int) + 1) = ((i + 1 : Nat) : Int) := rfl
    have e2 : ((rd_T66 (L.map sj) (j : Int)).f0.length : Int) = ((L[j]).f0.length : Int) := by rw [rd_sj, jgets hj]; show (((L[j]).f0.map cj).length : Int) = _; rw [List.length_map]
    have e3 : rd_T98 (rd_T66 (L.map sj) (j : Int)).f0 (i : Int) = cj (rd_T88 (L[j]).f0 (i : Int)) := by rw [rd_sj, jgets hj]; exact rd_cj _ _
    rw [show q + (d + 1) + 1 = (q + d + 1) + 1 from rfl, tabardlaw13_same.l1, List.length_map, e2, e3, if_pos (by omega), if_pos (by omega), if_pos (by omega), if_pos (by omega), if_pos (by omega), if_pos (show (rd_T88 (L[j]).f0 (i : Int)).f0 = (cj (rd_T88 (L[j]).f0 (i : Int))).f0 from rfl), if_pos (show (rd_T88 (L[j]).f0 (i : Int)).f1.toList = (cj (rd_T88 (L[j]).f0 (i : Int))).f1.toList from rfl), jw (n := (i : Int) + 1) (by omega), e1]
    exact jsame_l1 L hn j hj hl q H d (i + 1) (by omega) (by omega)
theorem jsame_l0 (L : List S62) (hn : L.length ≤ 100) (hS : ∀ s ∈ L, s.f0.length ≤ 1000000) : ∀ (d j : Nat), L.length - j = d → j ≤ L.length → ∃ k, k ≤ d * 1000010 + 1 ∧ tabardlaw13_same.l0 k (L.map sj) j L = some true
  | 0, j, hd, hj => ⟨1, by omega, by rw [tabardlaw13_same.l0, List.length_map, if_neg (by omega)]⟩
  | d + 1, j, hd, hj => by
    have hlt : j < L.length := by omega
    have hl := hS _ (List.getElem_mem hlt)
    obtain ⟨q, hq, H⟩ := jsame_l0 L hn hS d (j + 1) (by omega) (by omega)
    have h1 := jsame_l1 L hn j hlt hl q H (L[j]).f0.length 0 (by omega) (by omega)
    refine ⟨q + (L[j]).f0.length + 1 + 1 + 1, by omega, ?_⟩
    have hne : ((L[j]).f1 != (rd_T66 (L.map sj) (j : Int)).f1) = false := by rw [rd_sj, jgets hlt]; exact bne_self_eq_false _
    have h2 : (L[j]).f2 = (rd_T66 (L.map sj) (j : Int)).f2 := by rw [rd_sj, jgets hlt]; rfl
    have e2 : ((rd_T66 (L.map sj) (j : Int)).f0.length : Int) = ((L[j]).f0.length : Int) := by rw [rd_sj, jgets hlt]; show (((L[j]).f0.map cj).length : Int) = _; rw [List.length_map]
    rw [tabardlaw13_same.l0, List.length_map, if_pos (by omega), if_pos (by omega), if_pos (by omega), jgets hlt, hne, if_neg (by simp), if_pos h2, e2, bne_self_eq_false, tabardlaw13_same.j1, if_neg (by simp)]
    exact h1
theorem jsame_two (a b : S62) (ha : a.f0.length ≤ 1000000) (hb : b.f0.length ≤ 1000000) : ∃ k, tabardlaw13_same.f k [a, b] ([sj a] ++ [sj b]) = some true := by
  obtain ⟨k, _, hk⟩ := jsame_l0 [a, b] (by show 2 ≤ 100; decide) (fun s hs => by
    rcases List.mem_cons.1 hs with rfl | hs
    · exact ha
    · rw [List.mem_singleton.1 hs]; exact hb) 2 0 rfl (Nat.zero_le _)
  refine ⟨k, ?_⟩
  unfold tabardlaw13_same.f
  rw [if_pos (by rfl)]
  exact hk
end Go.Proofs.YtmbhjogohfcjgaaDoor.P
