/- LocaleFinds, walked by hand: the loop's round once, for whichever of the six. -/
import Derived.Test.YtmbhjogohfcjgaaDoorLma
import Derived.Test.YtmbhjogohfcjgaaDoorL12
import Derived.Test.YtmbhjogohfcjgaaDoorLn
import Derived.Outline
import Derived.RegionTactic
import Derived.BigRegion
namespace Go.Proofs.YtmbhjogohfcjgaaDoor.L
open Go.RowKit Go.Proofs.YtmbhjogohfcjgaaDoorW.PrintWords
set_option linter.unusedVariables false

def namCells : Array Value := #[.string ⟨#[99, 104]⟩, .string ⟨#[100, 101]⟩, .string ⟨#[101, 110]⟩, .string ⟨#[102, 114]⟩, .string ⟨#[104, 105]⟩, .string ⟨#[115, 118]⟩]
/-- One of the six: its name, its row, what Find tells of it. -/
def Row6 (i : Nat) (s f0 f1 f2 f3 f4 f5 : ByteArray) (b0 b1 : Bool) (l : List Int) (k : Int) : Prop :=
  namCells[i]? = some (.string s) ∧ (allCells[i * 10]? = some (.string s) ∧ allCells[i * 10 + 1]? = some (.string f0) ∧ allCells[i * 10 + 2]? = some (.string f1) ∧ allCells[i * 10 + 3]? = some (.string f2) ∧ allCells[i * 10 + 4]? = some (.string f3) ∧
    allCells[i * 10 + 5]? = some (.string f4) ∧ allCells[i * 10 + 6]? = some (.string f5) ∧ allCells[i * 10 + 7]? = some (.bool b0) ∧ allCells[i * 10 + 8]? = some (.bool b1) ∧ allCells[i * 10 + 9]? = some (.int .i64 k)) ∧
  (∀ w, GL w → Calls Tryd.prog 26 #[.string s] w (FindSays w s f0 f1 f2 f3 f4 f5 b0 b1 l)) ∧ ((l = [3] ∧ k = 3) ∨ (l = [3, 2] ∧ k = 2))
theorem row6 (i : Nat) (h : i < 6) : ∃ s f0 f1 f2 f3 f4 f5 b0 b1 l k, Row6 i s f0 f1 f2 f3 f4 f5 b0 b1 l k := by
  have h6 : i = 0 ∨ i = 1 ∨ i = 2 ∨ i = 3 ∨ i = 4 ∨ i = 5 := by omega
  rcases h6 with rfl | rfl | rfl | rfl | rfl | rfl
  · exact ⟨_, _, _, _, _, _, _, _, _, _, _, rfl, ⟨rfl, rfl, rfl, rfl, rfl, rfl, rfl, rfl, rfl, rfl⟩, find_ch, .inl ⟨rfl, rfl⟩⟩
  · exact ⟨_, _, _, _, _, _, _, _, _, _, _, rfl, ⟨rfl, rfl, rfl, rfl, rfl, rfl, rfl, rfl, rfl, rfl⟩, find_de, .inl ⟨rfl, rfl⟩⟩
  · exact ⟨_, _, _, _, _, _, _, _, _, _, _, rfl, ⟨rfl, rfl, rfl, rfl, rfl, rfl, rfl, rfl, rfl, rfl⟩, find_en, .inl ⟨rfl, rfl⟩⟩
  · exact ⟨_, _, _, _, _, _, _, _, _, _, _, rfl, ⟨rfl, rfl, rfl, rfl, rfl, rfl, rfl, rfl, rfl, rfl⟩, find_fr, .inl ⟨rfl, rfl⟩⟩
  · exact ⟨_, _, _, _, _, _, _, _, _, _, _, rfl, ⟨rfl, rfl, rfl, rfl, rfl, rfl, rfl, rfl, rfl, rfl⟩, find_hi, .inr ⟨rfl, rfl⟩⟩
  · exact ⟨_, _, _, _, _, _, _, _, _, _, _, rfl, ⟨rfl, rfl, rfl, rfl, rfl, rfl, rfl, rfl, rfl, rfl⟩, find_sv, .inl ⟨rfl, rfl⟩⟩

theorem ref_step (k : Nat) (a : ByteArray) (xs : List S27) (i j : Int) (h1 : i < (xs.length : Int)) (h0 : 0 ≤ i) (hj : wrap64 (i + 1) = j) (h : ¬ ((rd_T27 xs i).f0).toList = a.toList) : tabardref11_Find.l0 (k + 1) a xs i = tabardref11_Find.l0 k a xs j := by
  simp only [tabardref11_Find.l0]
  rw [if_pos h1, if_pos h0, if_neg h, hj]
theorem ne_toList {s a : ByteArray} (h : ¬ a = s) : ¬ s.toList = a.toList := by
  rw [Lm.toList_by, Lm.toList_by]
  intro e
  exact h (Lm.by_ext e.symm)
def alls : List S27 := (tabardref11_All.f).getD []
theorem alls_eq : tabardref11_All.f = some alls := rfl
theorem find_cases (a : ByteArray) : (∃ r1 r2 r3 r4 r5 r6 r7 r8 r9 r10 s1 s2 s3 s4 s5 s6 s7 s8 s9 s10, locale_Find.f a = some (r1, r2, r3, r4, r5, r6, r7, r8, r9, r10, 0) ∧ tabardref11_Find.f 53 a = some (s1, s2, s3, s4, s5, s6, s7, s8, s9, s10, true)) ∨
    (locale_Find.f a = some (⟨#[]⟩, ⟨#[]⟩, ⟨#[]⟩, ⟨#[]⟩, ⟨#[]⟩, ⟨#[]⟩, ⟨#[]⟩, false, false, [], 8) ∧ tabardref11_Find.f 53 a = some (⟨#[]⟩, ⟨#[]⟩, ⟨#[]⟩, ⟨#[]⟩, ⟨#[]⟩, ⟨#[]⟩, ⟨#[]⟩, false, false, 0, false)) := by
  by_cases c0 : a = ⟨#[99, 104]⟩
  · subst c0
    exact .inl ⟨⟨#[99, 104]⟩, ⟨#[46]⟩, ⟨#[226, 128, 153]⟩, ⟨#[59]⟩, ⟨#[45]⟩, ⟨#[37]⟩, ⟨#[67, 72, 70]⟩, true, true, [3], ⟨#[99, 104]⟩, ⟨#[46]⟩, ⟨#[226, 128, 153]⟩, ⟨#[59]⟩, ⟨#[45]⟩, ⟨#[37]⟩, ⟨#[67, 72, 70]⟩, true, true, 3, by kernel_rfl, by kernel_rfl⟩
  by_cases c1 : a = ⟨#[100, 101]⟩
  · subst c1
    exact .inl ⟨⟨#[100, 101]⟩, ⟨#[44]⟩, ⟨#[46]⟩, ⟨#[59]⟩, ⟨#[45]⟩, ⟨#[37]⟩, ⟨#[226, 130, 172]⟩, false, true, [3], ⟨#[100, 101]⟩, ⟨#[44]⟩, ⟨#[46]⟩, ⟨#[59]⟩, ⟨#[45]⟩, ⟨#[37]⟩, ⟨#[226, 130, 172]⟩, false, true, 3, by kernel_rfl, by kernel_rfl⟩
  by_cases c2 : a = ⟨#[101, 110]⟩
  · subst c2
    exact .inl ⟨⟨#[101, 110]⟩, ⟨#[46]⟩, ⟨#[44]⟩, ⟨#[44]⟩, ⟨#[45]⟩, ⟨#[37]⟩, ⟨#[36]⟩, true, false, [3], ⟨#[101, 110]⟩, ⟨#[46]⟩, ⟨#[44]⟩, ⟨#[44]⟩, ⟨#[45]⟩, ⟨#[37]⟩, ⟨#[36]⟩, true, false, 3, by kernel_rfl, by kernel_rfl⟩
  by_cases c3 : a = ⟨#[102, 114]⟩
  · subst c3
    exact .inl ⟨⟨#[102, 114]⟩, ⟨#[44]⟩, ⟨#[226, 128, 175]⟩, ⟨#[59]⟩, ⟨#[45]⟩, ⟨#[37]⟩, ⟨#[226, 130, 172]⟩, false, true, [3], ⟨#[102, 114]⟩, ⟨#[44]⟩, ⟨#[226, 128, 175]⟩, ⟨#[59]⟩, ⟨#[45]⟩, ⟨#[37]⟩, ⟨#[226, 130, 172]⟩, false, true, 3, by kernel_rfl, by kernel_rfl⟩
  by_cases c4 : a = ⟨#[104, 105]⟩
  · subst c4
    exact .inl ⟨⟨#[104, 105]⟩, ⟨#[46]⟩, ⟨#[44]⟩, ⟨#[44]⟩, ⟨#[45]⟩, ⟨#[37]⟩, ⟨#[226, 130, 185]⟩, true, false, [3, 2], ⟨#[104, 105]⟩, ⟨#[46]⟩, ⟨#[44]⟩, ⟨#[44]⟩, ⟨#[45]⟩, ⟨#[37]⟩, ⟨#[226, 130, 185]⟩, true, false, 2, by kernel_rfl, by kernel_rfl⟩
  by_cases c5 : a = ⟨#[115, 118]⟩
  · subst c5
    exact .inl ⟨⟨#[115, 118]⟩, ⟨#[44]⟩, ⟨#[194, 160]⟩, ⟨#[59]⟩, ⟨#[226, 136, 146]⟩, ⟨#[37]⟩, ⟨#[107, 114]⟩, false, true, [3], ⟨#[115, 118]⟩, ⟨#[44]⟩, ⟨#[194, 160]⟩, ⟨#[59]⟩, ⟨#[226, 136, 146]⟩, ⟨#[37]⟩, ⟨#[107, 114]⟩, false, true, 3, by kernel_rfl, by kernel_rfl⟩
  refine .inr ⟨?_, ?_⟩
  · unfold locale_Find.f
    rw [if_neg c0, if_neg c1, if_neg c2, if_neg c3, if_neg c4, if_neg c5]
  · unfold tabardref11_Find.f
    rw [alls_eq, Option.bind_some,
      ref_step 52 a alls 0 1 (by decide) (by decide) (by unfold wrap64; decide) (ne_toList c0),
      ref_step 51 a alls 1 2 (by decide) (by decide) (by unfold wrap64; decide) (ne_toList c1),
      ref_step 50 a alls 2 3 (by decide) (by decide) (by unfold wrap64; decide) (ne_toList c2),
      ref_step 49 a alls 3 4 (by decide) (by decide) (by unfold wrap64; decide) (ne_toList c3),
      ref_step 48 a alls 4 5 (by decide) (by decide) (by unfold wrap64; decide) (ne_toList c4),
      ref_step 47 a alls 5 6 (by decide) (by decide) (by unfold wrap64; decide) (ne_toList c5)]
    kernel_rfl

set_option maxRecDepth 100000 in
set_option maxHeartbeats 40000000 in
theorem finds_walk (a0 : ByteArray) (w : World) (hGL : GL w) : Calls Tryd.prog 6 #[.string a0] w fun e w' => e = .returned (.bool true) ∧ Below w.heap.size w w' := by
  have HG := Aside0.mk hGL
  clear hGL
  go_enter Tryd.func6, Tryd.ntmps6
  go_wp2_with fail
  refine (tabardlaw11_shown.calls 60 true _ HG.out Lm.shown_60).mono ?_
  rintro e w1 ⟨rfl, hb1⟩
  have HB1 : Aside0 (Below w.heap.size w w1) := ⟨hb1⟩
  clear hb1
  go_wp2_with fail
  refine (names_walk _ (HG.out.below HB1.out)).mono ?_
  rintro e w2 ⟨rfl, hn, hb⟩
  have HN2 : Aside0 (w2.heap[w1.heap.size]? = some (.cells namCells 82 (0, 0))) := ⟨hn⟩
  have HB2 : Aside0 (Below w.heap.size w w2) := ⟨HB1.out.trans (hb.mono HB1.out.size)⟩
  have HS2 : Aside0 (w.heap.size ≤ w1.heap.size) := ⟨HB1.out.size⟩
  clear hb hn HB1
  go_wp2_with fail
  refine (all_walk _).mono ?_
  rintro e w3 ⟨rfl, hb, ha⟩
  have HN3 : Aside0 (w3.heap[w1.heap.size]? = some (.cells namCells 82 (0, 0))) := ⟨(hb.block _ (blk_lt HN2.out)).trans HN2.out⟩
  have HA3 : Aside0 (w3.heap[w2.heap.size]? = some (.cells allCells 27 (0, 0))) := ⟨ha⟩
  have HB3 : Aside0 (Below w.heap.size w w3) := ⟨HB2.out.trans (hb.mono HB2.out.size)⟩
  have HS3 : Aside0 (w1.heap.size < w2.heap.size) := ⟨blk_lt HN2.out⟩
  clear hb ha HN2 HB2
  generalize w1.heap.size = gn at HN3 HS2 HS3 ⊢
  generalize w2.heap.size = ga at HA3 HS3 ⊢
  clear w1 w2
  go_wp2_with fail
  go_loopg [6] 7 (fun kq v6 w' => ∃ (i : Nat), v6 = .int .i64 (i : Int) ∧ Aside0 (i + kq = 7 ∧ i ≤ 6) ∧ Aside0 (w'.heap[gn]? = some (.cells namCells 82 (0, 0))) ∧ Aside0 (w'.heap[ga]? = some (.cells allCells 27 (0, 0))) ∧ Aside0 (Below w.heap.size w w'))
  case atStart => exact ⟨0, rfl, ⟨by omega⟩, HN3, HA3, HB3⟩
  case round =>
    obtain ⟨i, rfl, HI, HN, HA, HB⟩ := hrel
    obtain ⟨k1, rfl⟩ : ∃ m, gk = m + 1 := ⟨gk - 1, by have := HI.out; omega⟩
    by_cases hi : i < 6
    · obtain ⟨s, f0, f1, f2, f3, f4, f5, b0, b1, l, k, hnm, ⟨q0, q1, q2, q3, q4, q5, q6, q7, q8, q9⟩, hF, hl⟩ := row6 i hi
      have cn : wr.cell? ⟨gn, i, none⟩ = some (.string s) := (blk_cell HN.out i).trans hnm
      go_wp2_with fail
      refine (hF _ (HG.out.below HB.out)).mono ?_
      rintro e w4 ⟨v, he, ⟨g, hv, hg, hgb⟩, hb⟩
      subst hv
      subst he
      have HN4 : Aside0 (w4.heap[gn]? = some (.cells namCells 82 (0, 0))) := ⟨(hb.block _ (blk_lt HN.out)).trans HN.out⟩
      have HA4 : Aside0 (w4.heap[ga]? = some (.cells allCells 27 (0, 0))) := ⟨(hb.block _ (blk_lt HA.out)).trans HA.out⟩
      have HB4 : Aside0 (Below w.heap.size w w4) := ⟨HB.out.trans (hb.mono HB.out.size)⟩
      have HGB : Aside0 (w4.heap[g]? = some (.cells ((l.map (Value.int .i64)).toArray) 3 (0, 0))) := ⟨hgb⟩
      clear hb hgb hg cn HN HA HB
      have z0 : ∀ o, (w4.alloc o).cell? ⟨ga, i * 10, none⟩ = some (.string s) := fun o => keep_alloc o ((blk_cell HA4.out _).trans q0)
      have a1 : ∀ o, (w4.alloc o).cell? ⟨ga, i * 10 + 1, none⟩ = some (.string f0) := fun o => keep_alloc o ((blk_cell HA4.out _).trans q1)
      have a2 : ∀ o, (w4.alloc o).cell? ⟨ga, i * 10 + 2, none⟩ = some (.string f1) := fun o => keep_alloc o ((blk_cell HA4.out _).trans q2)
      have a3 : ∀ o, (w4.alloc o).cell? ⟨ga, i * 10 + 3, none⟩ = some (.string f2) := fun o => keep_alloc o ((blk_cell HA4.out _).trans q3)
      have a4 : ∀ o, (w4.alloc o).cell? ⟨ga, i * 10 + 4, none⟩ = some (.string f3) := fun o => keep_alloc o ((blk_cell HA4.out _).trans q4)
      have a5 : ∀ o, (w4.alloc o).cell? ⟨ga, i * 10 + 5, none⟩ = some (.string f4) := fun o => keep_alloc o ((blk_cell HA4.out _).trans q5)
      have a6 : ∀ o, (w4.alloc o).cell? ⟨ga, i * 10 + 6, none⟩ = some (.string f5) := fun o => keep_alloc o ((blk_cell HA4.out _).trans q6)
      have a7 : ∀ o, (w4.alloc o).cell? ⟨ga, i * 10 + 7, none⟩ = some (.bool b0) := fun o => keep_alloc o ((blk_cell HA4.out _).trans q7)
      have a8 : ∀ o, (w4.alloc o).cell? ⟨ga, i * 10 + 8, none⟩ = some (.bool b1) := fun o => keep_alloc o ((blk_cell HA4.out _).trans q8)
      have a9 : ∀ o, (w4.alloc o).cell? ⟨ga, i * 10 + 9, none⟩ = some (.int .i64 k) := fun o => keep_alloc o ((blk_cell HA4.out _).trans q9)
      go_wp2_with fail
      clear z0 a1 a2 a3 a4 a5 a6 a7 a8 a9
      have HN5 : Aside0 (((w4.alloc (.cells #[.string s, .string f0, .string f1, .string f2, .string f3, .string f4, .string f5, .bool b0, .bool b1, .slice (some ⟨g, 0, none⟩) l.length l.length] 25)).alloc (.cells #[.string s, .string f0, .string f1, .string f2, .string f3, .string f4, .string f5, .bool b0, .bool b1, .int .i64 k] 27)).heap[gn]? = some (.cells namCells 82 (0, 0))) := ⟨blk_alloc (blk_alloc HN4.out _) _⟩
      have HA5 : Aside0 (((w4.alloc (.cells #[.string s, .string f0, .string f1, .string f2, .string f3, .string f4, .string f5, .bool b0, .bool b1, .slice (some ⟨g, 0, none⟩) l.length l.length] 25)).alloc (.cells #[.string s, .string f0, .string f1, .string f2, .string f3, .string f4, .string f5, .bool b0, .bool b1, .int .i64 k] 27)).heap[ga]? = some (.cells allCells 27 (0, 0))) := ⟨blk_alloc (blk_alloc HA4.out _) _⟩
      have HL5 : Aside0 (((w4.alloc (.cells #[.string s, .string f0, .string f1, .string f2, .string f3, .string f4, .string f5, .bool b0, .bool b1, .slice (some ⟨g, 0, none⟩) l.length l.length] 25)).alloc (.cells #[.string s, .string f0, .string f1, .string f2, .string f3, .string f4, .string f5, .bool b0, .bool b1, .int .i64 k] 27)).heap[w4.heap.size]? = some (.cells #[.string s, .string f0, .string f1, .string f2, .string f3, .string f4, .string f5, .bool b0, .bool b1, .slice (some ⟨g, 0, none⟩) l.length l.length] 25 (0, 0))) := ⟨blk_alloc (blk_new w4 _) _⟩
      have HR5 : Aside0 (((w4.alloc (.cells #[.string s, .string f0, .string f1, .string f2, .string f3, .string f4, .string f5, .bool b0, .bool b1, .slice (some ⟨g, 0, none⟩) l.length l.length] 25)).alloc (.cells #[.string s, .string f0, .string f1, .string f2, .string f3, .string f4, .string f5, .bool b0, .bool b1, .int .i64 k] 27)).heap[w4.heap.size + 1]? = some (.cells #[.string s, .string f0, .string f1, .string f2, .string f3, .string f4, .string f5, .bool b0, .bool b1, .int .i64 k] 27 (0, 0))) := ⟨by have := blk_new (w4.alloc (.cells #[.string s, .string f0, .string f1, .string f2, .string f3, .string f4, .string f5, .bool b0, .bool b1, .slice (some ⟨g, 0, none⟩) l.length l.length] 25)) (.cells #[.string s, .string f0, .string f1, .string f2, .string f3, .string f4, .string f5, .bool b0, .bool b1, .int .i64 k] 27); simpa using this⟩
      have HG5 : Aside0 (((w4.alloc (.cells #[.string s, .string f0, .string f1, .string f2, .string f3, .string f4, .string f5, .bool b0, .bool b1, .slice (some ⟨g, 0, none⟩) l.length l.length] 25)).alloc (.cells #[.string s, .string f0, .string f1, .string f2, .string f3, .string f4, .string f5, .bool b0, .bool b1, .int .i64 k] 27)).heap[g]? = some (.cells ((l.map (Value.int .i64)).toArray) 3 (0, 0))) := ⟨blk_alloc (blk_alloc HGB.out _) _⟩
      have HB5 : Aside0 (Below w.heap.size w ((w4.alloc (.cells #[.string s, .string f0, .string f1, .string f2, .string f3, .string f4, .string f5, .bool b0, .bool b1, .slice (some ⟨g, 0, none⟩) l.length l.length] 25)).alloc (.cells #[.string s, .string f0, .string f1, .string f2, .string f3, .string f4, .string f5, .bool b0, .bool b1, .int .i64 k] 27))) := ⟨(HB4.out.alloc HB4.out.size _).alloc (HB4.out.alloc HB4.out.size _).size _⟩
      generalize ((w4.alloc (.cells #[.string s, .string f0, .string f1, .string f2, .string f3, .string f4, .string f5, .bool b0, .bool b1, .slice (some ⟨g, 0, none⟩) l.length l.length] 25)).alloc (.cells #[.string s, .string f0, .string f1, .string f2, .string f3, .string f4, .string f5, .bool b0, .bool b1, .int .i64 k] 27)) = w5 at HN5 HA5 HL5 HR5 HG5 HB5 ⊢
      generalize w4.heap.size = p at HL5 HR5 ⊢
      clear HN4 HA4 HB4 HGB
      have n0 : w5.cell? ⟨gn, i, none⟩ = some (.string s) := (blk_cell HN5.out i).trans hnm
      have l0 : w5.cell? ⟨p, 0, none⟩ = some (.string s) := (blk_cell HL5.out 0).trans rfl
      have l1 : w5.cell? ⟨p, 1, none⟩ = some (.string f0) := (blk_cell HL5.out 1).trans rfl
      have l2 : w5.cell? ⟨p, 2, none⟩ = some (.string f1) := (blk_cell HL5.out 2).trans rfl
      have l3 : w5.cell? ⟨p, 3, none⟩ = some (.string f2) := (blk_cell HL5.out 3).trans rfl
      have l4 : w5.cell? ⟨p, 4, none⟩ = some (.string f3) := (blk_cell HL5.out 4).trans rfl
      have l5 : w5.cell? ⟨p, 5, none⟩ = some (.string f4) := (blk_cell HL5.out 5).trans rfl
      have l6 : w5.cell? ⟨p, 6, none⟩ = some (.string f5) := (blk_cell HL5.out 6).trans rfl
      have l7 : w5.cell? ⟨p, 7, none⟩ = some (.bool b0) := (blk_cell HL5.out 7).trans rfl
      have l8 : w5.cell? ⟨p, 8, none⟩ = some (.bool b1) := (blk_cell HL5.out 8).trans rfl
      have l9 : w5.cell? ⟨p, 9, none⟩ = some (.slice (some ⟨g, 0, none⟩) l.length l.length) := (blk_cell HL5.out 9).trans rfl
      have r0 : w5.cell? ⟨p + 1, 0, none⟩ = some (.string s) := (blk_cell HR5.out 0).trans rfl
      have r1 : w5.cell? ⟨p + 1, 1, none⟩ = some (.string f0) := (blk_cell HR5.out 1).trans rfl
      have r2 : w5.cell? ⟨p + 1, 2, none⟩ = some (.string f1) := (blk_cell HR5.out 2).trans rfl
      have r3 : w5.cell? ⟨p + 1, 3, none⟩ = some (.string f2) := (blk_cell HR5.out 3).trans rfl
      have r4 : w5.cell? ⟨p + 1, 4, none⟩ = some (.string f3) := (blk_cell HR5.out 4).trans rfl
      have r5 : w5.cell? ⟨p + 1, 5, none⟩ = some (.string f4) := (blk_cell HR5.out 5).trans rfl
      have r6 : w5.cell? ⟨p + 1, 6, none⟩ = some (.string f5) := (blk_cell HR5.out 6).trans rfl
      have r7 : w5.cell? ⟨p + 1, 7, none⟩ = some (.bool b0) := (blk_cell HR5.out 7).trans rfl
      have r8 : w5.cell? ⟨p + 1, 8, none⟩ = some (.bool b1) := (blk_cell HR5.out 8).trans rfl
      have r9 : w5.cell? ⟨p + 1, 9, none⟩ = some (.int .i64 k) := (blk_cell HR5.out 9).trans rfl
      clear q0 q1 q2 q3 q4 q5 q6 q7 q8 q9 hnm hF
      repeat (go_quiet (fail); try go_wp2_with fail)
      have e1 : wrap64 ((i : Int) + 1) = (i : Int) + 1 := by unfold wrap64; omega
      have e2 : IntKind.i64.wrap ((i : Int) + 1) = (i : Int) + 1 := (Go.Proofs.YtmbhjogohfcjgaaDoorW.PrintLast.i64_w _).trans e1
      rcases hl with ⟨rfl, rfl⟩ | ⟨rfl, rfl⟩
      · have g0 : w5.cell? ⟨g, 0, none⟩ = some (.int .i64 3) := (blk_cell HG5.out 0).trans rfl
        clear HG5 HL5 HR5
        repeat (go_quiet (fail); try go_wp2_with fail)
        go_roundg k1
        case measure => have := HI.out; omega
        case rel => exact ⟨i + 1, by first | rfl | (simp; done) | (simp [*]; done), ⟨by have := HI.out; omega⟩, HN5, HA5, ⟨by repeat (first | exact HB5.out | apply pw_below_drewN | apply below_drew1)⟩⟩
      · have g0 : w5.cell? ⟨g, 0, none⟩ = some (.int .i64 3) := (blk_cell HG5.out 0).trans rfl
        have g1 : w5.cell? ⟨g, 1, none⟩ = some (.int .i64 2) := (blk_cell HG5.out 1).trans rfl
        clear HG5 HL5 HR5
        repeat (go_quiet (fail); try go_wp2_with fail)
        go_roundg k1
        case measure => have := HI.out; omega
        case rel => exact ⟨i + 1, by first | rfl | (simp; done) | (simp [*]; done), ⟨by have := HI.out; omega⟩, HN5, HA5, ⟨by repeat (first | exact HB5.out | apply pw_below_drewN | apply below_drew1)⟩⟩
    · have h6 : i = 6 := by have := HI.out; omega
      subst h6
      rcases find_cases a0 with ⟨r1, r2, r3, r4, r5, r6, r7, r8, r9, r10, s1, s2, s3, s4, s5, s6, s7, s8, s9, s10, h1, h2⟩ | ⟨h1, h2⟩
      · have H1 := Aside0.mk h1
        have H2 := Aside0.mk h2
        clear h1 h2 hi
        go_wp2_with fail
        refine (locale_Find.calls a0 r1 r2 r3 r4 r5 r6 r7 r8 r9 r10 0 _ (HG.out.below HB.out) H1.out).mono ?_
        rintro e w4 ⟨v, rfl, hR, hb⟩
        obtain ⟨A, c, rfl⟩ := Kd.R_slice hR
        have HB4 : Aside0 (Below w.heap.size w w4) := ⟨HB.out.trans (hb.mono HB.out.size)⟩
        clear hR hb HB HN HA
        go_wp2_with fail
        refine (tabardref11_Find.calls 53 a0 s1 s2 s3 s4 s5 s6 s7 s8 s9 s10 true _ H2.out).mono ?_
        rintro e w6 ⟨rfl, hb6⟩
        have HB6 : Aside0 (Below w.heap.size w w6) := ⟨(HB4.out.alloc HB4.out.size _).trans (hb6.mono (HB4.out.alloc HB4.out.size _).size)⟩
        clear hb6 HB4 H1 H2
        go_wp2_with fail
        repeat (go_quiet (fail); try go_wp2_with fail)
        go_ret
        exact ⟨rfl, HB6.out.alloc HB6.out.size _⟩
      · have H1 := Aside0.mk h1
        have H2 := Aside0.mk h2
        clear h1 h2 hi
        go_wp2_with fail
        refine (locale_Find.calls a0 _ _ _ _ _ _ _ _ _ _ _ _ (HG.out.below HB.out) H1.out).mono ?_
        rintro e w4 ⟨v, rfl, hR, hb⟩
        obtain ⟨A, c, rfl⟩ := Kd.R_slice hR
        have HB4 : Aside0 (Below w.heap.size w w4) := ⟨HB.out.trans (hb.mono HB.out.size)⟩
        clear hR hb HB HN HA
        go_wp2_with fail
        refine (tabardref11_Find.calls 53 a0 _ _ _ _ _ _ _ _ _ _ _ _ H2.out).mono ?_
        rintro e w6 ⟨rfl, hb6⟩
        have HB6 : Aside0 (Below w.heap.size w w6) := ⟨(HB4.out.alloc HB4.out.size _).trans (hb6.mono (HB4.out.alloc HB4.out.size _).size)⟩
        have HL6 := Aside0.mk (blk_below (blk_new w4 _) hb6)
        have x0 : ∀ o, (w6.alloc o).cell? ⟨w4.heap.size, 0, none⟩ = some (.string ⟨#[]⟩) := fun o => keep_alloc o ((blk_cell HL6.out 0).trans rfl)
        have x9 : ∀ o, (w6.alloc o).cell? ⟨w4.heap.size, 9, none⟩ = some (.slice A ([] : List Int).length c) := fun o => keep_alloc o ((blk_cell HL6.out 9).trans rfl)
        clear hb6 HB4 H1 H2
        go_wp2_with fail
        repeat (go_quiet (fail); try go_wp2_with fail)
        go_ret
        exact ⟨rfl, HB6.out.alloc HB6.out.size _⟩
end Go.Proofs.YtmbhjogohfcjgaaDoor.L
