/- Parse: the walk. -/
import Derived.Test.YtmbhjogohfcjgaaDoorPqa
namespace Go.Proofs.YtmbhjogohfcjgaaDoor.P
open Go.RowKit Go.Proofs.YtmbhjogohfcjgaaDoorW.PrintWords Go.Proofs.YtmbhjogohfcjgaaDoorW.PrintLast Go.Proofs.YtmbhjogohfcjgaaDoorW.PrintMore
set_option linter.unusedVariables false
set_option linter.unusedSimpArgs false
def ParsePost (w : World) (x : Except (Int × Int) (List S62)) (e : Ending) (w' : World) : Prop :=
 match x with
 | .error x => e = .returned (.tuple #[.agg #[.slice none 0 0], .int .i64 x.1, .int .i64 x.2]) ∧ Below w.heap.size w w'
 | .ok l => ∃ v : Value, e = .returned (.tuple #[.agg #[v], .int .i64 0, .int .i64 0]) ∧ Kd.S k62 62 w' w.heap.size (fun _ => True) v l ∧ Below w.heap.size w w'
structure Vars (w0 w : World) (B : Nat) : Prop where
 b0 : w.heap[B]? = some (.cells #[.slice none 0 0] 55 (0, 0))
 b1 : w.heap[B + 1]? = some (.cells #[.int .i64 0] 41 (0, 0))
 b2 : w.heap[B + 1 + 1]? = some (.cells #[.int .i64 0] 3 (0, 0))
 lt : B + 1 + 1 + 1 ≤ w.heap.size
 bl : Below B w0 w
theorem Vars.below {w0 w w1 : World} {B : Nat} (h : Vars w0 w B) (hb : Below (B + 1 + 1 + 1) w w1) : Vars w0 w1 B :=
 ⟨(hb.block B (by omega)).trans h.b0, (hb.block (B + 1) (by omega)).trans h.b1, (hb.block (B + 1 + 1) (by omega)).trans h.b2, Nat.le_trans h.lt hb.size, h.bl.trans (hb.mono (by omega))⟩
theorem addr_k (g k : Nat) : (⟨g, 0, none⟩ : Addr).add k = ⟨g, k, none⟩ := by
 cases k with
 | zero => rfl
 | succ k => simp [Addr.add]
theorem parseEnd_err (st : RS) (k : Nat) (hk : wrongOf st.secs = k) : parseEnd (.ok st) = .error (12, st.from_.getD k 0) := by
 show (if 0 ≤ wrongOf st.secs then _ else _) = _
 rw [hk, if_pos (by omega), Int.toNat_natCast]
theorem parseEnd_ok (st : RS) (h : ¬ 0 ≤ wrongOf st.secs) : parseEnd (.ok st) = .ok st.secs := by
 show (if 0 ≤ wrongOf st.secs then _ else _) = _
 rw [if_neg h]
theorem alloc_size (w : World) (o : Obj) : (w.alloc o).heap.size = w.heap.size + 1 := Array.size_push _
theorem alloc_new (w : World) (o : Obj) (k : Nat) (hk : w.heap.size = k) : (w.alloc o).heap[k]? = some o := by subst hk; exact Array.getElem?_push_size
theorem alloc_old {w : World} {o x : Obj} {k : Nat} (h : w.heap[k]? = some x) : (w.alloc o).heap[k]? = some x := by
 have hlt : k < w.heap.size := by
  rcases Nat.lt_or_ge k w.heap.size with h1 | h1
  ·exact h1
  ·rw [Array.getElem?_eq_none h1] at h; cases h
 exact ((below_alloc (Below.refl w.heap.size w) o).block k hlt).trans h
theorem vars0 (w : World) (o : Obj) : Vars w ((((w.alloc (.cells #[.slice none 0 0] 55 (0, 0))).alloc (.cells #[.int .i64 0] 41 (0, 0))).alloc (.cells #[.int .i64 0] 3 (0, 0))).alloc o) w.heap.size := by
 refine ⟨alloc_old (alloc_old (alloc_old (alloc_new w _ _ rfl))), alloc_old (alloc_old (alloc_new _ _ _ (alloc_size _ _))), alloc_old (alloc_new _ _ _ ?_), ?_, below_alloc (below_alloc (below_alloc (below_alloc (Below.refl w.heap.size w) _) _) _) _⟩
 ·rw [alloc_size, alloc_size]
 ·rw [alloc_size, alloc_size, alloc_size, alloc_size]; omega
theorem rd0 (w : World) (s : ByteArray) (R : Nat) (hR : w.heap.size = R) : Rd R (w.alloc (.cells #[.string s, .int .i64 0, .slice none 0 0, .slice none 0 0, .int .i64 0, .bool false] 107 (0, 0))) ⟨s, 0, [], [], 0, false⟩ (.slice none 0 0) (.slice none 0 0) := by
 subst hR
 exact ⟨Array.getElem?_push_size, Kd.S_nil _ _ _ _ _, Kd.R_nil _ _ _ _ _⟩
set_option maxRecDepth 100000 in
set_option maxHeartbeats 8000000 in
theorem parse_walk (s : ByteArray) (w : World) (hGL : GL w) :
  Calls Tryd.prog 37 #[.string s] w (ParsePost w (parseR s)) := by
 by_cases hs : 1000 < s.size
 ·unfold parseR
  rw [if_pos hs]
  exact parse_long s w hs
 have hl : decide (1000 < (s.size : Int)) = false := decide_eq_false (by omega)
 have hmf : ∀ (fn : Fn) (first cap : Array Value) (w : World), (Instr.makeFunc fn first cap).run Tryd.prog w = .ok (.func fn first cap) w := fun _ _ _ _ => rfl
 have hpn : ∀ (t : TypeId) (v : Value) (w : World), (Instr.panic (.iface t v)).run Tryd.prog w = .halt (.panic (.iface t v)) w := fun _ _ _ => rfl
 obtain ⟨RES, hres⟩ : ∃ RES, parseL s.size (parse0 s) = RES := ⟨_, rfl⟩
 have HFIN : Aside0 (∀ e w', ParsePost w (parseEnd RES) e w' → ParsePost w (parseR s) e w') := ⟨fun e w' hh => by unfold parseR; rw [if_neg hs, hres]; exact hh⟩
 have HRES := Aside0.mk hres
 have HG := Aside0.mk hGL
 have h5 := hGL.size
 clear hres hGL
 refine Calls.mono ?_ HFIN.out
 clear HFIN
 have hV := vars0 w (.cells #[.string s, .int .i64 0, .slice none 0 0, .slice none 0 0, .int .i64 0, .bool false] 107 (0, 0))
 have hR := rd0 (((w.alloc (.cells #[.slice none 0 0] 55 (0, 0))).alloc (.cells #[.int .i64 0] 41 (0, 0))).alloc (.cells #[.int .i64 0] 3 (0, 0))) s (w.heap.size + 1 + 1 + 1) (by show (((w.heap.push _).push _).push _).size = _; simp)
 have HV := Aside0.mk hV
 have HBG := Aside0.mk (begin_ok (w.heap.size + 1 + 1 + 1) ⟨s, 0, [], [], 0, false⟩ _ _ _ (show 0 < 4 by decide) (show 0 < 4 by decide) hR)
 clear hV hR
 go_enter_defers Tryd.func37, Tryd.ntmps37
 go_wp2_with (fail)
 (with_reducible refine HBG.out.mono ?_)
 rintro e w1 ⟨rfl, ⟨vS1, vF1, hr1⟩, hb1⟩
 have HR1 := Aside0.mk (show Rd (w.heap.size + 1 + 1 + 1) w1 (parse0 s) vS1 vF1 from hr1)
 have HV1 := Aside0.mk (HV.out.below hb1)
 clear hr1 hb1 HBG HV
 generalize hB : w.heap.size = B at *
 have HB := Aside0.mk hB
 clear hB
 go_wp2_with (fail)
 go_loopg [] (s.size + 1) (fun gk wx => ∃ (f : Nat) (st : RS) (vS vF : Value), gk = f + 1 ∧ Aside0 (Rd (B + 1 + 1 + 1) wx st vS vF) ∧ Aside0 (Vars w wx B) ∧ Aside0 (Inv st) ∧ Aside0 (Small st) ∧ Aside0 (st.open_ = true → 1 ≤ st.at_) ∧ Aside0 (parseL f st = RES) ∧ Aside0 (st.s = s) ∧ s.size ≤ st.at_ + f)
 case atStart => exact ⟨s.size, parse0 s, _, _, rfl, ⟨HR1.out⟩, ⟨HV1.out⟩, ⟨parse0_inv s (by omega)⟩, ⟨parse0_small s⟩, ⟨fun h => by cases h⟩, ⟨HRES.out⟩, ⟨rfl⟩, by show s.size ≤ 0 + s.size; omega⟩
 case round =>
  obtain ⟨f, st, vS, vF, rfl, HR, HVx, HJ, HS, HO, HQ, HSS, hst⟩ := hrel
  clear HR1 HV1 HRES
  have e1 := HR.out.c1
  have hq := HQ.out
  by_cases hlt : st.at_ < s.size
  ·have hl' : decide ((st.at_ : Int) < (s.size : Int)) = true := decide_eq_true (by omega)
   obtain ⟨g, rfl⟩ : ∃ g, f = g + 1 := ⟨f - 1, by omega⟩
   unfold parseL at hq
   rw [if_pos (by rw [HSS.out]; exact hlt)] at hq
   have HW := Aside0.mk (one_walk (B + 1 + 1 + 1) st vS vF wr (HG.out.belowR (R := B) (by omega) HVx.out.bl) (by omega) HJ.out (by rw [HSS.out]; exact hlt) HO.out HR.out)
   rcases hone : oneM st with x | st2
   ·rw [hone] at hq
    have hq : Except.error x = RES := hq
    subst hq
    have HP := Aside0.mk (res_err hone HW.out)
    clear HW hone HQ
    go_wp2_with (fail)
    (with_reducible refine HP.out.mono ?_)
    rintro e w5 ⟨rfl, hb5⟩
    have HV5 := Aside0.mk (HVx.out.below hb5)
    unfold fault
    clear hb5 HP
    go_wp2
    refine leaves_cons (f := 66) (args := #[.pointer (some ⟨B, 0, none⟩), .pointer (some ⟨B + 1, 0, none⟩), .pointer (some ⟨B + 1 + 1, 0, none⟩)]) (by simp) (by simp [go_sem]) ?_
    refine (catch_panicking B (B + 1) (B + 1 + 1) x.1 x.2 [] _ _ _ w5 (by have := HV5.out.lt; omega) (by have := HV5.out.lt; omega) (by have := HV5.out.lt; omega) (by omega) (by omega) HV5.out.b0 HV5.out.b1 HV5.out.b2).mono ?_
    rintro e u' w6 ⟨rfl, rfl, c0, c1, c2, hb6⟩
    have hb7 : Below w.heap.size w w6 := by rw [HB.out]; exact HV5.out.bl.trans hb6
    simp [Leaves, settle, results, Tryd.results37, go_sem, c0, c1, c2, ParsePost, parseEnd, hb7]
   ·rw [hone] at hq
    have hq : parseL g st2 = RES := hq
    have HP := Aside0.mk (res_ok hone HW.out)
    obtain ⟨i2, a2, s2⟩ := oneM_ok hone HJ.out (by rw [HSS.out]; exact hlt)
    have HS2 := Aside0.mk (oneM_small hone HJ.out (by rw [HSS.out]; exact hlt) HS.out)
    have HI2 := Aside0.mk i2
    have HA2 := Aside0.mk (s2.trans HSS.out)
    have HQ2 := Aside0.mk hq
    clear HW hone HQ i2 s2 hq
    go_wp2_with (fail)
    (with_reducible refine HP.out.mono ?_)
    rintro e w5 ⟨rfl, ⟨vS5, vF5, hr5⟩, hb5⟩
    have HV5 := Aside0.mk (HVx.out.below hb5)
    have HR5 := Aside0.mk hr5
    clear hb5 hr5 HP
    go_wp2
    go_roundg (g + 1)
    case measure => omega
    case rel => exact ⟨g, st2, vS5, vF5, rfl, ⟨HR5.out⟩, ⟨HV5.out⟩, ⟨HI2.out⟩, ⟨HS2.out⟩, ⟨fun _ => by omega⟩, ⟨HQ2.out⟩, ⟨HA2.out⟩, by omega⟩
  ·have hl' : decide ((st.at_ : Int) < (s.size : Int)) = false := decide_eq_false (by omega)
   have hq : Except.ok st = RES := by
    cases f with
    | zero => exact hq
    | succ f => unfold parseL at hq; rw [if_neg (by rw [HSS.out]; exact hlt)] at hq; exact hq
   subst hq
   clear HQ
   obtain ⟨A, c, rfl, hAc, hC⟩ := Kd.S_reads HR.out.hS
   have HW := Aside0.mk (wrong_walk A c st.secs wr (HG.out.belowR (R := B) (by omega) HVx.out.bl) hC (by have := HJ.out.n4; omega) (fun x hx => by have := HS.out x hx; have := HJ.out.it; omega))
   have e2 := (blk_cell HR.out.blk 2).trans (show _ = some (Value.slice A st.secs.length c) from rfl)
   have hwl := wrongOf_lt st.secs
   have HRx := Aside0.mk (fun (W : World) (hb : Below wr.heap.size wr W) => Rd.below HR.out hb)
   clear hC hAc
   by_cases hw : 0 ≤ wrongOf st.secs
   ·obtain ⟨k, hk⟩ : ∃ k : Nat, wrongOf st.secs = k := ⟨(wrongOf st.secs).toNat, by omega⟩
    have hfl := HJ.out.fl
    have hkn : k < st.from_.length := by rw [hk] at hwl; omega
    obtain ⟨gF, cF, rfl, _, _, _⟩ := Kd.R_form HR.out.hF (by omega)
    obtain ⟨AF, cF', hFe, _, hCF⟩ := Kd.R_reads HR.out.hF
    have e3 := (blk_cell HR.out.blk 3).trans (show _ = some (Value.slice (some ⟨gF, 0, none⟩) st.from_.length cF) from rfl)
    obtain rfl : some ⟨gF, 0, none⟩ = AF := by injection hFe
    have hcell : wr.cell? ⟨gF, k, none⟩ = some (.int .i64 (st.from_.getD k 0)) := by
     obtain ⟨ad, had, hc⟩ := hCF.2.2 (by omega)
     obtain rfl := Option.some.inj had
     have hx : st.from_[k]? = some (st.from_.getD k 0) := by rw [List.getD_eq_getElem?_getD, List.getElem?_eq_getElem hkn]; rfl
     obtain ⟨c1, hl1, hR1, hcc⟩ := hc k _ hx
     have hR1 : c1 = [.int .i64 (st.from_.getD k 0)] := hR1
     subst hR1
     have h9 := hcc 0 _ rfl
     rw [show (Kd.int .i64).sz = 1 from rfl, Nat.mul_one, Nat.add_zero] at h9
     rw [addr_k] at h9
     exact h9
    have hwk : decide (0 ≤ (k : Int)) = true := decide_eq_true (by omega)
    have hkk : (k : Int) < (st.from_.length : Int) := by omega
    have HK : Aside0 (wrongOf st.secs = k) := ⟨hk⟩
    rw [hk] at HW
    clear hw hk hwl hFe hCF HRx
    go_wp2_with (fail)
    (with_reducible refine HW.out.mono ?_)
    rintro e w5 ⟨rfl, hb5⟩
    have HV5 := Aside0.mk (HVx.out.below (hb5.mono HVx.out.lt))
    replace hcell := (hb5.cell (World.block_lt_of_cell? wr _ hcell)).trans hcell
    replace e3 := (hb5.cell (World.block_lt_of_cell? wr _ e3)).trans e3
    clear hb5 HW e1 e2
    go_wp2
    refine leaves_cons (f := 66) (args := #[.pointer (some ⟨B, 0, none⟩), .pointer (some ⟨B + 1, 0, none⟩), .pointer (some ⟨B + 1 + 1, 0, none⟩)]) (by simp) (by simp [go_sem]) ?_
    refine (catch_panicking B (B + 1) (B + 1 + 1) 12 (st.from_.getD k 0) [] _ _ _ w5 (by have := HV5.out.lt; omega) (by have := HV5.out.lt; omega) (by have := HV5.out.lt; omega) (by omega) (by omega) HV5.out.b0 HV5.out.b1 HV5.out.b2).mono ?_
    rintro e u' w6 ⟨rfl, rfl, c0, c1, c2, hb6⟩
    have hb7 : Below w.heap.size w w6 := by rw [HB.out]; exact HV5.out.bl.trans hb6
    have hwr := HK.out
    rw [parseEnd_err st k hwr]
    clear hwr
    generalize st.from_.getD k 0 = q at *
    simp [Leaves, settle, results, Tryd.results37, go_sem, c0, c1, c2, ParsePost, hb7]
   ·have hw1 : decide (0 ≤ wrongOf st.secs) = false := decide_eq_false hw
    have HW0 : Aside0 (¬ 0 ≤ wrongOf st.secs) := ⟨hw⟩
    clear hw
    go_wp2_with (fail)
    (with_reducible refine HW.out.mono ?_)
    rintro e w5 ⟨rfl, hb5⟩
    have HV5 := Aside0.mk (HVx.out.below (hb5.mono HVx.out.lt))
    have HR5 := Aside0.mk (HRx.out w5 hb5)
    replace e2 := (hb5.cell (World.block_lt_of_cell? wr _ e2)).trans e2
    have v0 := blk_cell HV5.out.b0 0
    have v1 := blk_cell HV5.out.b1 0
    have v2 := blk_cell HV5.out.b2 0
    have z0 := blk_frozen HV5.out.b0 0
    have z1 := blk_frozen HV5.out.b1 0
    have z2 := blk_frozen HV5.out.b2 0
    clear hb5 HW e1 HRx
    go_wp2
    have hb6 : Below w.heap.size w (((w5.setCell ⟨B, 0, none⟩ (.slice A st.secs.length c)).setCell ⟨B + 1, 0, none⟩ (.int .i64 0)).setCell ⟨B + 1 + 1, 0, none⟩ (.int .i64 0)) := by
     rw [HB.out]
     exact ((HV5.out.bl.setCell (p := ⟨B, 0, none⟩) (Nat.le_refl B) _).setCell (p := ⟨B + 1, 0, none⟩) (show B ≤ B + 1 by omega) _).setCell (p := ⟨B + 1 + 1, 0, none⟩) (show B ≤ B + 1 + 1 by omega) _
    have g0 := blk_set HV5.out.b0 0 (.slice A st.secs.length c)
    have s0 := Kd.S_set HR5.out.hS HV5.out.b0 (by decide) 0 (.slice A st.secs.length c)
    have k1 : (w5.setCell ⟨B, 0, none⟩ (.slice A st.secs.length c)).heap[B + 1]? = _ := (Below.heap_setCell w5 ⟨B, 0, none⟩ _ (B + 1) (show B + 1 ≠ B by omega)).trans HV5.out.b1
    have s1 := Kd.S_set s0 k1 (by decide) 0 (.int .i64 0)
    have k2 : ((w5.setCell ⟨B, 0, none⟩ (.slice A st.secs.length c)).setCell ⟨B + 1, 0, none⟩ (.int .i64 0)).heap[B + 1 + 1]? = _ := (Below.heap_setCell _ ⟨B + 1, 0, none⟩ _ (B + 1 + 1) (show B + 1 + 1 ≠ B + 1 by omega)).trans ((Below.heap_setCell w5 ⟨B, 0, none⟩ _ (B + 1 + 1) (show B + 1 + 1 ≠ B by omega)).trans HV5.out.b2)
    have s2 := Kd.S_set s1 k2 (by decide) 0 (.int .i64 0)
    have d0 : (((w5.setCell ⟨B, 0, none⟩ (.slice A st.secs.length c)).setCell ⟨B + 1, 0, none⟩ (.int .i64 0)).setCell ⟨B + 1 + 1, 0, none⟩ (.int .i64 0)).cell? ⟨B, 0, none⟩ = some (.slice A st.secs.length c) := (set_oth (show B + 1 + 1 ≠ B by omega)).trans ((set_oth (show B + 1 ≠ B by omega)).trans (set_same v0))
    have d1 : (((w5.setCell ⟨B, 0, none⟩ (.slice A st.secs.length c)).setCell ⟨B + 1, 0, none⟩ (.int .i64 0)).setCell ⟨B + 1 + 1, 0, none⟩ (.int .i64 0)).cell? ⟨B + 1, 0, none⟩ = some (.int .i64 0) := (set_oth (show B + 1 + 1 ≠ B + 1 by omega)).trans (set_same ((set_oth (show B ≠ B + 1 by omega)).trans v1))
    have d2 : (((w5.setCell ⟨B, 0, none⟩ (.slice A st.secs.length c)).setCell ⟨B + 1, 0, none⟩ (.int .i64 0)).setCell ⟨B + 1 + 1, 0, none⟩ (.int .i64 0)).cell? ⟨B + 1 + 1, 0, none⟩ = some (.int .i64 0) := set_same ((set_oth (show B + 1 ≠ B + 1 + 1 by omega)).trans ((set_oth (show B ≠ B + 1 + 1 by omega)).trans v2))
    have hSS := Kd.S_lower s2 (show B ≤ B + 1 + 1 + 1 + 1 by omega)
    rw [parseEnd_ok st (by have h8 := HW0.out; omega)]
    generalize ((w5.setCell ⟨B, 0, none⟩ (.slice A st.secs.length c)).setCell ⟨B + 1, 0, none⟩ (.int .i64 0)).setCell ⟨B + 1 + 1, 0, none⟩ (.int .i64 0) = w6 at *
    refine leaves_cons (f := 66) (args := #[.pointer (some ⟨B, 0, none⟩), .pointer (some ⟨B + 1, 0, none⟩), .pointer (some ⟨B + 1 + 1, 0, none⟩)]) (by simp) (by simp [go_sem]) ?_
    refine (catch_idle ⟨B, 0, none⟩ ⟨B + 1, 0, none⟩ ⟨B + 1 + 1, 0, none⟩ w6).mono ?_
    rintro e u' w7 ⟨rfl, rfl, hb7⟩
    replace d0 := (hb7.cell (World.block_lt_of_cell? w6 _ d0)).trans d0
    replace d1 := (hb7.cell (World.block_lt_of_cell? w6 _ d1)).trans d1
    replace d2 := (hb7.cell (World.block_lt_of_cell? w6 _ d2)).trans d2
    have hS7 := Kd.S_below hSS hb7
    have hb8 : Below w.heap.size w w7 := hb6.trans (hb7.mono hb6.size)
    have hpost : ParsePost w (.ok st.secs) (.returned (.tuple #[.agg #[.slice A st.secs.length c], .int .i64 0, .int .i64 0])) w7 := ⟨_, rfl, by rw [HB.out]; exact hS7, hb8⟩
    simp [Leaves, settle, results, Tryd.results37, go_sem, d0, d1, d2, hpost]
end Go.Proofs.YtmbhjogohfcjgaaDoor.P
