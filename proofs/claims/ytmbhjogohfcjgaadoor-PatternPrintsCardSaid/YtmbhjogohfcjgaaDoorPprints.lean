/- PatternPrints, the row and its card: in every world that holds the listed variables, for every pattern, the statement answers true and leaves all that was there as it was. -/
import Derived.Test.YtmbhjogohfcjgaaDoorPr0
import Derived.Test.YtmbhjogohfcjgaaDoorPk
namespace Go.Proofs.YtmbhjogohfcjgaaDoor.Pr.patternPrints
open Go.Deep Go.ChangeShapes Go.WideShapes Go.ChangeAt Go.RowKit Go.Proofs.YtmbhjogohfcjgaaDoor.P Go.Proofs.YtmbhjogohfcjgaaDoorW.PrintWords
set_option linter.unusedVariables false
theorem walk (A0 : Option Addr) (c0 : Nat) (l : List S62) (W : World) (hG : GL W) (hC : Kd.C k62 W A0 l.length l) (hc : l.length ≤ c0) :
  Calls Tryd.prog 8 #[.agg #[.slice A0 l.length c0]] W fun e W' => e = .returned (.bool true) ∧ Below W.heap.size W W' :=
 (prints_true l).elim fun k hk => tabardlaw13_PatternPrints.calls k A0 c0 l true W hG hC hc hk
set_option maxRecDepth 100000 in
theorem contract (H : Type) (enc : TypeId × Value → H) (W : World) (base : Nat) (args : Array Value) (ds gs : List (DataW H)) (before : List MemPlace)
  (hval0 : ∀ (j : Nat) t v, Tryd.f8.params[j]? = some t → args[j]? = some v → Value.okWide Tryd.prog W .any base t v)
  (hW : DataW.Whole enc Tryd.prog Tryd.f8.params.toList Rows.patternPrintsSpec.vars false W args.toList ds gs before) (hL : laidMetH Tryd.prog Rows.patternPrintsRow.laid W) (hsh : W.ShapedOpen Tryd.prog) :
  Calls Tryd.prog 8 args W fun e W' => ∃ v, e = .returned v ∧ Rows.patternPrintsSpec.post enc Tryd.prog Tryd.f8 false true false false W args v W' := by
 have hval : ∀ (j : Nat) t v, Tryd.f8.params[j]? = some t → args[j]? = some v → Value.okWide Tryd.prog W .any base t v := hval0
 have hW' := hW
 obtain ⟨p, q, hA0, hV, rfl, hfz, hnd⟩ := hW
 have hA : DataW.TrodAll enc Tryd.prog W 0 (fun _ => true) true Tryd.f8.params.toList args.toList ds p := hA0
 rw [Tryd.params8] at hA hval
 obtain ⟨v0, vs0, d0, ds0, p0, q0, hargs, rfl, rfl, h0, r0⟩ := trodAll_cons hA
 obtain ⟨rfl, rfl, rfl⟩ := trodAll_nil r0
 obtain rfl : args = #[v0] := by cases args; simp_all
 obtain ⟨rfl, rfl⟩ := trodVars_none hV
 have k0 := h0
 have lt0 : ∀ x ∈ p0, x.block < W.heap.size := by obtain ⟨m, hm⟩ := k0; exact DataW.trod_lt m _ _ _ hm
 obtain ⟨A0, c0, l, rfl, hc, hC⟩ := pattern_open (hval 0 55 v0 rfl rfl) h0
 clear hA0 hval0
 refine (walk A0 c0 l W (gl_of hL hsh) hC hc).mono fun e W' ⟨he, bel⟩ => ?_
 subst he
 exact ⟨_, rfl, _, _, _, [], _, [], hW', trodAll_mk1 (shut_bool Tryd.underlying4 _), trodAll_cons_mk (Below.trod laidOut (by kernel_rfl) (of_decide_eq_true (by kernel_rfl)) k0 bel lt0) trodAll_mk0, rfl, bel.frame _, fun h => by cases h⟩
theorem reads (os : Os) {H : Type} (enc : TypeId × Value → H) : ∃ places, DataW.whole enc Tryd.prog ((laidWorld os).forCall (fun _ _ => 0) ⟨#[], #[.agg #[.slice none 0 0]], []⟩).memory Tryd.f8.params.toList Rows.patternPrintsSpec.vars false #[Value.agg #[.slice none 0 0]].toList 8 = some ([.agg [.nil]], [], places) :=
 ⟨[], by kernel_rfl⟩
set_option maxRecDepth 100000 in
theorem lifted (os : Os) (started : os.Started) (H : Type) (enc : TypeId × Value → H) (F : Stop.Interp) :
  ReturnsInHanded {} Tryd.checked os 8 .any ((OpenSpec.ofChange Rows.patternPrintsSpec).preRow enc Tryd.prog Tryd.f8 Rows.patternPrintsRow.domain false Rows.patternPrintsRow.laid) (((OpenSpec.ofChange Rows.patternPrintsSpec).at F).post enc Tryd.prog Tryd.f8 false true false false) := by
 obtain ⟨places, hx⟩ := reads os enc
 refine returnsInHanded_of_row (C := Tryd.checked) (s := OpenSpec.ofChange Rows.patternPrintsSpec) own started (by kernel_rfl) Tryd.func8
  (witness_row_at (enc := enc) (C := Tryd.checked) false (laidWorld os) #[.agg #[.slice none 0 0]] rfl (by kernel_rfl) (by kernel_rfl) (by kernel_rfl)
   (OpenSpec.preRow_of_cond 8 hx (by kernel_rfl) (fun k hk => by cases hk) (by kernel_rfl) (laid_met os _))) ?_
 intro W base args ds gs before hval hW _ _ _ hL hsh _
 exact contract H enc W base args ds gs before hval hW hL hsh
theorem said : Rows.PatternPrintsSaid :=
 OpenClaim.holds_of_cond 8 Tryd.f8 rfl rfl rfl rfl rfl rfl rfl ⟨rfl, rfl, rfl, rfl, rfl⟩ rfl rfl rfl rfl rfl (by kernel_rfl) Tryd.func8 (by kernel_rfl)
  (of_decide_eq_true (by kernel_rfl)) (by unfold Func.isWrapper; first | (rw [if_pos (by decide +kernel)]; kernel_rfl) | (rw [if_neg (by decide +kernel)]; exact ⟨rfl, rfl⟩))
  (fun os started H enc _ F => by rw [OpenClaim.pre_eq_preRow]; exact lifted os started H enc F)
theorem plain (f : FuncId) (fn : Func) (hf : Tryd.pinned.checked.prog.funcNamed "tabard/tabardlaw13.PatternPrints" = some f) (hfn : Tryd.pinned.checked.prog.funcs[f]? = some fn) :
  true = Tryd.pinned.checked.prog.looks [] ∧ ∀ (j : Nat) t, fn.params[j]? = some t → Tryd.pinned.checked.prog.wantsStandIn t = false := by
 obtain rfl : f = 8 := Option.some.inj ((show Tryd.prog.funcNamed "tabard/tabardlaw13.PatternPrints" = some 8 by kernel_rfl).symm.trans hf) |>.symm
 obtain rfl : fn = Tryd.f8 := (Option.some.inj (Tryd.func8.symm.trans hfn)).symm
 refine ⟨by kernel_rfl, fun j t ht => ?_⟩
 rw [Tryd.params8] at ht
 have hm := Array.mem_of_getElem? ht
 have h : t = 55 := by simpa using hm
 subst h
 exact (show Tryd.prog.wantsStandIn 55 = false by kernel_rfl)
theorem card : Rows.PatternPrintsCardSaid :=
 Claim7.holds_tied_plain_at .later [] _ _ _ _ said (fun _ h => by cases h) (by kernel_rfl) (fun _ h => by cases h) patternPrints_row_tie rfl ⟨rfl, rfl⟩ (by kernel_rfl) rfl plain (by kernel_rfl)
end Go.Proofs.YtmbhjogohfcjgaaDoor.Pr.patternPrints
namespace Go.Proofs.YtmbhjogohfcjgaaDoor
theorem patternPrints_card : Rows.PatternPrintsCardSaid := Pr.patternPrints.card
#print axioms patternPrints_card
end Go.Proofs.YtmbhjogohfcjgaaDoor
