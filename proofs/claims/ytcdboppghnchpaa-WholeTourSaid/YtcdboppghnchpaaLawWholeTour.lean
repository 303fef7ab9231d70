/-
  WholeTour: for every input the law returns true, and the input reads as it did. Conditions: those of the given row.
-/
import Derived.Test.YtcdboppghnchpaaRows
import Derived.Test.YtcdboppghnchpaaChecked
import Derived.Test.YtcdboppghnchpaaWalkB
import Derived.Test.YtcdboppghnchpaaPlainA
namespace Go.Proofs.Ytcdboppghnchpaa.wholeTour
open Go Go.Proofs.Ytcdboppghnchpaa.Gw Go.ChangeShapes Go.WideShapes Go.ChangeAt Go.RowKit
theorem own : ownKnob Try.prog.godebug = none := by kernel_rfl
theorem laidOut : laidOutB Try.prog = true := by kernel_rfl
theorem rowed : Try.f3.params.toList.all (RowedB Try.prog) = true := by kernel_rfl
set_option maxRecDepth 100000 in
theorem contract (H : Type) (enc : TypeId × Value → H) (W : World) (base : Nat) (args : Array Value) (ds gs : List (DataW H)) (before : List MemPlace)
    (hval : ∀ (j : Nat) t v, Try.f3.params[j]? = some t → args[j]? = some v → Value.okWide Try.prog W .any base t v)
    (hW : DataW.Whole enc Try.prog Try.f3.params.toList Rows.wholeTourSpec.vars false W args.toList ds gs before) (hL : laidMetH Try.prog Rows.wholeTourRow.laid W) :
    Calls Try.prog 3 args W fun e W' => ∃ v, e = .returned v ∧ Rows.wholeTourSpec.post enc Try.prog Try.f3 false true false false W args v W' := by
  have hW0 := hW
  obtain ⟨p, q, hA, hV, hbe, hfz, hnd⟩ := hW
  rw [Try.params3] at hA hval
  replace hA : DataW.TrodAll enc Try.prog W 0 (fun _ => true) true [24, 26] args.toList ds p := hA
  obtain ⟨v0, vs0, d0, ds0, p0, q0, hv0, hd0, hp0, h0, r0⟩ := trodAll_cons hA
  obtain ⟨v1, vs1, d1, ds1, p1, q1, hv1, hd1, hp1, h1, r1⟩ := trodAll_cons r0
  obtain ⟨hvn, hdn, hpn⟩ := trodAll_nil r1
  subst hvn; subst hdn; subst hpn
  subst hv1; subst hd1; subst hp1
  subst hd0; subst hp0
  obtain rfl := args_of hv0
  obtain ⟨c0, x0, rfl, s0, i0⟩ := arg_struct R24 Try.underlying24 (hval 0 24 _ rfl rfl) h0
  obtain ⟨u0_2, e0, t0_2⟩ := dPlan_o s0
  obtain rfl := agg_of e0
  obtain ⟨c1, x1, rfl, s1, i1⟩ := arg_struct R26 Try.underlying26 (hval 1 26 _ rfl rfl) h1
  have e1 := dCell_o s1
  obtain rfl := agg_of e1
  obtain ⟨n, hn⟩ := Evt.get (law_WholeTour x0 i0 x1 i1)
  refine ret_calls (top_WholeTour_ok n W (Bl W)  x0 _ t0_2 x1 (fun _ h => h) true hn) ?_
  rintro v W' ⟨rfl, hc⟩
  exact ⟨_, rfl, post_law laidOut rowed hW0 rfl rfl Try.underlying4 rfl hc⟩
noncomputable def laidWorld (os : Os) : World := World.holding Try.prog os ⟨#[], #[], []⟩
theorem laid_met (os : Os) : laidMet Try.prog Rows.wholeTourRow.laid ((laidWorld os).forCall (fun _ _ => 0) ⟨#[], #[.agg #[.int .i64 0, .int .i64 0, .slice none 0 0], .agg #[.int .i64 0, .int .i64 0]], []⟩).memory :=
  laidMet_of_run' 8 (by kernel_rfl) (by kernel_rfl)
theorem reads (os : Os) {H : Type} (enc : TypeId × Value → H) : ∃ places, DataW.whole enc Try.prog ((laidWorld os).forCall (fun _ _ => 0) ⟨#[], #[.agg #[.int .i64 0, .int .i64 0, .slice none 0 0], .agg #[.int .i64 0, .int .i64 0]], []⟩).memory Try.f3.params.toList Rows.wholeTourSpec.vars false (#[.agg #[.int .i64 0, .int .i64 0, .slice none 0 0], .agg #[.int .i64 0, .int .i64 0]] : Array Value).toList 8 = some ([.agg [.lit (.int .i64 0), .lit (.int .i64 0), .nil], .agg [.lit (.int .i64 0), .lit (.int .i64 0)]], [], places) :=
  ⟨[], by kernel_rfl⟩
set_option maxRecDepth 100000 in
theorem lifted (os : Os) (started : os.Started) (H : Type) (enc : TypeId × Value → H) (F : Stop.Interp) :
    ReturnsInHanded {} Try.checked os 3 .any ((OpenSpec.ofChange Rows.wholeTourSpec).preRow enc Try.prog Try.f3 Rows.wholeTourRow.domain false Rows.wholeTourRow.laid) (((OpenSpec.ofChange Rows.wholeTourSpec).at F).post enc Try.prog Try.f3 false true false false) := by
  obtain ⟨places, hx⟩ := reads os enc
  refine returnsInHanded_of_row (C := Try.checked) (s := OpenSpec.ofChange Rows.wholeTourSpec) own started (by kernel_rfl) Try.func3
    (witness_row_at (enc := enc) (C := Try.checked) false (laidWorld os) #[.agg #[.int .i64 0, .int .i64 0, .slice none 0 0], .agg #[.int .i64 0, .int .i64 0]] rfl (by kernel_rfl) (by kernel_rfl) (by kernel_rfl)
      (OpenSpec.preRow_of_cond 8 hx (by kernel_rfl) (fun k hk => by cases hk) (by kernel_rfl) (laid_met os))) ?_
  intro W base args ds gs before hval hW _ _ _ hL _ _
  exact contract H enc W base args ds gs before hval hW hL
set_option maxRecDepth 100000 in
theorem said : Rows.WholeTourSaid :=
  OpenClaim.holds_of_cond 3 Try.f3 rfl rfl rfl rfl rfl rfl rfl ⟨rfl, rfl, rfl, rfl, rfl⟩ rfl rfl rfl rfl rfl (by kernel_rfl) Try.func3 (by kernel_rfl)
    (of_decide_eq_true (by kernel_rfl)) (by unfold Func.isWrapper; first | (rw [if_pos (by decide +kernel)]; kernel_rfl) | (rw [if_neg (by decide +kernel)]; exact ⟨rfl, rfl⟩))
    (fun os started H enc _ F => by rw [OpenClaim.pre_eq_preRow]; exact lifted os started H enc F)
end Go.Proofs.Ytcdboppghnchpaa.wholeTour
