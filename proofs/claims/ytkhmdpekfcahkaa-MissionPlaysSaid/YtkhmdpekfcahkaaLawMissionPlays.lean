/-
  MissionPlays: for every input the law returns true, and the input reads as it did. Conditions: those of the given row.
-/
import Derived.Test.YtkhmdpekfcahkaaRows
import Derived.Test.YtkhmdpekfcahkaaChecked
import Derived.Test.YtkhmdpekfcahkaaWalkC
import Derived.Test.YtkhmdpekfcahkaaPlainA
namespace Go.Proofs.Ytkhmdpekfcahkaa.missionPlays
open Go Go.Proofs.Ytkhmdpekfcahkaa.Gw Go.ChangeShapes Go.WideShapes Go.ChangeAt Go.RowKit
theorem own : ownKnob Try.prog.godebug = none := by kernel_rfl
theorem laidOut : laidOutB Try.prog = true := by kernel_rfl
theorem rowed : Try.f7.params.toList.all (RowedB Try.prog) = true := by kernel_rfl
set_option maxRecDepth 100000 in
theorem contract (H : Type) (enc : TypeId × Value → H) (W : World) (base : Nat) (args : Array Value) (ds gs : List (DataW H)) (before : List MemPlace)
    (hval : ∀ (j : Nat) t v, Try.f7.params[j]? = some t → args[j]? = some v → Value.okWide Try.prog W .any base t v)
    (hW : DataW.Whole enc Try.prog Try.f7.params.toList Rows.missionPlaysSpec.vars false W args.toList ds gs before) (hL : laidMetH Try.prog Rows.missionPlaysRow.laid W) :
    Calls Try.prog 7 args W fun e W' => ∃ v, e = .returned v ∧ Rows.missionPlaysSpec.post enc Try.prog Try.f7 false true false false W args v W' := by
  have hW0 := hW
  obtain ⟨p, q, hA, hV, hbe, hfz, hnd⟩ := hW
  rw [Try.params7] at hA hval
  replace hA : DataW.TrodAll enc Try.prog W 0 (fun _ => true) true [22, 23] args.toList ds p := hA
  obtain ⟨v0, vs0, d0, ds0, p0, q0, hv0, hd0, hp0, h0, r0⟩ := trodAll_cons hA
  obtain ⟨v1, vs1, d1, ds1, p1, q1, hv1, hd1, hp1, h1, r1⟩ := trodAll_cons r0
  obtain ⟨hvn, hdn, hpn⟩ := trodAll_nil r1
  subst hvn; subst hdn; subst hpn
  subst hv1; subst hd1; subst hp1
  subst hd0; subst hp0
  obtain rfl := args_of hv0
  obtain ⟨x0, s0, i0⟩ := arg_slice R22 Try.underlying22 (hval 0 22 _ rfl rfl) h0
  obtain ⟨x1, s1, i1⟩ := arg_slice R23 Try.underlying23 (hval 1 23 _ rfl rfl) h1
  obtain ⟨n, hn⟩ := Evt.get (law_MissionPlays x0 i0 x1 i1)
  refine ret_calls (law42_MissionPlays_ok n W (Bl W)  x0 _ s0 x1 _ s1 (fun _ h => h) true hn) ?_
  rintro v W' ⟨rfl, hc⟩
  exact ⟨_, rfl, post_law laidOut rowed hW0 rfl rfl Try.underlying4 rfl hc⟩
noncomputable def laidWorld (os : Os) : World := World.holding Try.prog os ⟨#[], #[], []⟩
theorem laid_met (os : Os) : laidMet Try.prog Rows.missionPlaysRow.laid ((laidWorld os).forCall (fun _ _ => 0) ⟨#[], #[.slice none 0 0, .slice none 0 0], []⟩).memory :=
  laidMet_of_run' 8 (by kernel_rfl) (by kernel_rfl)
theorem reads (os : Os) {H : Type} (enc : TypeId × Value → H) : ∃ places, DataW.whole enc Try.prog ((laidWorld os).forCall (fun _ _ => 0) ⟨#[], #[.slice none 0 0, .slice none 0 0], []⟩).memory Try.f7.params.toList Rows.missionPlaysSpec.vars false (#[.slice none 0 0, .slice none 0 0] : Array Value).toList 8 = some ([.nil, .nil], [], places) :=
  ⟨[], by kernel_rfl⟩
set_option maxRecDepth 100000 in
theorem lifted (os : Os) (started : os.Started) (H : Type) (enc : TypeId × Value → H) (F : Stop.Interp) :
    ReturnsInHanded {} Try.checked os 7 .any ((OpenSpec.ofChange Rows.missionPlaysSpec).preRow enc Try.prog Try.f7 Rows.missionPlaysRow.domain false Rows.missionPlaysRow.laid) (((OpenSpec.ofChange Rows.missionPlaysSpec).at F).post enc Try.prog Try.f7 false true false false) := by
  obtain ⟨places, hx⟩ := reads os enc
  refine returnsInHanded_of_row (C := Try.checked) (s := OpenSpec.ofChange Rows.missionPlaysSpec) own started (by kernel_rfl) Try.func7
    (witness_row_at (enc := enc) (C := Try.checked) false (laidWorld os) #[.slice none 0 0, .slice none 0 0] rfl (by kernel_rfl) (by kernel_rfl) (by kernel_rfl)
      (OpenSpec.preRow_of_cond 8 hx (by kernel_rfl) (fun k hk => by cases hk) (by kernel_rfl) (laid_met os))) ?_
  intro W base args ds gs before hval hW _ _ _ hL _ _
  exact contract H enc W base args ds gs before hval hW hL
set_option maxRecDepth 100000 in
theorem said : Rows.MissionPlaysSaid :=
  OpenClaim.holds_of_cond 7 Try.f7 rfl rfl rfl rfl rfl rfl rfl ⟨rfl, rfl, rfl, rfl, rfl⟩ rfl rfl rfl rfl rfl (by kernel_rfl) Try.func7 (by kernel_rfl)
    (of_decide_eq_true (by kernel_rfl)) (by unfold Func.isWrapper; first | (rw [if_pos (by decide +kernel)]; kernel_rfl) | (rw [if_neg (by decide +kernel)]; exact ⟨rfl, rfl⟩))
    (fun os started H enc _ F => by rw [OpenClaim.pre_eq_preRow]; exact lifted os started H enc F)
end Go.Proofs.Ytkhmdpekfcahkaa.missionPlays
