/-
  RationalTexts: for every input the law returns true, and the input reads as it did. Conditions: those of the given row.
-/
import Derived.Test.YtepadjfmcbjkmaaGreatDoorCards
import Derived.Test.YtepadjfmcbjkmaaGreatDoorTie
import Derived.Test.YtepadjfmcbjkmaaGreatDoorWalkC
import Derived.Test.YtepadjfmcbjkmaaGreatDoorPlainB
import Derived.Lay
import Derived.MakeChecks
namespace Go.Proofs.YtepadjfmcbjkmaaGreatDoor.rationalTexts
open Go Go.Proofs.YtepadjfmcbjkmaaGreatDoor.Gw Go.ChangeShapes Go.WideShapes Go.ChangeAt Go.RowKit
theorem own : ownKnob Tryz.prog.godebug = none := by kernel_rfl
theorem laidOut : laidOutB Tryz.prog = true := by kernel_rfl
theorem rowed : Tryz.f7.params.toList.all (RowedB Tryz.prog) = true := by kernel_rfl
theorem gTab0 : Tryz.prog.globalNamed "internal/strconv.uint64pow10" = some 4 := by kernel_rfl
theorem gTabType0 : (Tryz.prog.globals[4]?).map (·.type) = some 151 := by kernel_rfl
theorem laidPlain {W : World} (h : laidMetH Tryz.prog Rows.rationalTextsRow.laid W) : laidMet Tryz.prog Rows.rationalTextsRow.laid W := (MakeChecks.laidMetH_plain _ _ _ (by kernel_rfl)).mp h
theorem table {W : World} (h : laidMetH Tryz.prog Rows.rationalTextsRow.laid W) : Tb W (Bl W) 4 .u64 pow10 :=
  Tb.of (tabIs_of_mem gTab0 gTabType0 Tryz.underlying151 Tryz.underlying75 (by kernel_rfl) (by kernel_rfl) (laidPlain h) (List.mem_of_getElem? (i := 2) (by kernel_rfl))) gTab0
set_option maxRecDepth 100000 in
theorem contract (H : Type) (enc : TypeId × Value → H) (W : World) (base : Nat) (args : Array Value) (ds gs : List (DataW H)) (before : List MemPlace)
    (hval : ∀ (j : Nat) t v, Tryz.f7.params[j]? = some t → args[j]? = some v → Value.okWide Tryz.prog W .any base t v)
    (hW : DataW.Whole enc Tryz.prog Tryz.f7.params.toList Rows.rationalTextsSpec.vars false W args.toList ds gs before) (hL : laidMetH Tryz.prog Rows.rationalTextsRow.laid W) :
    Calls Tryz.prog 7 args W fun e W' => ∃ v, e = .returned v ∧ Rows.rationalTextsSpec.post enc Tryz.prog Tryz.f7 false true false false W args v W' := by
  have hW0 := hW
  obtain ⟨p, q, hA, hV, hbe, hfz, hnd⟩ := hW
  rw [Tryz.params7] at hA hval
  replace hA : DataW.TrodAll enc Tryz.prog W 0 (fun _ => true) true [26, 26] args.toList ds p := hA
  obtain ⟨v0, vs0, d0, ds0, p0, q0, hv0, hd0, hp0, h0, r0⟩ := trodAll_cons hA
  obtain ⟨v1, vs1, d1, ds1, p1, q1, hv1, hd1, hp1, h1, r1⟩ := trodAll_cons r0
  obtain ⟨hvn, hdn, hpn⟩ := trodAll_nil r1
  subst hvn; subst hdn; subst hpn
  subst hv1; subst hd1; subst hp1
  subst hd0; subst hp0
  obtain rfl := args_of hv0
  obtain ⟨c0, x0, rfl, s0, i0⟩ := arg_struct R26 Tryz.underlying26 (hval 0 26 _ rfl rfl) h0
  obtain ⟨u0_1, u0_3, e0, t0_1, t0_3⟩ := dRational_o s0
  obtain rfl := agg_of e0
  obtain ⟨c1, x1, rfl, s1, i1⟩ := arg_struct R26 Tryz.underlying26 (hval 1 26 _ rfl rfl) h1
  obtain ⟨u1_1, u1_3, e1, t1_1, t1_3⟩ := dRational_o s1
  obtain rfl := agg_of e1
  obtain ⟨n, hn⟩ := Evt.get (law_RationalTexts x0 i0 x1 i1)
  refine ret_calls (law02_RationalTexts_ok n W (Bl W) (table hL) x0 _ t0_1 _ t0_3 x1 _ t1_1 _ t1_3 (fun _ h => h) true hn) ?_
  rintro v W' ⟨rfl, hc⟩
  exact ⟨_, rfl, post_law laidOut rowed hW0 rfl rfl Tryz.underlying4 rfl hc⟩
noncomputable def laidWorld (os : Os) : World := World.laidAll Tryz.prog os Rows.rationalTextsRow.laid
theorem laid_met (os : Os) : laidMet Tryz.prog Rows.rationalTextsRow.laid ((laidWorld os).forCall (fun _ _ => 0) ⟨#[], #[.agg #[.bool false, .slice none 0 0, .bool false, .slice none 0 0], .agg #[.bool false, .slice none 0 0, .bool false, .slice none 0 0]], []⟩).memory :=
  laidMet_laidAll _ (by kernel_rfl) (by kernel_rfl)
theorem reads (os : Os) {H : Type} (enc : TypeId × Value → H) : ∃ places, DataW.whole enc Tryz.prog ((laidWorld os).forCall (fun _ _ => 0) ⟨#[], #[.agg #[.bool false, .slice none 0 0, .bool false, .slice none 0 0], .agg #[.bool false, .slice none 0 0, .bool false, .slice none 0 0]], []⟩).memory Tryz.f7.params.toList Rows.rationalTextsSpec.vars false (#[.agg #[.bool false, .slice none 0 0, .bool false, .slice none 0 0], .agg #[.bool false, .slice none 0 0, .bool false, .slice none 0 0]] : Array Value).toList 8 = some ([.agg [.agg [.lit (.bool false), .nil], .agg [.lit (.bool false), .nil]], .agg [.agg [.lit (.bool false), .nil], .agg [.lit (.bool false), .nil]]], [], places) :=
  ⟨[], by kernel_rfl⟩
set_option maxRecDepth 100000 in
theorem lifted (os : Os) (started : os.Started) (H : Type) (enc : TypeId × Value → H) (F : Stop.Interp) :
    ReturnsInHanded {} Tryz.checked os 7 .any ((OpenSpec.ofChange Rows.rationalTextsSpec).preRow enc Tryz.prog Tryz.f7 Rows.rationalTextsRow.domain false Rows.rationalTextsRow.laid) (((OpenSpec.ofChange Rows.rationalTextsSpec).at F).post enc Tryz.prog Tryz.f7 false true false false) := by
  obtain ⟨places, hx⟩ := reads os enc
  refine returnsInHanded_of_row (C := Tryz.checked) (s := OpenSpec.ofChange Rows.rationalTextsSpec) own started (by kernel_rfl) Tryz.func7
    (witness_row_at (enc := enc) (C := Tryz.checked) false (laidWorld os) #[.agg #[.bool false, .slice none 0 0, .bool false, .slice none 0 0], .agg #[.bool false, .slice none 0 0, .bool false, .slice none 0 0]] (World.laidAll_os _ _ _) (by kernel_rfl) (by kernel_rfl) (by kernel_rfl)
      (OpenSpec.preRow_of_cond 8 hx (by kernel_rfl) (fun k hk => by cases hk) (by kernel_rfl) (laid_met os))) ?_
  intro W base args ds gs before hval hW _ _ _ hL _ _
  exact contract H enc W base args ds gs before hval hW hL
set_option maxRecDepth 100000 in
theorem said : Rows.RationalTextsSaid :=
  OpenClaim.holds_of_cond 7 Tryz.f7 rfl rfl rfl rfl rfl rfl rfl ⟨rfl, rfl, rfl, rfl, rfl⟩ rfl rfl rfl rfl rfl (by kernel_rfl) Tryz.func7 (by kernel_rfl)
    (of_decide_eq_true (by kernel_rfl)) (by unfold Func.isWrapper; first | (rw [if_pos (by decide +kernel)]; kernel_rfl) | (rw [if_neg (by decide +kernel)]; exact ⟨rfl, rfl⟩))
    (fun os started H enc _ F => by rw [OpenClaim.pre_eq_preRow]; exact lifted os started H enc F)
theorem plain (f : FuncId) (fn : Func) (hf : Tryz.pinned.checked.prog.funcNamed "wayfinder/wayfinderlaw02.RationalTexts" = some f) (hfn : Tryz.pinned.checked.prog.funcs[f]? = some fn) :
    true = Tryz.pinned.checked.prog.looks [] ∧ ∀ (j : Nat) t, fn.params[j]? = some t → Tryz.pinned.checked.prog.wantsStandIn t = false := by
  obtain rfl : f = 7 := Option.some.inj ((show Tryz.prog.funcNamed "wayfinder/wayfinderlaw02.RationalTexts" = some 7 by kernel_rfl).symm.trans hf) |>.symm
  obtain rfl : fn = Tryz.f7 := (Option.some.inj (Tryz.func7.symm.trans hfn)).symm
  refine ⟨by kernel_rfl, fun j t ht => ?_⟩
  rw [Tryz.params7] at ht
  have hm := Array.mem_of_getElem? ht
  simp only [List.mem_toArray, List.mem_cons, List.not_mem_nil, or_false] at hm
  rcases hm with rfl | rfl
  · exact (show Tryz.prog.wantsStandIn 26 = false by kernel_rfl)
  · exact (show Tryz.prog.wantsStandIn 26 = false by kernel_rfl)
theorem card : Rows.RationalTextsCardSaid :=
  Claim7.holds_tied_plain_at .later [] _ _ _ _ said (fun _ h => by cases h) (by kernel_rfl) (fun _ h => by cases h) rationalTexts_row_tie rfl ⟨rfl, rfl⟩ (by kernel_rfl) rfl plain (by kernel_rfl)
#print axioms card
end Go.Proofs.YtepadjfmcbjkmaaGreatDoor.rationalTexts
