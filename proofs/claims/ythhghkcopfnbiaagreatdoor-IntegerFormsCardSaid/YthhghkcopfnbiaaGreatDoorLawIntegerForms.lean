/-
  IntegerForms: for every input the law returns true, and the input reads as it did. Conditions: those of the given row.
-/
import Derived.Test.YthhghkcopfnbiaaGreatDoorCards
import Derived.Test.YthhghkcopfnbiaaGreatDoorTie
import Derived.Test.YthhghkcopfnbiaaGreatDoorWalkB
import Derived.Test.YthhghkcopfnbiaaGreatDoorPlainB
import Derived.Lay
import Derived.MakeChecks
namespace Go.Proofs.YthhghkcopfnbiaaGreatDoor.integerForms
open Go Go.Proofs.YthhghkcopfnbiaaGreatDoor.Gw Go.ChangeShapes Go.WideShapes Go.ChangeAt Go.RowKit
theorem own : ownKnob Tryz.prog.godebug = none := by kernel_rfl
theorem laidOut : laidOutB Tryz.prog = true := by kernel_rfl
theorem rowed : Tryz.f10.params.toList.all (RowedB Tryz.prog) = true := by kernel_rfl
theorem gTab0 : Tryz.prog.globalNamed "internal/strconv.uint64pow10" = some 1 := by kernel_rfl
theorem gTabType0 : (Tryz.prog.globals[1]?).map (·.type) = some 115 := by kernel_rfl
theorem laidPlain {W : World} (h : laidMetH Tryz.prog Rows.integerFormsRow.laid W) : laidMet Tryz.prog Rows.integerFormsRow.laid W := (MakeChecks.laidMetH_plain _ _ _ (by kernel_rfl)).mp h
theorem table {W : World} (h : laidMetH Tryz.prog Rows.integerFormsRow.laid W) : Tb W (Bl W) 1 .u64 pow10 :=
  Tb.of (tabIs_of_mem gTab0 gTabType0 Tryz.underlying115 Tryz.underlying49 (by kernel_rfl) (by kernel_rfl) (laidPlain h) (List.mem_of_getElem? (i := 2) (by kernel_rfl))) gTab0
set_option maxRecDepth 100000 in
theorem contract (H : Type) (enc : TypeId × Value → H) (W : World) (base : Nat) (args : Array Value) (ds gs : List (DataW H)) (before : List MemPlace)
    (hval : ∀ (j : Nat) t v, Tryz.f10.params[j]? = some t → args[j]? = some v → Value.okWide Tryz.prog W .any base t v)
    (hW : DataW.Whole enc Tryz.prog Tryz.f10.params.toList Rows.integerFormsSpec.vars false W args.toList ds gs before) (hL : laidMetH Tryz.prog Rows.integerFormsRow.laid W) :
    Calls Tryz.prog 10 args W fun e W' => ∃ v, e = .returned v ∧ Rows.integerFormsSpec.post enc Tryz.prog Tryz.f10 false true false false W args v W' := by
  have hW0 := hW
  obtain ⟨p, q, hA, hV, hbe, hfz, hnd⟩ := hW
  rw [Tryz.params10] at hA hval
  replace hA : DataW.TrodAll enc Tryz.prog W 0 (fun _ => true) true [24, 24, 5] args.toList ds p := hA
  obtain ⟨v0, vs0, d0, ds0, p0, q0, hv0, hd0, hp0, h0, r0⟩ := trodAll_cons hA
  obtain ⟨v1, vs1, d1, ds1, p1, q1, hv1, hd1, hp1, h1, r1⟩ := trodAll_cons r0
  obtain ⟨v2, vs2, d2, ds2, p2, q2, hv2, hd2, hp2, h2, r2⟩ := trodAll_cons r1
  obtain ⟨hvn, hdn, hpn⟩ := trodAll_nil r2
  subst hvn; subst hdn; subst hpn
  subst hv2; subst hd2; subst hp2
  subst hv1; subst hd1; subst hp1
  subst hd0; subst hp0
  obtain rfl := args_of hv0
  obtain ⟨c0, x0, rfl, s0, i0⟩ := arg_struct R24 Tryz.underlying24 (hval 0 24 _ rfl rfl) h0
  obtain ⟨u0_1, e0, t0_1⟩ := dInt_2_o s0
  obtain rfl := agg_of e0
  obtain ⟨c1, x1, rfl, s1, i1⟩ := arg_struct R24 Tryz.underlying24 (hval 1 24 _ rfl rfl) h1
  obtain ⟨u1_1, e1, t1_1⟩ := dInt_2_o s1
  obtain rfl := agg_of e1
  obtain ⟨x2, rfl, i2⟩ := arg_int R5 Tryz.underlying5 (hval 2 5 _ rfl rfl) h2
  obtain ⟨n, hn⟩ := Evt.get (law_IntegerForms x0 i0 x1 i1 x2 i2)
  refine ret_calls (law01_IntegerForms_ok n W (Bl W) (table hL) x0 _ t0_1 x1 _ t1_1 x2 (fun _ h => h) true hn) ?_
  rintro v W' ⟨rfl, hc⟩
  exact ⟨_, rfl, post_law laidOut rowed hW0 rfl rfl Tryz.underlying4 rfl hc⟩
noncomputable def laidWorld (os : Os) : World := World.laidAll Tryz.prog os Rows.integerFormsRow.laid
theorem laid_met (os : Os) : laidMet Tryz.prog Rows.integerFormsRow.laid ((laidWorld os).forCall (fun _ _ => 0) ⟨#[], #[.agg #[.bool false, .slice none 0 0], .agg #[.bool false, .slice none 0 0], .int .u8 0], []⟩).memory :=
  laidMet_laidAll _ (by kernel_rfl) (by kernel_rfl)
theorem reads (os : Os) {H : Type} (enc : TypeId × Value → H) : ∃ places, DataW.whole enc Tryz.prog ((laidWorld os).forCall (fun _ _ => 0) ⟨#[], #[.agg #[.bool false, .slice none 0 0], .agg #[.bool false, .slice none 0 0], .int .u8 0], []⟩).memory Tryz.f10.params.toList Rows.integerFormsSpec.vars false (#[.agg #[.bool false, .slice none 0 0], .agg #[.bool false, .slice none 0 0], .int .u8 0] : Array Value).toList 8 = some ([.agg [.lit (.bool false), .nil], .agg [.lit (.bool false), .nil], .lit (.int .u8 0)], [], places) :=
  ⟨[], by kernel_rfl⟩
set_option maxRecDepth 100000 in
theorem lifted (os : Os) (started : os.Started) (H : Type) (enc : TypeId × Value → H) (F : Stop.Interp) :
    ReturnsInHanded {} Tryz.checked os 10 .any ((OpenSpec.ofChange Rows.integerFormsSpec).preRow enc Tryz.prog Tryz.f10 Rows.integerFormsRow.domain false Rows.integerFormsRow.laid) (((OpenSpec.ofChange Rows.integerFormsSpec).at F).post enc Tryz.prog Tryz.f10 false true false false) := by
  obtain ⟨places, hx⟩ := reads os enc
  refine returnsInHanded_of_row (C := Tryz.checked) (s := OpenSpec.ofChange Rows.integerFormsSpec) own started (by kernel_rfl) Tryz.func10
    (witness_row_at (enc := enc) (C := Tryz.checked) false (laidWorld os) #[.agg #[.bool false, .slice none 0 0], .agg #[.bool false, .slice none 0 0], .int .u8 0] (World.laidAll_os _ _ _) (by kernel_rfl) (by kernel_rfl) (by kernel_rfl)
      (OpenSpec.preRow_of_cond 8 hx (by kernel_rfl) (fun k hk => by cases hk) (by kernel_rfl) (laid_met os))) ?_
  intro W base args ds gs before hval hW _ _ _ hL _ _
  exact contract H enc W base args ds gs before hval hW hL
set_option maxRecDepth 100000 in
theorem said : Rows.IntegerFormsSaid :=
  OpenClaim.holds_of_cond 10 Tryz.f10 rfl rfl rfl rfl rfl rfl rfl ⟨rfl, rfl, rfl, rfl, rfl⟩ rfl rfl rfl rfl rfl (by kernel_rfl) Tryz.func10 (by kernel_rfl)
    (of_decide_eq_true (by kernel_rfl)) (by unfold Func.isWrapper; first | (rw [if_pos (by decide +kernel)]; kernel_rfl) | (rw [if_neg (by decide +kernel)]; exact ⟨rfl, rfl⟩))
    (fun os started H enc _ F => by rw [OpenClaim.pre_eq_preRow]; exact lifted os started H enc F)
theorem plain (f : FuncId) (fn : Func) (hf : Tryz.pinned.checked.prog.funcNamed "wayfinder/wayfinderlaw01.IntegerForms" = some f) (hfn : Tryz.pinned.checked.prog.funcs[f]? = some fn) :
    true = Tryz.pinned.checked.prog.looks [] ∧ ∀ (j : Nat) t, fn.params[j]? = some t → Tryz.pinned.checked.prog.wantsStandIn t = false := by
  obtain rfl : f = 10 := Option.some.inj ((show Tryz.prog.funcNamed "wayfinder/wayfinderlaw01.IntegerForms" = some 10 by kernel_rfl).symm.trans hf) |>.symm
  obtain rfl : fn = Tryz.f10 := (Option.some.inj (Tryz.func10.symm.trans hfn)).symm
  refine ⟨by kernel_rfl, fun j t ht => ?_⟩
  rw [Tryz.params10] at ht
  have hm := Array.mem_of_getElem? ht
  simp only [List.mem_toArray, List.mem_cons, List.not_mem_nil, or_false] at hm
  rcases hm with rfl | rfl | rfl
  · exact (show Tryz.prog.wantsStandIn 24 = false by kernel_rfl)
  · exact (show Tryz.prog.wantsStandIn 24 = false by kernel_rfl)
  · exact (show Tryz.prog.wantsStandIn 5 = false by kernel_rfl)
theorem card : Rows.IntegerFormsCardSaid :=
  Claim7.holds_tied_plain_at .later [] _ _ _ _ said (fun _ h => by cases h) (by kernel_rfl) (fun _ h => by cases h) integerForms_row_tie rfl ⟨rfl, rfl⟩ (by kernel_rfl) rfl plain (by kernel_rfl)
#print axioms card
end Go.Proofs.YthhghkcopfnbiaaGreatDoor.integerForms
