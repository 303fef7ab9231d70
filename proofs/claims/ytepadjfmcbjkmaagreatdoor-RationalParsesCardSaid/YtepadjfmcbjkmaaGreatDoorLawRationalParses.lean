/-
  RationalParses: for every input the law returns true, and the input reads as it did. Conditions: those of the given row.
-/
import Derived.Test.YtepadjfmcbjkmaaGreatDoorCards
import Derived.Test.YtepadjfmcbjkmaaGreatDoorTie
import Derived.Test.YtepadjfmcbjkmaaGreatDoorWalkC
import Derived.Test.YtepadjfmcbjkmaaGreatDoorPlainB
import Derived.Lay
import Derived.MakeChecks
namespace Go.Proofs.YtepadjfmcbjkmaaGreatDoor.rationalParses
open Go Go.Proofs.YtepadjfmcbjkmaaGreatDoor.Gw Go.ChangeShapes Go.WideShapes Go.ChangeAt Go.RowKit
theorem own : ownKnob Tryz.prog.godebug = none := by kernel_rfl
theorem laidOut : laidOutB Tryz.prog = true := by kernel_rfl
theorem rowed : Tryz.f6.params.toList.all (RowedB Tryz.prog) = true := by kernel_rfl
theorem gTab0 : Tryz.prog.globalNamed "internal/strconv.uint64pow10" = some 4 := by kernel_rfl
theorem gTabType0 : (Tryz.prog.globals[4]?).map (·.type) = some 151 := by kernel_rfl
theorem laidPlain {W : World} (h : laidMetH Tryz.prog Rows.rationalParsesRow.laid W) : laidMet Tryz.prog Rows.rationalParsesRow.laid W := (MakeChecks.laidMetH_plain _ _ _ (by kernel_rfl)).mp h
theorem table {W : World} (h : laidMetH Tryz.prog Rows.rationalParsesRow.laid W) : Tb W (Bl W) 4 .u64 pow10 :=
  Tb.of (tabIs_of_mem gTab0 gTabType0 Tryz.underlying151 Tryz.underlying75 (by kernel_rfl) (by kernel_rfl) (laidPlain h) (List.mem_of_getElem? (i := 2) (by kernel_rfl))) gTab0
set_option maxRecDepth 100000 in
theorem contract (H : Type) (enc : TypeId × Value → H) (W : World) (base : Nat) (args : Array Value) (ds gs : List (DataW H)) (before : List MemPlace)
    (hval : ∀ (j : Nat) t v, Tryz.f6.params[j]? = some t → args[j]? = some v → Value.okWide Tryz.prog W .any base t v)
    (hW : DataW.Whole enc Tryz.prog Tryz.f6.params.toList Rows.rationalParsesSpec.vars false W args.toList ds gs before) (hL : laidMetH Tryz.prog Rows.rationalParsesRow.laid W) :
    Calls Tryz.prog 6 args W fun e W' => ∃ v, e = .returned v ∧ Rows.rationalParsesSpec.post enc Tryz.prog Tryz.f6 false true false false W args v W' := by
  have hW0 := hW
  obtain ⟨p, q, hA, hV, hbe, hfz, hnd⟩ := hW
  rw [Tryz.params6] at hA hval
  replace hA : DataW.TrodAll enc Tryz.prog W 0 (fun _ => true) true [9, 50] args.toList ds p := hA
  obtain ⟨v0, vs0, d0, ds0, p0, q0, hv0, hd0, hp0, h0, r0⟩ := trodAll_cons hA
  obtain ⟨v1, vs1, d1, ds1, p1, q1, hv1, hd1, hp1, h1, r1⟩ := trodAll_cons r0
  obtain ⟨hvn, hdn, hpn⟩ := trodAll_nil r1
  subst hvn; subst hdn; subst hpn
  subst hv1; subst hd1; subst hp1
  subst hd0; subst hp0
  obtain rfl := args_of hv0
  obtain ⟨x0, rfl, i0⟩ := arg_string R9 Tryz.underlying9 (hval 0 9 _ rfl rfl) h0
  obtain ⟨x1, rfl, i1⟩ := arg_int R50 Tryz.underlying50 (hval 1 50 _ rfl rfl) h1
  obtain ⟨n, hn⟩ := Evt.get (law_RationalParses x0 i0 x1 i1)
  refine ret_calls (law02_RationalParses_ok n W (Bl W) (table hL) x0 x1 (fun _ h => h) true hn) ?_
  rintro v W' ⟨rfl, hc⟩
  exact ⟨_, rfl, post_law laidOut rowed hW0 rfl rfl Tryz.underlying4 rfl hc⟩
noncomputable def laidWorld (os : Os) : World := World.laidAll Tryz.prog os Rows.rationalParsesRow.laid
theorem laid_met (os : Os) : laidMet Tryz.prog Rows.rationalParsesRow.laid ((laidWorld os).forCall (fun _ _ => 0) ⟨#[], #[.string ByteArray.empty, .int .u16 0], []⟩).memory :=
  laidMet_laidAll _ (by kernel_rfl) (by kernel_rfl)
theorem reads (os : Os) {H : Type} (enc : TypeId × Value → H) : ∃ places, DataW.whole enc Tryz.prog ((laidWorld os).forCall (fun _ _ => 0) ⟨#[], #[.string ByteArray.empty, .int .u16 0], []⟩).memory Tryz.f6.params.toList Rows.rationalParsesSpec.vars false (#[.string ByteArray.empty, .int .u16 0] : Array Value).toList 8 = some ([.lit (.string []), .lit (.int .u16 0)], [], places) :=
  ⟨[], by kernel_rfl⟩
set_option maxRecDepth 100000 in
theorem lifted (os : Os) (started : os.Started) (H : Type) (enc : TypeId × Value → H) (F : Stop.Interp) :
    ReturnsInHanded {} Tryz.checked os 6 .any ((OpenSpec.ofChange Rows.rationalParsesSpec).preRow enc Tryz.prog Tryz.f6 Rows.rationalParsesRow.domain false Rows.rationalParsesRow.laid) (((OpenSpec.ofChange Rows.rationalParsesSpec).at F).post enc Tryz.prog Tryz.f6 false true false false) := by
  obtain ⟨places, hx⟩ := reads os enc
  refine returnsInHanded_of_row (C := Tryz.checked) (s := OpenSpec.ofChange Rows.rationalParsesSpec) own started (by kernel_rfl) Tryz.func6
    (witness_row_at (enc := enc) (C := Tryz.checked) false (laidWorld os) #[.string ByteArray.empty, .int .u16 0] (World.laidAll_os _ _ _) (by kernel_rfl) (by kernel_rfl) (by kernel_rfl)
      (OpenSpec.preRow_of_cond 8 hx (by kernel_rfl) (fun k hk => by cases hk) (by kernel_rfl) (laid_met os))) ?_
  intro W base args ds gs before hval hW _ _ _ hL _ _
  exact contract H enc W base args ds gs before hval hW hL
set_option maxRecDepth 100000 in
theorem said : Rows.RationalParsesSaid :=
  OpenClaim.holds_of_cond 6 Tryz.f6 rfl rfl rfl rfl rfl rfl rfl ⟨rfl, rfl, rfl, rfl, rfl⟩ rfl rfl rfl rfl rfl (by kernel_rfl) Tryz.func6 (by kernel_rfl)
    (of_decide_eq_true (by kernel_rfl)) (by unfold Func.isWrapper; first | (rw [if_pos (by decide +kernel)]; kernel_rfl) | (rw [if_neg (by decide +kernel)]; exact ⟨rfl, rfl⟩))
    (fun os started H enc _ F => by rw [OpenClaim.pre_eq_preRow]; exact lifted os started H enc F)
theorem plain (f : FuncId) (fn : Func) (hf : Tryz.pinned.checked.prog.funcNamed "wayfinder/wayfinderlaw02.RationalParses" = some f) (hfn : Tryz.pinned.checked.prog.funcs[f]? = some fn) :
    true = Tryz.pinned.checked.prog.looks [] ∧ ∀ (j : Nat) t, fn.params[j]? = some t → Tryz.pinned.checked.prog.wantsStandIn t = false := by
  obtain rfl : f = 6 := Option.some.inj ((show Tryz.prog.funcNamed "wayfinder/wayfinderlaw02.RationalParses" = some 6 by kernel_rfl).symm.trans hf) |>.symm
  obtain rfl : fn = Tryz.f6 := (Option.some.inj (Tryz.func6.symm.trans hfn)).symm
  refine ⟨by kernel_rfl, fun j t ht => ?_⟩
  rw [Tryz.params6] at ht
  have hm := Array.mem_of_getElem? ht
  simp only [List.mem_toArray, List.mem_cons, List.not_mem_nil, or_false] at hm
  rcases hm with rfl | rfl
  · exact (show Tryz.prog.wantsStandIn 9 = false by kernel_rfl)
  · exact (show Tryz.prog.wantsStandIn 50 = false by kernel_rfl)
theorem card : Rows.RationalParsesCardSaid :=
  Claim7.holds_tied_plain_at .later [] _ _ _ _ said (fun _ h => by cases h) (by kernel_rfl) (fun _ h => by cases h) rationalParses_row_tie rfl ⟨rfl, rfl⟩ (by kernel_rfl) rfl plain (by kernel_rfl)
#print axioms card
end Go.Proofs.YtepadjfmcbjkmaaGreatDoor.rationalParses
