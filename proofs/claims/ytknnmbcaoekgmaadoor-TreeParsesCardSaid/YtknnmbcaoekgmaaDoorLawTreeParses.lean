/-
  TreeParses: for every input the law returns true, and the input reads as it did. Conditions: those of the given row.
-/
import Derived.Test.YtknnmbcaoekgmaaDoorCards
import Derived.Test.YtknnmbcaoekgmaaDoorTie
import Derived.Test.YtknnmbcaoekgmaaDoorWalkB
import Derived.Test.YtknnmbcaoekgmaaDoorPlainA
import Derived.Lay
import Derived.MakeChecks
namespace Go.Proofs.YtknnmbcaoekgmaaDoor.treeParses
open Go Go.Proofs.YtknnmbcaoekgmaaDoor.Gw Go.ChangeShapes Go.WideShapes Go.ChangeAt Go.RowKit
theorem own : ownKnob Tryd.prog.godebug = none := by kernel_rfl
theorem laidOut : laidOutB Tryd.prog = true := by kernel_rfl
theorem rowed : Tryd.f4.params.toList.all (RowedB Tryd.prog) = true := by kernel_rfl
theorem gTab0 : Tryd.prog.globalNamed "internal/strconv.uint64pow10" = some 1 := by kernel_rfl
theorem gTabType0 : (Tryd.prog.globals[1]?).map (·.type) = some 106 := by kernel_rfl
theorem laidPlain {W : World} (h : laidMetH Tryd.prog Rows.treeParsesRow.laid W) : laidMet Tryd.prog Rows.treeParsesRow.laid W := (MakeChecks.laidMetH_plain _ _ _ (by kernel_rfl)).mp h
theorem table {W : World} (h : laidMetH Tryd.prog Rows.treeParsesRow.laid W) : Tb W (Bl W) 1 .u64 pow10 :=
  Tb.of (tabIs_of_mem gTab0 gTabType0 Tryd.underlying106 Tryd.underlying93 (by kernel_rfl) (by kernel_rfl) (laidPlain h) (List.mem_of_getElem? (i := 2) (by kernel_rfl))) gTab0
set_option maxRecDepth 100000 in
theorem contract (H : Type) (enc : TypeId × Value → H) (W : World) (base : Nat) (args : Array Value) (ds gs : List (DataW H)) (before : List MemPlace)
    (hval : ∀ (j : Nat) t v, Tryd.f4.params[j]? = some t → args[j]? = some v → Value.okWide Tryd.prog W .any base t v)
    (hW : DataW.Whole enc Tryd.prog Tryd.f4.params.toList Rows.treeParsesSpec.vars false W args.toList ds gs before) (hL : laidMetH Tryd.prog Rows.treeParsesRow.laid W) :
    Calls Tryd.prog 4 args W fun e W' => ∃ v, e = .returned v ∧ Rows.treeParsesSpec.post enc Tryd.prog Tryd.f4 false true false false W args v W' := by
  have hW0 := hW
  obtain ⟨p, q, hA, hV, hbe, hfz, hnd⟩ := hW
  rw [Tryd.params4] at hA hval
  replace hA : DataW.TrodAll enc Tryd.prog W 0 (fun _ => true) true [9] args.toList ds p := hA
  obtain ⟨v0, vs0, d0, ds0, p0, q0, hv0, hd0, hp0, h0, r0⟩ := trodAll_cons hA
  obtain ⟨hvn, hdn, hpn⟩ := trodAll_nil r0
  subst hvn; subst hdn; subst hpn
  subst hd0; subst hp0
  obtain rfl := args_of hv0
  obtain ⟨x0, rfl, i0⟩ := arg_string R9 Tryd.underlying9 (hval 0 9 _ rfl rfl) h0
  obtain ⟨n, hn⟩ := Evt.get (law_TreeParses x0 i0)
  refine ret_calls (law41_TreeParses_ok n W (Bl W) (table hL) x0 (fun _ h => h) true hn) ?_
  rintro v W' ⟨rfl, hc⟩
  exact ⟨_, rfl, post_law laidOut rowed hW0 rfl rfl Tryd.underlying4 rfl hc⟩
noncomputable def laidWorld (os : Os) : World := World.laidAll Tryd.prog os Rows.treeParsesRow.laid
theorem laid_met (os : Os) : laidMet Tryd.prog Rows.treeParsesRow.laid ((laidWorld os).forCall (fun _ _ => 0) ⟨#[], #[.string ByteArray.empty], []⟩).memory :=
  laidMet_laidAll _ (by kernel_rfl) (by kernel_rfl)
theorem reads (os : Os) {H : Type} (enc : TypeId × Value → H) : ∃ places, DataW.whole enc Tryd.prog ((laidWorld os).forCall (fun _ _ => 0) ⟨#[], #[.string ByteArray.empty], []⟩).memory Tryd.f4.params.toList Rows.treeParsesSpec.vars false (#[.string ByteArray.empty] : Array Value).toList 8 = some ([.lit (.string [])], [], places) :=
  ⟨[], by kernel_rfl⟩
set_option maxRecDepth 100000 in
theorem lifted (os : Os) (started : os.Started) (H : Type) (enc : TypeId × Value → H) (F : Stop.Interp) :
    ReturnsInHanded {} Tryd.checked os 4 .any ((OpenSpec.ofChange Rows.treeParsesSpec).preRow enc Tryd.prog Tryd.f4 Rows.treeParsesRow.domain false Rows.treeParsesRow.laid) (((OpenSpec.ofChange Rows.treeParsesSpec).at F).post enc Tryd.prog Tryd.f4 false true false false) := by
  obtain ⟨places, hx⟩ := reads os enc
  refine returnsInHanded_of_row (C := Tryd.checked) (s := OpenSpec.ofChange Rows.treeParsesSpec) own started (by kernel_rfl) Tryd.func4
    (witness_row_at (enc := enc) (C := Tryd.checked) false (laidWorld os) #[.string ByteArray.empty] (World.laidAll_os _ _ _) (by kernel_rfl) (by kernel_rfl) (by kernel_rfl)
      (OpenSpec.preRow_of_cond 8 hx (by kernel_rfl) (fun k hk => by cases hk) (by kernel_rfl) (laid_met os))) ?_
  intro W base args ds gs before hval hW _ _ _ hL _ _
  exact contract H enc W base args ds gs before hval hW hL
set_option maxRecDepth 100000 in
theorem said : Rows.TreeParsesSaid :=
  OpenClaim.holds_of_cond 4 Tryd.f4 rfl rfl rfl rfl rfl rfl rfl ⟨rfl, rfl, rfl, rfl, rfl⟩ rfl rfl rfl rfl rfl (by kernel_rfl) Tryd.func4 (by kernel_rfl)
    (of_decide_eq_true (by kernel_rfl)) (by unfold Func.isWrapper; first | (rw [if_pos (by decide +kernel)]; kernel_rfl) | (rw [if_neg (by decide +kernel)]; exact ⟨rfl, rfl⟩))
    (fun os started H enc _ F => by rw [OpenClaim.pre_eq_preRow]; exact lifted os started H enc F)
theorem plain (f : FuncId) (fn : Func) (hf : Tryd.pinned.checked.prog.funcNamed "wayfinder/wayfinderlaw41.TreeParses" = some f) (hfn : Tryd.pinned.checked.prog.funcs[f]? = some fn) :
    true = Tryd.pinned.checked.prog.looks [] ∧ ∀ (j : Nat) t, fn.params[j]? = some t → Tryd.pinned.checked.prog.wantsStandIn t = false := by
  obtain rfl : f = 4 := Option.some.inj ((show Tryd.prog.funcNamed "wayfinder/wayfinderlaw41.TreeParses" = some 4 by kernel_rfl).symm.trans hf) |>.symm
  obtain rfl : fn = Tryd.f4 := (Option.some.inj (Tryd.func4.symm.trans hfn)).symm
  refine ⟨by kernel_rfl, fun j t ht => ?_⟩
  rw [Tryd.params4] at ht
  have hm := Array.mem_of_getElem? ht
  simp only [List.mem_toArray, List.mem_cons, List.not_mem_nil, or_false] at hm
  rcases hm with rfl
  · exact (show Tryd.prog.wantsStandIn 9 = false by kernel_rfl)
theorem card : Rows.TreeParsesCardSaid :=
  Claim7.holds_tied_plain_at .later [] _ _ _ _ said (fun _ h => by cases h) (by kernel_rfl) (fun _ h => by cases h) treeParses_row_tie rfl ⟨rfl, rfl⟩ (by kernel_rfl) rfl plain (by kernel_rfl)
#print axioms card
end Go.Proofs.YtknnmbcaoekgmaaDoor.treeParses
