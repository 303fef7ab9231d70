/-
  WholeMission: for every input the law returns true, and the input reads as it did. Conditions: those of the given row.
-/
import Derived.Test.YtcdboppghnchpaaDoorCards
import Derived.Test.YtcdboppghnchpaaDoorTie
import Derived.Test.YtcdboppghnchpaaDoorWalkB
import Derived.Test.YtcdboppghnchpaaDoorPlainA
import Derived.Lay
import Derived.MakeChecks
namespace Go.Proofs.YtcdboppghnchpaaDoor.wholeMission
open Go Go.Proofs.YtcdboppghnchpaaDoor.Gw Go.ChangeShapes Go.WideShapes Go.ChangeAt Go.RowKit
theorem own : ownKnob Tryd.prog.godebug = none := by kernel_rfl
theorem laidOut : laidOutB Tryd.prog = true := by kernel_rfl
theorem rowed : Tryd.f4.params.toList.all (RowedB Tryd.prog) = true := by kernel_rfl
theorem gTab0 : Tryd.prog.globalNamed "internal/strconv.uint64pow10" = some 2 := by kernel_rfl
theorem gTabType0 : (Tryd.prog.globals[2]?).map (·.type) = some 196 := by kernel_rfl
theorem laidPlain {W : World} (h : laidMetH Tryd.prog Rows.wholeMissionRow.laid W) : laidMet Tryd.prog Rows.wholeMissionRow.laid W := (MakeChecks.laidMetH_plain _ _ _ (by kernel_rfl)).mp h
theorem table {W : World} (h : laidMetH Tryd.prog Rows.wholeMissionRow.laid W) : Tb W (Bl W) 2 .u64 pow10 :=
  Tb.of (tabIs_of_mem gTab0 gTabType0 Tryd.underlying196 Tryd.underlying129 (by kernel_rfl) (by kernel_rfl) (laidPlain h) (List.mem_of_getElem? (i := 2) (by kernel_rfl))) gTab0
set_option maxRecDepth 100000 in
theorem contract (H : Type) (enc : TypeId × Value → H) (W : World) (base : Nat) (args : Array Value) (ds gs : List (DataW H)) (before : List MemPlace)
    (hval : ∀ (j : Nat) t v, Tryd.f4.params[j]? = some t → args[j]? = some v → Value.okWide Tryd.prog W .any base t v)
    (hW : DataW.Whole enc Tryd.prog Tryd.f4.params.toList Rows.wholeMissionSpec.vars false W args.toList ds gs before) (hL : laidMetH Tryd.prog Rows.wholeMissionRow.laid W) :
    Calls Tryd.prog 4 args W fun e W' => ∃ v, e = .returned v ∧ Rows.wholeMissionSpec.post enc Tryd.prog Tryd.f4 false true false false W args v W' := by
  have hW0 := hW
  obtain ⟨p, q, hA, hV, hbe, hfz, hnd⟩ := hW
  rw [Tryd.params4] at hA hval
  replace hA : DataW.TrodAll enc Tryd.prog W 0 (fun _ => true) true [49, 50] args.toList ds p := hA
  obtain ⟨v0, vs0, d0, ds0, p0, q0, hv0, hd0, hp0, h0, r0⟩ := trodAll_cons hA
  obtain ⟨v1, vs1, d1, ds1, p1, q1, hv1, hd1, hp1, h1, r1⟩ := trodAll_cons r0
  obtain ⟨hvn, hdn, hpn⟩ := trodAll_nil r1
  subst hvn; subst hdn; subst hpn
  subst hv1; subst hd1; subst hp1
  subst hd0; subst hp0
  obtain rfl := args_of hv0
  obtain ⟨x0, s0, i0⟩ := arg_slice R49 Tryd.underlying49 (hval 0 49 _ rfl rfl) h0
  obtain ⟨x1, s1, i1⟩ := arg_slice R50 Tryd.underlying50 (hval 1 50 _ rfl rfl) h1
  obtain ⟨n, hn⟩ := Evt.get (law_WholeMission x0 i0 x1 i1)
  refine ret_calls (top_WholeMission_ok n W (Bl W) (table hL) x0 _ s0 x1 _ s1 (fun _ h => h) true hn) ?_
  rintro v W' ⟨rfl, hc⟩
  exact ⟨_, rfl, post_law laidOut rowed hW0 rfl rfl Tryd.underlying4 rfl hc⟩
noncomputable def laidWorld (os : Os) : World := World.laidAll Tryd.prog os Rows.wholeMissionRow.laid
theorem laid_met (os : Os) : laidMet Tryd.prog Rows.wholeMissionRow.laid ((laidWorld os).forCall (fun _ _ => 0) ⟨#[], #[.slice none 0 0, .slice none 0 0], []⟩).memory :=
  laidMet_laidAll _ (by kernel_rfl) (by kernel_rfl)
theorem reads (os : Os) {H : Type} (enc : TypeId × Value → H) : ∃ places, DataW.whole enc Tryd.prog ((laidWorld os).forCall (fun _ _ => 0) ⟨#[], #[.slice none 0 0, .slice none 0 0], []⟩).memory Tryd.f4.params.toList Rows.wholeMissionSpec.vars false (#[.slice none 0 0, .slice none 0 0] : Array Value).toList 8 = some ([.nil, .nil], [], places) :=
  ⟨[], by kernel_rfl⟩
set_option maxRecDepth 100000 in
theorem lifted (os : Os) (started : os.Started) (H : Type) (enc : TypeId × Value → H) (F : Stop.Interp) :
    ReturnsInHanded {} Tryd.checked os 4 .any ((OpenSpec.ofChange Rows.wholeMissionSpec).preRow enc Tryd.prog Tryd.f4 Rows.wholeMissionRow.domain false Rows.wholeMissionRow.laid) (((OpenSpec.ofChange Rows.wholeMissionSpec).at F).post enc Tryd.prog Tryd.f4 false true false false) := by
  obtain ⟨places, hx⟩ := reads os enc
  refine returnsInHanded_of_row (C := Tryd.checked) (s := OpenSpec.ofChange Rows.wholeMissionSpec) own started (by kernel_rfl) Tryd.func4
    (witness_row_at (enc := enc) (C := Tryd.checked) false (laidWorld os) #[.slice none 0 0, .slice none 0 0] (World.laidAll_os _ _ _) (by kernel_rfl) (by kernel_rfl) (by kernel_rfl)
      (OpenSpec.preRow_of_cond 8 hx (by kernel_rfl) (fun k hk => by cases hk) (by kernel_rfl) (laid_met os))) ?_
  intro W base args ds gs before hval hW _ _ _ hL _ _
  exact contract H enc W base args ds gs before hval hW hL
set_option maxRecDepth 100000 in
theorem said : Rows.WholeMissionSaid :=
  OpenClaim.holds_of_cond 4 Tryd.f4 rfl rfl rfl rfl rfl rfl rfl ⟨rfl, rfl, rfl, rfl, rfl⟩ rfl rfl rfl rfl rfl (by kernel_rfl) Tryd.func4 (by kernel_rfl)
    (of_decide_eq_true (by kernel_rfl)) (by unfold Func.isWrapper; first | (rw [if_pos (by decide +kernel)]; kernel_rfl) | (rw [if_neg (by decide +kernel)]; exact ⟨rfl, rfl⟩))
    (fun os started H enc _ F => by rw [OpenClaim.pre_eq_preRow]; exact lifted os started H enc F)
theorem plain (f : FuncId) (fn : Func) (hf : Tryd.pinned.checked.prog.funcNamed "wayfinder/wayfindertop.WholeMission" = some f) (hfn : Tryd.pinned.checked.prog.funcs[f]? = some fn) :
    true = Tryd.pinned.checked.prog.looks [] ∧ ∀ (j : Nat) t, fn.params[j]? = some t → Tryd.pinned.checked.prog.wantsStandIn t = false := by
  obtain rfl : f = 4 := Option.some.inj ((show Tryd.prog.funcNamed "wayfinder/wayfindertop.WholeMission" = some 4 by kernel_rfl).symm.trans hf) |>.symm
  obtain rfl : fn = Tryd.f4 := (Option.some.inj (Tryd.func4.symm.trans hfn)).symm
  refine ⟨by kernel_rfl, fun j t ht => ?_⟩
  rw [Tryd.params4] at ht
  have hm := Array.mem_of_getElem? ht
  simp only [List.mem_toArray, List.mem_cons, List.not_mem_nil, or_false] at hm
  rcases hm with rfl | rfl
  · exact (show Tryd.prog.wantsStandIn 49 = false by kernel_rfl)
  · exact (show Tryd.prog.wantsStandIn 50 = false by kernel_rfl)
theorem card : Rows.WholeMissionCardSaid :=
  Claim7.holds_tied_plain_at .later [] _ _ _ _ said (fun _ h => by cases h) (by kernel_rfl) (fun _ h => by cases h) wholeMission_row_tie rfl ⟨rfl, rfl⟩ (by kernel_rfl) rfl plain (by kernel_rfl)
#print axioms card
end Go.Proofs.YtcdboppghnchpaaDoor.wholeMission
