/-
  Each function of the program computes the plain function of its name.
-/
import Derived.Test.YtcdboppghnchpaaDoorFactsA
import Derived.Test.YtcdboppghnchpaaDoorCoreA
import Derived.Lib.Builder
import Derived.WalkKit
import Derived.Laws.Externs
namespace Go.Proofs.YtcdboppghnchpaaDoor
open Go Go.Proofs.YtcdboppghnchpaaDoor.Gw Go.RowKit
set_option linter.unusedVariables false
attribute [local irreducible] Ev EvQ EvS EvH
def mission_within_S (f : Int → Int → Int → Option Bool) : Prop := ∀ (w0 : World) (I0 : Nat → Prop) (x1 : Int) (x2 : Int) (x3 : Int) (hI : ∀ g, I0 g → g < w0.heap.size) (r : Bool), f x1 x2 x3 = some r →
    Ret Tryd.prog 73 #[(.int .i64 x1), (.int .i64 x2), (.int .i64 x3)] w0 fun v w1 => v = (.bool r) ∧ Ch [] w0 w1
theorem mission_within_ok (n : Nat) : mission_within_S (mission_within n) := by
  intro w0 I0 x1 x2 x3 hI r h
  unfold mission_within at h
  refine enter Tryd.func73 rfl (Nat.le_of_ble_eq_true rfl) ?_
  have hp : Hp ⟨w0, I0, []⟩ I0 [] w0 := Hp.start hI
  apply go
  apply go
  obtain ⟨y5, q6, h⟩ := bind_some h
  refine W.cut (γ := Bool) (fun g => [(6, (.bool (g)))]) (fun g w' => y5 = (g) ∧ w0 = w') ?_ ?_
  ·
    apply go
    refine sel_of (fun hc => ?_) (fun hc => ?_)
    ·
      have q6 := cond_t q6 hc
      obtain rfl := Option.some.inj q6
      exact ⟨(decide (x1 ≤ x3)), (.c rfl .n), rfl, rfl⟩
    ·
      have q6 := cond_f q6 hc
      obtain rfl := Option.some.inj q6
      exact ⟨false, (.c rfl .n), rfl, rfl⟩
  ·
    rintro x4 _ ⟨hy, rfl⟩
    replace hy := hy.symm
    subst hy
    apply go
    obtain rfl := Option.some.inj h
    exact ⟨rfl, hp.ch⟩

end Go.Proofs.YtcdboppghnchpaaDoor

namespace Go.Proofs.YtcdboppghnchpaaDoor
open Go Go.Proofs.YtcdboppghnchpaaDoor.Gw Go.RowKit
set_option linter.unusedVariables false
attribute [local irreducible] Ev EvQ EvS EvH
def mission_valid_S (f : Task → Option Bool) : Prop := ∀ (w0 : World) (I0 : Nat → Prop) (x7 : Task) (hI : ∀ g, I0 g → g < w0.heap.size) (r : Bool), f x7 = some r →
    Ret Tryd.prog 43 #[(.agg #[(.int .i64 x7.Kind), (.int .i64 x7.Cell.X), (.int .i64 x7.Cell.Y), (.int .i64 x7.Limit), (.int .i64 x7.Tries)])] w0 fun v w1 => v = (.bool r) ∧ Ch [] w0 w1
theorem mission_valid_ok (n : Nat) : mission_valid_S (mission_valid n) := by
  intro w0 I0 x7 hI r h
  unfold mission_valid at h
  refine enter Tryd.func43 rfl (Nat.le_of_ble_eq_true rfl) ?_
  have hp : Hp ⟨w0, I0, []⟩ I0 [] w0 := Hp.start hI
  apply go
  apply go
  refine ev_boxI hp rfl rfl ?_
  intro p10 I11 w9 hp hs a12
  apply go
  apply go
  obtain ⟨y17, q18, h⟩ := bind_some h
  refine W.cut (γ := Int) (fun g => [(1, (.pointer (some (p10)))), (3, (.int .i64 (g)))]) (fun g w' => y17 = .go (g) ∧ w9 = w') ?_ ?_
  ·
    apply go
    apply go
    refine ev0 (rn_field rfl rfl FO89_0) ?_
    refine ev (rn_load rfl rfl (run_loadVar1 T3 (a12.2 0 _ rfl))) ?_
    apply go
    apply go
    apply go
    apply go
    refine sel_of (fun hc => ?_) (fun hc => ?_)
    ·
      have q18 := cond_t q18 hc
      apply go
      obtain rfl := Option.some.inj q18
      exact ⟨63, (.c rfl (.c rfl .n)), rfl, rfl⟩
    ·
      have q18 := cond_f q18 hc
      obtain ⟨y20, q21, q18⟩ := bind_some q18
      refine W.cut (γ := Bool) (fun g => [(1, (.pointer (some (p10)))), (3, (.int .i64 0)), (8, (.bool (g)))]) (fun g w' => y20 = (g) ∧ w9 = w') ?_ ?_
      ·
        apply go
        apply go
        apply go
        refine sel_of (fun hc => ?_) (fun hc => ?_)
        ·
          have q21 := cond_t q21 hc
          apply go
          obtain rfl := Option.some.inj q21
          exact ⟨(x7.Kind == 2), (.c rfl (.c rfl (.c rfl .n))), rfl, rfl⟩
        ·
          have q21 := cond_f q21 hc
          apply go
          obtain rfl := Option.some.inj q21
          exact ⟨(x7.Kind == 3), (.c rfl (.c rfl (.c rfl .n))), rfl, rfl⟩
      ·
        rintro x19 _ ⟨hy, rfl⟩
        replace hy := hy.symm
        subst hy
        apply go
        refine sel_of (fun hc => ?_) (fun hc => ?_)
        ·
          have q18 := cond_t q18 hc
          apply go
          obtain rfl := Option.some.inj q18
          exact ⟨0, (.c rfl (.c rfl .n)), rfl, rfl⟩
        ·
          have q18 := cond_f q18 hc
          apply go
          apply go
          apply go
          obtain rfl := Option.some.inj q18
          obtain rfl := Option.some.inj h
          exact ⟨rfl, hp.ch⟩
  ·
    rintro x16 _ ⟨hy, rfl⟩
    replace hy := hy.symm
    subst hy
    obtain ⟨y36, q37, h⟩ := bind_some h
    refine W.cut (γ := Bool) (fun g => [(2, (.bool (g)))]) (fun g w' => y36 = (g) ∧ Hp ⟨w0, I0, []⟩ I11 [] w') ?_ ?_
    ·
      apply go
      refine ev0 (rn_field rfl rfl FO89_1) ?_
      refine ev0 (rn_fieldAt rfl rfl FO87_0) ?_
      refine ev (rn_load rfl rfl (run_loadVar1 T3 (a12.2 1 _ rfl))) ?_
      obtain ⟨x38, q39, q37⟩ := bind_some q37
      refine ev_call rfl rfl C73 (((mission_within_ok n) _ _  x7.Cell.X 0 x16 hp.imm _ q39).mono ?_)
      rintro _ w40 ⟨rfl, hc⟩
      have hs := hp.stp hc
      replace hp := hp.ext hc
      replace a12 := a12.step hs
      refine sel_of (fun hc => ?_) (fun hc => ?_)
      ·
        have q37 := cond_t q37 hc
        refine ev0 (rn_field rfl rfl FO89_1) ?_
        refine ev0 (rn_fieldAt rfl rfl FO87_1) ?_
        refine ev (rn_load rfl rfl (run_loadVar1 T3 (a12.2 2 _ rfl))) ?_
        obtain ⟨x41, q42, q37⟩ := bind_some q37
        refine ev_call rfl rfl C73 (((mission_within_ok n) _ _  x7.Cell.Y 0 x16 hp.imm _ q42).mono ?_)
        rintro _ w43 ⟨rfl, hc⟩
        have hs := hp.stp hc
        replace hp := hp.ext hc
        replace a12 := a12.step hs
        refine sel_of (fun hc => ?_) (fun hc => ?_)
        ·
          have q37 := cond_t q37 hc
          refine ev0 (rn_field rfl rfl FO89_2) ?_
          refine ev (rn_load rfl rfl (run_loadVar1 T3 (a12.2 3 _ rfl))) ?_
          obtain ⟨x44, q45, q37⟩ := bind_some q37
          refine ev_call rfl rfl C73 (((mission_within_ok n) _ _  x7.Limit 1 1000 hp.imm _ q45).mono ?_)
          rintro _ w46 ⟨rfl, hc⟩
          have hs := hp.stp hc
          replace hp := hp.ext hc
          replace a12 := a12.step hs
          refine sel_of (fun hc => ?_) (fun hc => ?_)
          ·
            have q37 := cond_t q37 hc
            refine ev0 (rn_field rfl rfl FO89_3) ?_
            refine ev (rn_load rfl rfl (run_loadVar1 T3 (a12.2 4 _ rfl))) ?_
            obtain ⟨x47, q48, q37⟩ := bind_some q37
            refine ev_call rfl rfl C73 (((mission_within_ok n) _ _  x7.Tries 1 10 hp.imm _ q48).mono ?_)
            rintro _ w49 ⟨rfl, hc⟩
            have hs := hp.stp hc
            replace hp := hp.ext hc
            obtain rfl := Option.some.inj q37
            exact ⟨x47, (.c rfl .n), rfl, hp⟩
          ·
            have q37 := cond_f q37 hc
            obtain rfl := Option.some.inj q37
            exact ⟨false, (.c rfl .n), rfl, hp⟩
        ·
          have q37 := cond_f q37 hc
          obtain rfl := Option.some.inj q37
          exact ⟨false, (.c rfl .n), rfl, hp⟩
      ·
        have q37 := cond_f q37 hc
        obtain rfl := Option.some.inj q37
        exact ⟨false, (.c rfl .n), rfl, hp⟩
    ·
      rintro x34 w35 ⟨hy, hp⟩
      replace hy := hy.symm
      subst hy
      apply go
      obtain rfl := Option.some.inj h
      exact ⟨rfl, hp.ch⟩

end Go.Proofs.YtcdboppghnchpaaDoor

namespace Go.Proofs.YtcdboppghnchpaaDoor
open Go Go.Proofs.YtcdboppghnchpaaDoor.Gw Go.RowKit
set_option linter.unusedVariables false
attribute [local irreducible] Ev EvQ EvS EvH
def mission_one_S (f : Int → Task → Option Node) : Prop := ∀ (w0 : World) (I0 : Nat → Prop) (x50 : Int) (x51 : Task) (hI : ∀ g, I0 g → g < w0.heap.size) (r : Node), f x50 x51 = some r →
    Ret Tryd.prog 44 #[(.int .i64 x50), (.agg #[(.int .i64 x51.Kind), (.int .i64 x51.Cell.X), (.int .i64 x51.Cell.Y), (.int .i64 x51.Limit), (.int .i64 x51.Tries)])] w0 fun v w1 => ∃ (I1 : Nat → Prop) (u52 : Value), v = (.agg #[(.int .i64 r.Kind), (.int .i64 r.Name), (.int .i64 r.Count), u52]) ∧ Hp ⟨w0, I0, []⟩ I1 [] w1 ∧ RepS dNode w1 I1 u52 r.Kids
theorem mission_one_ok (n : Nat) : mission_one_S (mission_one n) := by
  intro w0 I0 x50 x51 hI r h
  unfold mission_one at h
  refine enter Tryd.func44 rfl (Nat.le_of_ble_eq_true rfl) ?_
  have hp : Hp ⟨w0, I0, []⟩ I0 [] w0 := Hp.start hI
  apply go
  apply go
  refine ev_boxI hp rfl rfl ?_
  intro p55 I56 w54 hp hs a57
  refine ev_alloc hp rfl T57 ?_
  intro g58 w59 hp hs
  replace a57 := a57.step hs
  apply go
  apply go
  refine ev0 (fun w => rn_build (cs := [(.int .i64 1), (.int .i64 (IntKind.i64.wrap (32 + x50))), (.int .i64 0), (.slice none 0 0)]) rfl rfl T57 PL57 rfl) ?_
  refine ev0 (fun w => rn_build (cs := [(.int .i64 2), (.int .i64 63), (.int .i64 0), (.slice none 0 0)]) rfl rfl T57 PL57 rfl) ?_
  refine ev_litN (d := dNode) (xs := [(Node.mk 1 (IntKind.i64.wrap (32 + x50)) 0 []), (Node.mk 2 63 0 [])]) (cs := [(.int .i64 1), (.int .i64 (IntKind.i64.wrap (32 + x50))), (.int .i64 0), (.slice none 0 0), (.int .i64 2), (.int .i64 63), (.int .i64 0), (.slice none 0 0)]) hp rfl rfl Tryd.underlying55 T57 (by decide) (by kernel_rfl) rfl (Elems.cons (d := dNode) (xs := _) (dNode_m (x := (Node.mk 1 (IntKind.i64.wrap (32 + x50)) 0 [])) (RepS.nil _ _ _)) (Elems.cons (d := dNode) (xs := _) (dNode_m (x := (Node.mk 2 63 0 [])) (RepS.nil _ _ _)) (Elems.nil _ _ _ _))) ?_
  intro v60 I62 w61 hp hs r63
  replace a57 := a57.step hs
  obtain ⟨A64, m65, m66, rfl⟩ := r63.isSl
  refine ev0 (fun w => rn_build (cs := [(.int .i64 3), (.int .i64 0), (.int .i64 0), (.slice A64 m65 m66)]) rfl rfl T57 PL57 rfl) ?_
  refine ev_alloc hp rfl T57 ?_
  intro g68 w69 hp hs
  replace a57 := a57.step hs
  replace r63 := r63.step hs
  refine ev_storeA hp (i := 0) (off := 0) (vs := [(.int .i64 3), (.int .i64 0), (.int .i64 0), (.slice A64 m65 m66)]) rfl rfl rfl rfl T57 rfl (Nat.le_of_ble_eq_true rfl) (ones_cons rfl (ones_cons rfl (ones_cons rfl (ones_cons r63.one ones_nil)))) ?_
  intro w70 hp hs
  replace a57 := a57.step hs
  replace r63 := r63.step hs
  apply go
  apply go
  refine ev0 (fun w => rn_build (cs := [(.int .i64 2), (.int .i64 x50), (.int .i64 0), (.slice none 0 0)]) rfl rfl T57 PL57 rfl) ?_
  refine ev0 (fun w => rn_build (cs := [(.int .i64 1), (.int .i64 x50), (.int .i64 0), (.slice none 0 0)]) rfl rfl T57 PL57 rfl) ?_
  refine ev (rn_load rfl rfl (run_loadVarA T57 rfl (hp.at_ (i := 0) rfl))) ?_
  refine ev_litN (d := dNode) (xs := [(Node.mk 2 x50 0 []), (Node.mk 1 x50 0 []), (Node.mk 3 0 0 [(Node.mk 1 (IntKind.i64.wrap (32 + x50)) 0 []), (Node.mk 2 63 0 [])])]) (cs := [(.int .i64 2), (.int .i64 x50), (.int .i64 0), (.slice none 0 0), (.int .i64 1), (.int .i64 x50), (.int .i64 0), (.slice none 0 0), (.int .i64 3), (.int .i64 0), (.int .i64 0), (.slice A64 m65 m66)]) hp rfl rfl Tryd.underlying55 T57 (by decide) (by kernel_rfl) rfl (Elems.cons (d := dNode) (xs := _) (dNode_m (x := (Node.mk 2 x50 0 [])) (RepS.nil _ _ _)) (Elems.cons (d := dNode) (xs := _) (dNode_m (x := (Node.mk 1 x50 0 [])) (RepS.nil _ _ _)) (Elems.cons (d := dNode) (xs := _) (dNode_m (x := (Node.mk 3 0 0 [(Node.mk 1 (IntKind.i64.wrap (32 + x50)) 0 []), (Node.mk 2 63 0 [])])) r63) (Elems.nil _ _ _ _)))) ?_
  intro v71 I73 w72 hp hs r74
  replace a57 := a57.step hs
  replace r63 := r63.step hs
  obtain ⟨A75, m76, m77, rfl⟩ := r74.isSl
  refine ev0 (fun w => rn_build (cs := [(.int .i64 4), (.int .i64 0), (.int .i64 0), (.slice A75 m76 m77)]) rfl rfl T57 PL57 rfl) ?_
  refine ev_alloc hp rfl T57 ?_
  intro g79 w80 hp hs
  replace a57 := a57.step hs
  replace r74 := r74.step hs
  replace r63 := r63.step hs
  refine ev_storeA hp (i := 0) (off := 0) (vs := [(.int .i64 4), (.int .i64 0), (.int .i64 0), (.slice A75 m76 m77)]) rfl rfl rfl rfl T57 rfl (Nat.le_of_ble_eq_true rfl) (ones_cons rfl (ones_cons rfl (ones_cons rfl (ones_cons r74.one ones_nil)))) ?_
  intro w81 hp hs
  replace a57 := a57.step hs
  replace r74 := r74.step hs
  replace r63 := r63.step hs
  apply go
  apply go
  refine ev0 (rn_field rfl rfl FO89_3) ?_
  refine ev (rn_load rfl rfl (run_loadVar1 T3 (a57.2 4 _ rfl))) ?_
  refine ev (rn_load rfl rfl (run_loadVarA T57 rfl (hp.at_ (i := 0) rfl))) ?_
  refine ev_litN (d := dNode) (xs := [(Node.mk 4 0 0 [(Node.mk 2 x50 0 []), (Node.mk 1 x50 0 []), (Node.mk 3 0 0 [(Node.mk 1 (IntKind.i64.wrap (32 + x50)) 0 []), (Node.mk 2 63 0 [])])])]) (cs := [(.int .i64 4), (.int .i64 0), (.int .i64 0), (.slice A75 m76 m77)]) hp rfl rfl Tryd.underlying55 T57 (by decide) rfl rfl (Elems.cons (d := dNode) (xs := _) (dNode_m (x := (Node.mk 4 0 0 [(Node.mk 2 x50 0 []), (Node.mk 1 x50 0 []), (Node.mk 3 0 0 [(Node.mk 1 (IntKind.i64.wrap (32 + x50)) 0 []), (Node.mk 2 63 0 [])])])) r74) (Elems.nil _ _ _ _)) ?_
  intro v82 I84 w83 hp hs r85
  replace a57 := a57.step hs
  replace r74 := r74.step hs
  replace r63 := r63.step hs
  obtain ⟨A86, m87, m88, rfl⟩ := r85.isSl
  refine ev0 (fun w => rn_build (cs := [(.int .i64 7), (.int .i64 0), (.int .i64 x51.Tries), (.slice A86 m87 m88)]) rfl rfl T57 PL57 rfl) ?_
  refine ev_alloc hp rfl T57 ?_
  intro g90 w91 hp hs
  replace a57 := a57.step hs
  replace r85 := r85.step hs
  replace r74 := r74.step hs
  replace r63 := r63.step hs
  refine ev_storeA hp (i := 0) (off := 0) (vs := [(.int .i64 7), (.int .i64 0), (.int .i64 x51.Tries), (.slice A86 m87 m88)]) rfl rfl rfl rfl T57 rfl (Nat.le_of_ble_eq_true rfl) (ones_cons rfl (ones_cons rfl (ones_cons rfl (ones_cons r85.one ones_nil)))) ?_
  intro w92 hp hs
  replace a57 := a57.step hs
  replace r85 := r85.step hs
  replace r74 := r74.step hs
  replace r63 := r63.step hs
  apply go
  apply go
  refine ev0 (rn_field rfl rfl FO89_2) ?_
  refine ev (rn_load rfl rfl (run_loadVar1 T3 (a57.2 3 _ rfl))) ?_
  refine ev (rn_load rfl rfl (run_loadVarA T57 rfl (hp.at_ (i := 0) rfl))) ?_
  refine ev_litN (d := dNode) (xs := [(Node.mk 7 0 x51.Tries [(Node.mk 4 0 0 [(Node.mk 2 x50 0 []), (Node.mk 1 x50 0 []), (Node.mk 3 0 0 [(Node.mk 1 (IntKind.i64.wrap (32 + x50)) 0 []), (Node.mk 2 63 0 [])])])])]) (cs := [(.int .i64 7), (.int .i64 0), (.int .i64 x51.Tries), (.slice A86 m87 m88)]) hp rfl rfl Tryd.underlying55 T57 (by decide) rfl rfl (Elems.cons (d := dNode) (xs := _) (dNode_m (x := (Node.mk 7 0 x51.Tries [(Node.mk 4 0 0 [(Node.mk 2 x50 0 []), (Node.mk 1 x50 0 []), (Node.mk 3 0 0 [(Node.mk 1 (IntKind.i64.wrap (32 + x50)) 0 []), (Node.mk 2 63 0 [])])])])) r85) (Elems.nil _ _ _ _)) ?_
  intro v93 I95 w94 hp hs r96
  replace r85 := r85.step hs
  replace r74 := r74.step hs
  replace r63 := r63.step hs
  obtain ⟨A97, m98, m99, rfl⟩ := r96.isSl
  refine ev0 (fun w => rn_build (cs := [(.int .i64 8), (.int .i64 0), (.int .i64 x51.Limit), (.slice A97 m98 m99)]) rfl rfl T57 PL57 rfl) ?_
  refine ev_storeA hp (i := 3) (off := 0) (vs := [(.int .i64 8), (.int .i64 0), (.int .i64 x51.Limit), (.slice A97 m98 m99)]) rfl rfl rfl rfl T57 rfl (Nat.le_of_ble_eq_true rfl) (ones_cons rfl (ones_cons rfl (ones_cons rfl (ones_cons r96.one ones_nil)))) ?_
  intro w101 hp hs
  replace r85 := r85.step hs
  replace r74 := r74.step hs
  replace r63 := r63.step hs
  replace r96 := r96.step hs
  apply go
  obtain rfl := Option.some.inj h
  refine ⟨_, run_loadVarA T57 rfl (hp.at_ (i := 3) rfl), ?_⟩
  have hp := hp.sel [] (by decide)
  exact ⟨I95, (.slice A97 m98 m99), rfl, hp, r96⟩

end Go.Proofs.YtcdboppghnchpaaDoor

namespace Go.Proofs.YtcdboppghnchpaaDoor
open Go Go.Proofs.YtcdboppghnchpaaDoor.Gw Go.RowKit
set_option linter.unusedVariables false
attribute [local irreducible] Ev EvQ EvS EvH
def mission_Build_S (f : (List Task) → Option (Node × Int)) : Prop := ∀ (w0 : World) (I0 : Nat → Prop) (x102 : (List Task)) (v103 : Value) (r104 : RepS dTask w0 I0 v103 x102) (hI : ∀ g, I0 g → g < w0.heap.size) (r : (Node × Int)), f x102 = some r →
    Ret Tryd.prog 19 #[v103] w0 fun v w1 => ∃ (I1 : Nat → Prop) (u105 : Value), v = (.tuple #[(.agg #[(.int .i64 r.1.Kind), (.int .i64 r.1.Name), (.int .i64 r.1.Count), u105]), (.int .i64 r.2)]) ∧ Hp ⟨w0, I0, []⟩ I1 [] w1 ∧ RepS dNode w1 I1 u105 r.1.Kids
theorem mission_Build_ok (n : Nat) : mission_Build_S (mission_Build n) := by
  intro w0 I0 x102 v103 r104 hI r h
  unfold mission_Build at h
  refine enter Tryd.func19 rfl (Nat.le_of_ble_eq_true rfl) ?_
  have hp : Hp ⟨w0, I0, []⟩ I0 [] w0 := Hp.start hI
  apply go
  apply go
  refine ev_alloc hp rfl T57 ?_
  intro g106 w107 hp hs
  replace r104 := r104.step hs
  apply go
  apply go
  apply go
  refine ev0 (rn_len rfl rfl Tryd.underlying49 r104) ?_
  apply go
  refine sel_of (fun hc => ?_) (fun hc => ?_)
  ·
    have h := cond_t h hc
    apply go
    apply go
    refine ev0 (fun w => rn_build (cs := [(.int .i64 0), (.int .i64 0), (.int .i64 0), (.slice none 0 0)]) rfl rfl T57 PL57 rfl) ?_
    refine ev_storeA hp (i := 0) (off := 0) (vs := [(.int .i64 0), (.int .i64 0), (.int .i64 0), (.slice none 0 0)]) rfl rfl rfl rfl T57 rfl (Nat.le_of_ble_eq_true rfl) (ones_of rfl) ?_
    intro w108 hp hs
    apply go
    obtain rfl := Option.some.inj h
    refine ⟨_, run_loadVarA T57 rfl (hp.at_ (i := 0) rfl), ?_⟩
    have hp := hp.sel [] (by decide)
    exact ⟨I0, .slice none 0 0, rfl, hp, RepS.nil _ _ _⟩
  ·
    have h := cond_f h hc
    apply go
    apply go
    apply go
    refine ev0 (fun w => rn_build (cs := [(.int .i64 3), (.int .i64 0), (.int .i64 0), (.slice none 0 0)]) rfl rfl T57 PL57 rfl) ?_
    refine ev_alloc hp rfl T57 ?_
    intro g109 w110 hp hs
    replace r104 := r104.step hs
    refine ev_storeA hp (i := 0) (off := 0) (vs := [(.int .i64 3), (.int .i64 0), (.int .i64 0), (.slice none 0 0)]) rfl rfl rfl rfl T57 rfl (Nat.le_of_ble_eq_true rfl) (ones_of rfl) ?_
    intro w111 hp hs
    replace r104 := r104.step hs
    obtain ⟨y304, q305, h⟩ := bind_some h
    refine W.cut (γ := ((List Node) × Value × Ent × (Nat → Prop))) (fun g => [(2, (.pointer (some ⟨g106, 0, none⟩))), (4, (.pointer (some ⟨g109, 0, none⟩)))]) (fun g w' => y304 = .go (g.1) ∧ Hp ⟨w0, I0, []⟩ (g.2.2.2) [some (g106, [(.int .i64 0), (.int .i64 0), (.int .i64 0), (.slice none 0 0)], 57), (g.2.2.1), some (g109, [(.int .i64 3), (.int .i64 0), (.int .i64 0), (g.2.1)], 57)] w' ∧ OwnS dNode 57 w' (g.2.2.2) (g.2.1) (g.2.2.1) (g.1)) ?_ ?_
    ·
      apply go
      apply go
      refine ev0 (rn_len rfl rfl Tryd.underlying49 r104) ?_
      apply go
      have hp := hp.none_
      have o431 := OwnS.nil dNode 57 w111 I0
      have hp := hp.perm [2, 0, 1] (by decide)
      refine W.loop q305 (γ := (Value × Ent × (Nat → Prop))) (fun s g => [(2, (.pointer (some ⟨g106, 0, none⟩))), (4, (.pointer (some ⟨g109, 0, none⟩))), (12, v103), (13, (.int .i64 (x102.length : Int))), (14, (.int .i64 (s.2)))]) (fun s g w' => Hp ⟨w0, I0, []⟩ (g.2.2) [some (g106, [(.int .i64 0), (.int .i64 0), (.int .i64 0), (.slice none 0 0)], 57), (g.2.1), some (g109, [(.int .i64 3), (.int .i64 0), (.int .i64 0), (g.1)], 57)] w' ∧ OwnS dNode 57 w' (g.2.2) (g.1) (g.2.1) (s.1) ∧ RepS dTask w' (g.2.2) v103 x102) ((.slice none 0 0), none, I0) (.c rfl (.c rfl (.c rfl (.c rfl (.c rfl .n))))) ⟨hp, o431, r104⟩ ?_
      rintro ⟨x363, x367⟩ ⟨v364, e365, I368⟩ w430 y432 ⟨hp, o366, r104⟩ q433 q434
      unfold mission_Build_L1 at q433
      apply go
      apply go
      apply go
      apply go
      refine sel_of (fun hc => ?_) (fun hc => ?_)
      ·
        have q433 := cond_t q433 hc
        apply go
        apply go
        apply go
        apply go
        apply go
        obtain ⟨x435, q436, q433⟩ := bind_some q433
        refine ev_index rfl rfl rfl Tryd.underlying49 T89 r104 q436 ?_
        intro p437 c438 d439 a440
        obtain rfl := dTask_o d439
        refine ev (rn_load rfl rfl (run_loadVarA T89 rfl a440)) ?_
        refine ev_alloc hp rfl T89 ?_
        intro g441 w442 hp hs
        replace r104 := r104.step hs
        replace o366 := o366.step hs
        refine ev_storeA hp (i := 0) (off := 0) (vs := [(.int .i64 x435.Kind), (.int .i64 x435.Cell.X), (.int .i64 x435.Cell.Y), (.int .i64 x435.Limit), (.int .i64 x435.Tries)]) rfl rfl rfl rfl T89 rfl (Nat.le_of_ble_eq_true rfl) (ones_of rfl) ?_
        intro w443 hp hs
        replace r104 := r104.step hs
        replace o366 := o366.step hs
        apply go
        apply go
        apply go
        refine ev (rn_load rfl rfl (run_loadVarA T89 rfl (hp.at_ (i := 0) rfl))) ?_
        obtain ⟨x444, q445, q433⟩ := bind_some q433
        refine ev_call rfl rfl C43 (((mission_valid_ok n) _ _  (Task.mk x435.Kind (Cell.mk x435.Cell.X x435.Cell.Y) x435.Limit x435.Tries) hp.imm _ q445).mono ?_)
        rintro _ w446 ⟨rfl, hc⟩
        have hs := hp.stp hc
        replace hp := hp.ext hc
        replace r104 := r104.step hs
        replace o366 := o366.step hs
        apply go
        refine sel_of (fun hc => ?_) (fun hc => ?_)
        ·
          have q433 := cond_t q433 hc
          apply go
          apply go
          refine ev0 (fun w => rn_build (cs := [(.int .i64 0), (.int .i64 0), (.int .i64 0), (.slice none 0 0)]) rfl rfl T57 PL57 rfl) ?_
          refine ev_storeA hp (i := 1) (off := 0) (vs := [(.int .i64 0), (.int .i64 0), (.int .i64 0), (.slice none 0 0)]) rfl rfl rfl rfl T57 rfl (Nat.le_of_ble_eq_true rfl) (ones_of rfl) ?_
          intro w447 hp hs
          replace o366 := o366.step hs
          apply go
          have q448 := congrArg some (q434 _ (Option.some.inj q433).symm)
          obtain rfl := Option.some.inj q448
          obtain rfl := Option.some.inj h
          refine ⟨_, run_loadVarA T57 rfl (hp.at_ (i := 1) rfl), ?_⟩
          have hp := hp.sel [] (by decide)
          exact ⟨I368, .slice none 0 0, rfl, hp, RepS.nil _ _ _⟩
        ·
          have q433 := cond_f q433 hc
          apply go
          have hs := hp.stp (Ch.drew [] w446)
          have hp := hp.drew
          replace r104 := r104.step hs
          replace o366 := o366.step hs
          refine W.heldG (.q 0 (.q 1 (.q 2 (.q 3 (.l 4 (.l 5 (.l 6 (.q 7 (.l 8 .done .no)) .no) .no) .no))))) (SK (Stp I368 w446.drew I368) [(g109, [(.int .i64 3), (.int .i64 0), (.int .i64 0), v364], 57), (g441, [(.int .i64 x435.Kind), (.int .i64 x435.Cell.X), (.int .i64 x435.Cell.Y), (.int .i64 x435.Limit), (.int .i64 x435.Tries)], 89)] [[8], []]) MX (by kernel_rfl) ⟨Stp.refl _ _, (kp_cons (fun _ => (hp.own 3 _ _ _ rfl).1) (kp_cons (fun _ => (hp.own 0 _ _ _ rfl).1) kp_nil))⟩ ?_
          have hz := Stp.refl I368 w446.drew
          refine ⟨SK.same (by kernel_rfl), ?_⟩
          refine evh0 (rn_field rfl rfl FO57_3) ?_
          refine ⟨SK.same (by kernel_rfl), ?_⟩
          refine evh (fun w' hw => rn_load rfl rfl (run_loadVar1 T55 ((S0.keep (p := 0) hw rfl rfl (by kernel_rfl)).cell (i := 0) (off := 3) rfl rfl))) ?_
          refine ⟨SK.same (by kernel_rfl), ?_⟩
          refine ⟨SK.same (by kernel_rfl), ?_⟩
          refine evh (fun w' hw => rn_load rfl rfl (run_loadVarA T89 rfl ((S0.keep (p := 1) hw rfl rfl (by kernel_rfl)).at_ (i := 0) rfl))) ?_
          refine ⟨?_, trivial⟩
          obtain ⟨x470, q471, q433⟩ := bind_some q433
          refine ev_call rfl rfl C44 (((mission_one_ok n) _ _  x367 (Task.mk x435.Kind (Cell.mk x435.Cell.X x435.Cell.Y) x435.Limit x435.Tries) hp.imm _ q471).mono ?_)
          rintro _ w472 ⟨I473, v474, hv, hq, r475⟩
          replace hv := hv.symm
          subst hv
          have hs := hq.st
          have hp := hp.join0 hq
          replace hz := hz.trans hs
          replace r104 := r104.step hs
          replace o366 := o366.step hs
          refine ⟨SK (Stp I473 w472 I473) [(g109, [(.int .i64 3), (.int .i64 0), (.int .i64 0), v364], 57), (g441, [(.int .i64 x435.Kind), (.int .i64 x435.Cell.X), (.int .i64 x435.Cell.Y), (.int .i64 x435.Limit), (.int .i64 x435.Tries)], 89)] [[8], []], ⟨Stp.refl _ _, (kp_cons (fun _ => (hp.own 3 _ _ _ rfl).1) (kp_cons (fun _ => (hp.own 0 _ _ _ rfl).1) kp_nil))⟩, fun L x h => ⟨hz.held h.1, h.2⟩, ?_⟩
          have hz := Stp.refl I473 w472
          refine ⟨?_, trivial⟩
          obtain ⟨A476, m477, m478, rfl⟩ := r475.isSl
          refine ev_litN (d := dNode) (xs := [x470]) (cs := [(.int .i64 x470.Kind), (.int .i64 x470.Name), (.int .i64 x470.Count), (.slice A476 m477 m478)]) hp rfl rfl Tryd.underlying55 T57 (by decide) rfl rfl (Elems.cons (d := dNode) (xs := _) (dNode_m (x := x470) r475) (Elems.nil _ _ _ _)) ?_
          intro v480 I482 w481 hp hs r483
          replace hz := hz.trans hs
          replace r104 := r104.step hs
          replace o366 := o366.step hs
          refine ⟨SK (Stp I482 w481 I482) [(g109, [(.int .i64 3), (.int .i64 0), (.int .i64 0), v364], 57), (g441, [(.int .i64 x435.Kind), (.int .i64 x435.Cell.X), (.int .i64 x435.Cell.Y), (.int .i64 x435.Limit), (.int .i64 x435.Tries)], 89)] [[8], []], ⟨Stp.refl _ _, (kp_cons (fun _ => (hp.own 3 _ _ _ rfl).1) (kp_cons (fun _ => (hp.own 0 _ _ _ rfl).1) kp_nil))⟩, fun L x h => ⟨hz.held h.1, h.2⟩, ?_⟩
          have hz := Stp.refl I482 w481
          refine ⟨?_, trivial⟩
          obtain ⟨x484, q485, q433⟩ := bind_some q433
          refine ev_append hp (i := 2) rfl rfl rfl rfl Tryd.underlying55 T57 rfl rfl o366 r483 q485 ?_
          rintro v486 e487 w488 hp hs o489
          replace hz := hz.trans hs
          replace r104 := r104.step hs
          replace o366 := o366.step hs
          refine ⟨SK (Stp I482 w488 I482) [(g109, [(.int .i64 3), (.int .i64 0), (.int .i64 0), v364], 57), (g441, [(.int .i64 x435.Kind), (.int .i64 x435.Cell.X), (.int .i64 x435.Cell.Y), (.int .i64 x435.Limit), (.int .i64 x435.Tries)], 89)] [[8], []], ⟨Stp.refl _ _, (kp_cons (fun _ => (hp.own 3 _ _ _ rfl).1) (kp_cons (fun _ => (hp.own 0 _ _ _ rfl).1) kp_nil))⟩, fun L x h => ⟨hz.held h.1, h.2⟩, ?_⟩
          have hz := Stp.refl I482 w488
          refine ⟨SK.same (by kernel_rfl), ?_⟩
          refine evh0 (rn_field rfl rfl FO57_3) ?_
          refine ⟨?_, trivial⟩
          refine ev_store1 hp (i := 3) (off := 3) rfl rfl rfl rfl T55 o489.one (Nat.le_of_ble_eq_true rfl) ?_
          intro w490 hp hs
          replace hz := hz.trans hs
          replace r104 := r104.step hs
          replace o489 := o489.step hs
          refine ⟨SK (Stp I482 w490 I482) [(g109, [(.int .i64 3), (.int .i64 0), (.int .i64 0), v364], 57), (g441, [(.int .i64 x435.Kind), (.int .i64 x435.Cell.X), (.int .i64 x435.Cell.Y), (.int .i64 x435.Limit), (.int .i64 x435.Tries)], 89)] [[8], []], ⟨Stp.refl _ _, (kp_cons (kp_off (by kernel_rfl)) (kp_cons (fun _ => (hp.own 0 _ _ _ rfl).1) kp_nil))⟩, fun L x h => ⟨hz.held h.1, h.2⟩, ?_⟩
          have hz := Stp.refl I482 w490
          apply go
          have hp := hp.sel [1, 2, 3] (by decide)
          exact ⟨_, (Option.some.inj q433).symm, (v486, e487, I482), (.c rfl (.c rfl (.c rfl (.c rfl (.c rfl .n))))), ⟨hp, o489, r104⟩⟩
      ·
        have q433 := cond_f q433 hc
        apply go
        have q491 := congrArg some (q434 _ (Option.some.inj q433).symm)
        obtain rfl := Option.some.inj q491
        exact ⟨(x363, v364, e365, I368), (.c rfl (.c rfl .n)), rfl, hp, o366⟩
    ·
      rintro ⟨x298, v299, e300, I302⟩ w303 ⟨hy, hp, o301⟩
      replace hy := hy.symm
      subst hy
      apply go
      apply go
      refine ev (rn_load rfl rfl (run_loadVarA T57 rfl (hp.at_ (i := 2) rfl))) ?_
      refine ev_storeA hp (i := 0) (off := 0) (vs := [(.int .i64 3), (.int .i64 0), (.int .i64 0), v299]) rfl rfl rfl rfl T57 rfl (Nat.le_of_ble_eq_true rfl) (ones_cons rfl (ones_cons rfl (ones_cons rfl (ones_cons o301.one ones_nil)))) ?_
      intro w492 hp hs
      replace o301 := o301.step hs
      apply go
      obtain rfl := Option.some.inj h
      have r493 := o301.frz hp (i := 1) rfl
      obtain ⟨hp, hs⟩ := freeze_hp hp (i := 1) rfl
      have hp := hp.sel [0, 2] (by decide)
      refine ⟨_, run_loadVarA T57 rfl (hp.at_ (i := 0) rfl), ?_⟩
      have hp := hp.sel [] (by decide)
      exact ⟨(Ad I302 e300), v299, rfl, hp, r493⟩

end Go.Proofs.YtcdboppghnchpaaDoor

namespace Go.Proofs.YtcdboppghnchpaaDoor
open Go Go.Proofs.YtcdboppghnchpaaDoor.Gw Go.RowKit
set_option linter.unusedVariables false
attribute [local irreducible] Ev EvQ EvS EvH
def tree_size_S (f : Node → Int → Option Int) : Prop := ∀ (w0 : World) (I0 : Nat → Prop) (x494 : Node) (v495 : Value) (r496 : RepS dNode w0 I0 v495 x494.Kids) (x497 : Int) (hI : ∀ g, I0 g → g < w0.heap.size) (r : Int), f x494 x497 = some r →
    Ret Tryd.prog 100 #[(.agg #[(.int .i64 x494.Kind), (.int .i64 x494.Name), (.int .i64 x494.Count), v495]), (.int .i64 x497)] w0 fun v w1 => v = (.int .i64 r) ∧ Ch [] w0 w1
theorem tree_size_F_ok (n : Nat) (self : Node → Int → Option Int) (ih : tree_size_S self) : tree_size_S (tree_size_F n self) := by
  intro w0 I0 x494 v495 r496 x497 hI r h
  unfold tree_size_F at h
  refine enter Tryd.func100 rfl (Nat.le_of_ble_eq_true rfl) ?_
  have hp : Hp ⟨w0, I0, []⟩ I0 [] w0 := Hp.start hI
  apply go
  apply go
  refine ev_boxI hp rfl rfl ?_
  intro p500 I501 w499 hp hs a502
  replace r496 := r496.step hs
  apply go
  apply go
  obtain ⟨y557, q558, h⟩ := bind_some h
  refine W.cut (γ := Int) (fun g => [(5, (.int .i64 (g)))]) (fun g w' => y557 = (g) ∧ Hp ⟨w0, I0, []⟩ I501 [] w') ?_ ?_
  ·
    apply go
    apply go
    refine ev0 (rn_field rfl rfl FO57_3) ?_
    refine ev (rn_load rfl rfl (run_loadVar1 T55 (a502.2 3 _ rfl))) ?_
    refine ev0 (rn_len rfl rfl Tryd.underlying55 r496) ?_
    apply go
    refine W.loop q558 (γ := Unit) (fun s _ => [(1, (.int .i64 x497)), (5, (.int .i64 (s.1))), (9, v495), (10, (.int .i64 (x494.Kids.length : Int))), (11, (.int .i64 (s.2)))]) (fun s _ w' => Hp ⟨w0, I0, []⟩ I501 [] w' ∧ RepS dNode w' I501 v495 x494.Kids) () (.c rfl (.c rfl (.c rfl (.c rfl (.c rfl .n))))) ⟨hp, r496⟩ ?_
    rintro ⟨x573, x574⟩ ⟨⟩ w591 y592 ⟨hp, r496⟩ q593 q594
    unfold tree_size_L1 at q593
    apply go
    apply go
    apply go
    apply go
    refine sel_of (fun hc => ?_) (fun hc => ?_)
    ·
      have q593 := cond_t q593 hc
      apply go
      apply go
      apply go
      apply go
      apply go
      obtain ⟨x595, q596, q593⟩ := bind_some q593
      refine ev_index rfl rfl rfl Tryd.underlying55 T57 r496 q596 ?_
      intro p597 c598 d599 a600
      obtain ⟨v601, rfl, r602⟩ := dNode_o d599
      refine ev (rn_load rfl rfl (run_loadVarA T57 rfl a600)) ?_
      refine ev_alloc hp rfl T57 ?_
      intro g603 w604 hp hs
      replace r496 := r496.step hs
      replace r602 := r602.step hs
      refine ev_storeA hp (i := 0) (off := 0) (vs := [(.int .i64 x595.Kind), (.int .i64 x595.Name), (.int .i64 x595.Count), v601]) rfl rfl rfl rfl T57 rfl (Nat.le_of_ble_eq_true rfl) (ones_cons rfl (ones_cons rfl (ones_cons rfl (ones_cons r602.one ones_nil)))) ?_
      intro w605 hp hs
      replace r496 := r496.step hs
      replace r602 := r602.step hs
      apply go
      apply go
      apply go
      apply go
      refine sel_of (fun hc => ?_) (fun hc => ?_)
      ·
        have q593 := cond_t q593 hc
        apply go
        have q606 := congrArg some (q594 _ (Option.some.inj q593).symm)
        obtain rfl := Option.some.inj q606
        have hp := hp.sel [] (by decide)
        exact ⟨x573, (.c rfl .n), rfl, hp⟩
      ·
        have q593 := cond_f q593 hc
        apply go
        apply go
        refine ev (rn_load rfl rfl (run_loadVarA T57 rfl (hp.at_ (i := 0) rfl))) ?_
        obtain ⟨x607, q608, q593⟩ := bind_some q593
        refine ev_call rfl rfl C100 ((ih _ _  (Node.mk x595.Kind x595.Name x595.Count x595.Kids) v601 r602 (IntKind.i64.wrap (x497 - x573)) hp.imm _ q608).mono ?_)
        rintro _ w609 ⟨rfl, hc⟩
        have hs := hp.stp hc
        replace hp := hp.ext hc
        replace r496 := r496.step hs
        replace r602 := r602.step hs
        apply go
        have hp := hp.sel [] (by decide)
        exact ⟨_, (Option.some.inj q593).symm, (), (.c rfl (.c rfl (.c rfl (.c rfl (.c rfl .n))))), ⟨hp, r496⟩⟩
    ·
      have q593 := cond_f q593 hc
      apply go
      have q610 := congrArg some (q594 _ (Option.some.inj q593).symm)
      obtain rfl := Option.some.inj q610
      exact ⟨x573, (.c rfl .n), rfl, hp⟩
  ·
    rintro x555 w556 ⟨hy, hp⟩
    replace hy := hy.symm
    subst hy
    apply go
    apply go
    apply go
    obtain rfl := Option.some.inj h
    exact ⟨rfl, hp.ch⟩
theorem tree_size_ok : ∀ n, tree_size_S (tree_size n)
  | 0 => by intro w0 I0 x494 v495 r496 x497 hI r h; cases h
  | n + 1 => tree_size_F_ok n _ (tree_size_ok n)

end Go.Proofs.YtcdboppghnchpaaDoor

namespace Go.Proofs.YtcdboppghnchpaaDoor
open Go Go.Proofs.YtcdboppghnchpaaDoor.Gw Go.RowKit
set_option linter.unusedVariables false
attribute [local irreducible] Ev EvQ EvS EvH
def tree_Size_S (f : Node → Option Int) : Prop := ∀ (w0 : World) (I0 : Nat → Prop) (x611 : Node) (v612 : Value) (r613 : RepS dNode w0 I0 v612 x611.Kids) (hI : ∀ g, I0 g → g < w0.heap.size) (r : Int), f x611 = some r →
    Ret Tryd.prog 77 #[(.agg #[(.int .i64 x611.Kind), (.int .i64 x611.Name), (.int .i64 x611.Count), v612])] w0 fun v w1 => v = (.int .i64 r) ∧ Ch [] w0 w1
theorem tree_Size_ok (n : Nat) : tree_Size_S (tree_Size n) := by
  intro w0 I0 x611 v612 r613 hI r h
  unfold tree_Size at h
  refine enter Tryd.func77 rfl (Nat.le_of_ble_eq_true rfl) ?_
  have hp : Hp ⟨w0, I0, []⟩ I0 [] w0 := Hp.start hI
  apply go
  apply go
  refine ev_boxI hp rfl rfl ?_
  intro p616 I617 w615 hp hs a618
  replace r613 := r613.step hs
  apply go
  apply go
  refine ev (rn_load rfl rfl (run_loadVarA T57 rfl a618)) ?_
  obtain ⟨x619, q620, h⟩ := bind_some h
  refine ev_call rfl rfl C100 (((tree_size_ok n) _ _  (Node.mk x611.Kind x611.Name x611.Count x611.Kids) v612 r613 65 hp.imm _ q620).mono ?_)
  rintro _ w621 ⟨rfl, hc⟩
  have hs := hp.stp hc
  replace hp := hp.ext hc
  apply go
  obtain rfl := Option.some.inj h
  exact ⟨rfl, hp.ch⟩

end Go.Proofs.YtcdboppghnchpaaDoor

namespace Go.Proofs.YtcdboppghnchpaaDoor
open Go Go.Proofs.YtcdboppghnchpaaDoor.Gw Go.RowKit
set_option linter.unusedVariables false
attribute [local irreducible] Ev EvQ EvS EvH
def tree_fits_S (f : Node → Option Bool) : Prop := ∀ (w0 : World) (I0 : Nat → Prop) (x622 : Node) (v623 : Value) (r624 : RepS dNode w0 I0 v623 x622.Kids) (hI : ∀ g, I0 g → g < w0.heap.size) (r : Bool), f x622 = some r →
    Ret Tryd.prog 101 #[(.agg #[(.int .i64 x622.Kind), (.int .i64 x622.Name), (.int .i64 x622.Count), v623])] w0 fun v w1 => v = (.bool r) ∧ Ch [] w0 w1
theorem tree_fits_ok (n : Nat) : tree_fits_S (tree_fits n) := by
  intro w0 I0 x622 v623 r624 hI r h
  unfold tree_fits at h
  refine enter Tryd.func101 rfl (Nat.le_of_ble_eq_true rfl) ?_
  have hp : Hp ⟨w0, I0, []⟩ I0 [] w0 := Hp.start hI
  apply go
  apply go
  refine ev_boxI hp rfl rfl ?_
  intro p627 I628 w626 hp hs a629
  replace r624 := r624.step hs
  apply go
  refine W.quiet (fun w' => Ch [] w626 w') MX (by kernel_rfl) (Ch.drew [] w626) ?_
  refine evq0 (rn_field rfl rfl FO57_1) ?_
  refine evq (fun w' hw => rn_load rfl rfl (run_loadVar1 T3 ((a629.step (hp.stp hw)).2 1 _ rfl))) ?_
  refine evq0 (rn_field rfl rfl FO57_2) ?_
  refine evq (fun w' hw => rn_load rfl rfl (run_loadVar1 T3 ((a629.step (hp.stp hw)).2 2 _ rfl))) ?_
  refine evq0 (rn_field rfl rfl FO57_3) ?_
  refine evq (fun w' hw => rn_load rfl rfl (run_loadVar1 T55 ((a629.step (hp.stp hw)).2 3 _ rfl))) ?_
  refine evq0 (rn_len rfl rfl Tryd.underlying55 r624) ?_
  intro w630 hc
  have hs := hp.stp hc
  replace hp := hp.ext hc
  replace a629 := a629.step hs
  replace r624 := r624.step hs
  apply go
  apply go
  apply go
  refine ev0 (rn_field rfl rfl FO57_0) ?_
  refine ev (rn_load rfl rfl (run_loadVar1 T3 (a629.2 0 _ rfl))) ?_
  apply go
  obtain ⟨y632, q633, h⟩ := bind_some h
  refine W.cut (γ := Bool) (fun g => [(1, (.pointer (some (p627)))), (3, (.bool (x622.Name == 0))), (4, (.bool (x622.Count == 0))), (5, (.int .i64 (x622.Kids.length : Int))), (16, (.int .i64 x622.Kind)), (17, (.bool (g)))]) (fun g w' => y632 = (g) ∧ w630 = w') ?_ ?_
  ·
    apply go
    apply go
    apply go
    refine sel_of (fun hc => ?_) (fun hc => ?_)
    ·
      have q633 := cond_t q633 hc
      apply go
      obtain rfl := Option.some.inj q633
      exact ⟨(x622.Kind == 1), (.c rfl (.c rfl (.c rfl (.c rfl (.c rfl (.c rfl .n)))))), rfl, rfl⟩
    ·
      have q633 := cond_f q633 hc
      apply go
      obtain rfl := Option.some.inj q633
      exact ⟨(x622.Kind == 2), (.c rfl (.c rfl (.c rfl (.c rfl (.c rfl (.c rfl .n)))))), rfl, rfl⟩
  ·
    rintro x631 _ ⟨hy, rfl⟩
    replace hy := hy.symm
    subst hy
    apply go
    refine sel_of (fun hc => ?_) (fun hc => ?_)
    ·
      have h := cond_t h hc
      obtain ⟨y635, q636, h⟩ := bind_some h
      refine W.cut (γ := Bool) (fun g => [(2, (.bool (g)))]) (fun g w' => y635 = (g) ∧ w630 = w') ?_ ?_
      ·
        apply go
        refine ev0 (rn_field rfl rfl FO57_1) ?_
        refine ev (rn_load rfl rfl (run_loadVar1 T3 (a629.2 1 _ rfl))) ?_
        refine sel_of (fun hc => ?_) (fun hc => ?_)
        ·
          have q636 := cond_t q636 hc
          refine ev0 (rn_field rfl rfl FO57_1) ?_
          refine ev (rn_load rfl rfl (run_loadVar1 T3 (a629.2 1 _ rfl))) ?_
          refine sel_of (fun hc => ?_) (fun hc => ?_)
          ·
            have q636 := cond_t q636 hc
            refine sel_of (fun hc => ?_) (fun hc => ?_)
            ·
              have q636 := cond_t q636 hc
              obtain rfl := Option.some.inj q636
              exact ⟨((x622.Kids.length : Int) == 0), (.c rfl .n), rfl, rfl⟩
            ·
              have q636 := cond_f q636 hc
              obtain rfl := Option.some.inj q636
              exact ⟨false, (.c rfl .n), rfl, rfl⟩
          ·
            have q636 := cond_f q636 hc
            obtain rfl := Option.some.inj q636
            exact ⟨false, (.c rfl .n), rfl, rfl⟩
        ·
          have q636 := cond_f q636 hc
          obtain rfl := Option.some.inj q636
          exact ⟨false, (.c rfl .n), rfl, rfl⟩
      ·
        rintro x634 _ ⟨hy, rfl⟩
        replace hy := hy.symm
        subst hy
        apply go
        obtain rfl := Option.some.inj h
        exact ⟨rfl, hp.ch⟩
    ·
      have h := cond_f h hc
      obtain ⟨y638, q639, h⟩ := bind_some h
      refine W.cut (γ := Bool) (fun g => [(1, (.pointer (some (p627)))), (3, (.bool (x622.Name == 0))), (4, (.bool (x622.Count == 0))), (5, (.int .i64 (x622.Kids.length : Int))), (16, (.int .i64 x622.Kind)), (35, (.bool (g)))]) (fun g w' => y638 = (g) ∧ w630 = w') ?_ ?_
      ·
        apply go
        apply go
        apply go
        refine sel_of (fun hc => ?_) (fun hc => ?_)
        ·
          have q639 := cond_t q639 hc
          apply go
          obtain rfl := Option.some.inj q639
          exact ⟨(x622.Kind == 3), (.c rfl (.c rfl (.c rfl (.c rfl (.c rfl (.c rfl .n)))))), rfl, rfl⟩
        ·
          have q639 := cond_f q639 hc
          apply go
          obtain rfl := Option.some.inj q639
          exact ⟨(x622.Kind == 4), (.c rfl (.c rfl (.c rfl (.c rfl (.c rfl (.c rfl .n)))))), rfl, rfl⟩
      ·
        rintro x637 _ ⟨hy, rfl⟩
        replace hy := hy.symm
        subst hy
        apply go
        refine sel_of (fun hc => ?_) (fun hc => ?_)
        ·
          have h := cond_t h hc
          obtain ⟨y641, q642, h⟩ := bind_some h
          refine W.cut (γ := Bool) (fun g => [(2, (.bool (g)))]) (fun g w' => y641 = (g) ∧ w630 = w') ?_ ?_
          ·
            apply go
            refine sel_of (fun hc => ?_) (fun hc => ?_)
            ·
              have q642 := cond_t q642 hc
              obtain rfl := Option.some.inj q642
              exact ⟨(x622.Count == 0), (.c rfl .n), rfl, rfl⟩
            ·
              have q642 := cond_f q642 hc
              obtain rfl := Option.some.inj q642
              exact ⟨false, (.c rfl .n), rfl, rfl⟩
          ·
            rintro x640 _ ⟨hy, rfl⟩
            replace hy := hy.symm
            subst hy
            apply go
            obtain rfl := Option.some.inj h
            exact ⟨rfl, hp.ch⟩
        ·
          have h := cond_f h hc
          apply go
          apply go
          apply go
          refine sel_of (fun hc => ?_) (fun hc => ?_)
          ·
            have h := cond_t h hc
            obtain ⟨y644, q645, h⟩ := bind_some h
            refine W.cut (γ := Bool) (fun g => [(2, (.bool (g)))]) (fun g w' => y644 = (g) ∧ w630 = w') ?_ ?_
            ·
              apply go
              refine sel_of (fun hc => ?_) (fun hc => ?_)
              ·
                have q645 := cond_t q645 hc
                refine ev0 (rn_field rfl rfl FO57_2) ?_
                refine ev (rn_load rfl rfl (run_loadVar1 T3 (a629.2 2 _ rfl))) ?_
                refine sel_of (fun hc => ?_) (fun hc => ?_)
                ·
                  have q645 := cond_t q645 hc
                  refine ev0 (rn_field rfl rfl FO57_2) ?_
                  refine ev (rn_load rfl rfl (run_loadVar1 T3 (a629.2 2 _ rfl))) ?_
                  obtain rfl := Option.some.inj q645
                  exact ⟨(decide (x622.Count ≤ (x622.Kids.length : Int))), (.c rfl .n), rfl, rfl⟩
                ·
                  have q645 := cond_f q645 hc
                  obtain rfl := Option.some.inj q645
                  exact ⟨false, (.c rfl .n), rfl, rfl⟩
              ·
                have q645 := cond_f q645 hc
                obtain rfl := Option.some.inj q645
                exact ⟨false, (.c rfl .n), rfl, rfl⟩
            ·
              rintro x643 _ ⟨hy, rfl⟩
              replace hy := hy.symm
              subst hy
              apply go
              obtain rfl := Option.some.inj h
              exact ⟨rfl, hp.ch⟩
          ·
            have h := cond_f h hc
            apply go
            apply go
            apply go
            refine sel_of (fun hc => ?_) (fun hc => ?_)
            ·
              have h := cond_t h hc
              obtain ⟨y647, q648, h⟩ := bind_some h
              refine W.cut (γ := Bool) (fun g => [(2, (.bool (g)))]) (fun g w' => y647 = (g) ∧ w630 = w') ?_ ?_
              ·
                apply go
                refine sel_of (fun hc => ?_) (fun hc => ?_)
                ·
                  have q648 := cond_t q648 hc
                  refine sel_of (fun hc => ?_) (fun hc => ?_)
                  ·
                    have q648 := cond_t q648 hc
                    obtain rfl := Option.some.inj q648
                    exact ⟨((x622.Kids.length : Int) == 1), (.c rfl .n), rfl, rfl⟩
                  ·
                    have q648 := cond_f q648 hc
                    obtain rfl := Option.some.inj q648
                    exact ⟨false, (.c rfl .n), rfl, rfl⟩
                ·
                  have q648 := cond_f q648 hc
                  obtain rfl := Option.some.inj q648
                  exact ⟨false, (.c rfl .n), rfl, rfl⟩
              ·
                rintro x646 _ ⟨hy, rfl⟩
                replace hy := hy.symm
                subst hy
                apply go
                obtain rfl := Option.some.inj h
                exact ⟨rfl, hp.ch⟩
            ·
              have h := cond_f h hc
              obtain ⟨y650, q651, h⟩ := bind_some h
              refine W.cut (γ := Bool) (fun g => [(1, (.pointer (some (p627)))), (3, (.bool (x622.Name == 0))), (5, (.int .i64 (x622.Kids.length : Int))), (66, (.bool (g)))]) (fun g w' => y650 = (g) ∧ w630 = w') ?_ ?_
              ·
                apply go
                apply go
                apply go
                refine sel_of (fun hc => ?_) (fun hc => ?_)
                ·
                  have q651 := cond_t q651 hc
                  apply go
                  obtain rfl := Option.some.inj q651
                  exact ⟨(x622.Kind == 7), (.c rfl (.c rfl (.c rfl (.c rfl .n)))), rfl, rfl⟩
                ·
                  have q651 := cond_f q651 hc
                  apply go
                  obtain rfl := Option.some.inj q651
                  exact ⟨(x622.Kind == 8), (.c rfl (.c rfl (.c rfl (.c rfl .n)))), rfl, rfl⟩
              ·
                rintro x649 _ ⟨hy, rfl⟩
                replace hy := hy.symm
                subst hy
                apply go
                refine sel_of (fun hc => ?_) (fun hc => ?_)
                ·
                  have h := cond_t h hc
                  obtain ⟨y653, q654, h⟩ := bind_some h
                  refine W.cut (γ := Bool) (fun g => [(2, (.bool (g)))]) (fun g w' => y653 = (g) ∧ w630 = w') ?_ ?_
                  ·
                    apply go
                    refine sel_of (fun hc => ?_) (fun hc => ?_)
                    ·
                      have q654 := cond_t q654 hc
                      refine ev0 (rn_field rfl rfl FO57_2) ?_
                      refine ev (rn_load rfl rfl (run_loadVar1 T3 (a629.2 2 _ rfl))) ?_
                      refine sel_of (fun hc => ?_) (fun hc => ?_)
                      ·
                        have q654 := cond_t q654 hc
                        refine ev0 (rn_field rfl rfl FO57_2) ?_
                        refine ev (rn_load rfl rfl (run_loadVar1 T3 (a629.2 2 _ rfl))) ?_
                        refine sel_of (fun hc => ?_) (fun hc => ?_)
                        ·
                          have q654 := cond_t q654 hc
                          obtain rfl := Option.some.inj q654
                          exact ⟨((x622.Kids.length : Int) == 1), (.c rfl .n), rfl, rfl⟩
                        ·
                          have q654 := cond_f q654 hc
                          obtain rfl := Option.some.inj q654
                          exact ⟨false, (.c rfl .n), rfl, rfl⟩
                      ·
                        have q654 := cond_f q654 hc
                        obtain rfl := Option.some.inj q654
                        exact ⟨false, (.c rfl .n), rfl, rfl⟩
                    ·
                      have q654 := cond_f q654 hc
                      obtain rfl := Option.some.inj q654
                      exact ⟨false, (.c rfl .n), rfl, rfl⟩
                  ·
                    rintro x652 _ ⟨hy, rfl⟩
                    replace hy := hy.symm
                    subst hy
                    apply go
                    obtain rfl := Option.some.inj h
                    exact ⟨rfl, hp.ch⟩
                ·
                  have h := cond_f h hc
                  apply go
                  apply go
                  apply go
                  apply go
                  obtain rfl := Option.some.inj h
                  exact ⟨rfl, hp.ch⟩

end Go.Proofs.YtcdboppghnchpaaDoor

namespace Go.Proofs.YtcdboppghnchpaaDoor
open Go Go.Proofs.YtcdboppghnchpaaDoor.Gw Go.RowKit
set_option linter.unusedVariables false
attribute [local irreducible] Ev EvQ EvS EvH
def tree_valid_S (f : Node → Int → Option Bool) : Prop := ∀ (w0 : World) (I0 : Nat → Prop) (x655 : Node) (v656 : Value) (r657 : RepS dNode w0 I0 v656 x655.Kids) (x658 : Int) (hI : ∀ g, I0 g → g < w0.heap.size) (r : Bool), f x655 x658 = some r →
    Ret Tryd.prog 78 #[(.agg #[(.int .i64 x655.Kind), (.int .i64 x655.Name), (.int .i64 x655.Count), v656]), (.int .i64 x658)] w0 fun v w1 => v = (.bool r) ∧ Ch [] w0 w1
theorem tree_valid_F_ok (n : Nat) (self : Node → Int → Option Bool) (ih : tree_valid_S self) : tree_valid_S (tree_valid_F n self) := by
  intro w0 I0 x655 v656 r657 x658 hI r h
  unfold tree_valid_F at h
  refine enter Tryd.func78 rfl (Nat.le_of_ble_eq_true rfl) ?_
  have hp : Hp ⟨w0, I0, []⟩ I0 [] w0 := Hp.start hI
  apply go
  apply go
  refine ev_boxI hp rfl rfl ?_
  intro p661 I662 w660 hp hs a663
  replace r657 := r657.step hs
  apply go
  obtain ⟨y669, q670, h⟩ := bind_some h
  refine W.cut (γ := Bool) (fun g => [(1, (.int .i64 x658)), (2, (.pointer (some (p661)))), (13, (.bool (g)))]) (fun g w' => y669 = (g) ∧ Hp ⟨w0, I0, []⟩ I662 [] w' ∧ RepS dNode w' I662 v656 x655.Kids ∧ At w' I662 p661 [(.int .i64 x655.Kind), (.int .i64 x655.Name), (.int .i64 x655.Count), v656]) ?_ ?_
  ·
    apply go
    refine sel_of (fun hc => ?_) (fun hc => ?_)
    ·
      have q670 := cond_t q670 hc
      obtain rfl := Option.some.inj q670
      exact ⟨true, (.c rfl (.c rfl (.c rfl .n))), rfl, hp, r657, a663⟩
    ·
      have q670 := cond_f q670 hc
      refine ev (rn_load rfl rfl (run_loadVarA T57 rfl a663)) ?_
      obtain ⟨x671, q672, q670⟩ := bind_some q670
      refine ev_call rfl rfl C101 (((tree_fits_ok n) _ _  (Node.mk x655.Kind x655.Name x655.Count x655.Kids) v656 r657 hp.imm _ q672).mono ?_)
      rintro _ w673 ⟨rfl, hc⟩
      have hs := hp.stp hc
      replace hp := hp.ext hc
      replace a663 := a663.step hs
      replace r657 := r657.step hs
      obtain rfl := Option.some.inj q670
      exact ⟨(!x671), (.c rfl (.c rfl (.c rfl .n))), rfl, hp, r657, a663⟩
  ·
    rintro x667 w668 ⟨hy, hp, r657, a663⟩
    replace hy := hy.symm
    subst hy
    apply go
    refine sel_of (fun hc => ?_) (fun hc => ?_)
    ·
      have h := cond_t h hc
      apply go
      apply go
      apply go
      obtain rfl := Option.some.inj h
      exact ⟨rfl, hp.ch⟩
    ·
      have h := cond_f h hc
      apply go
      obtain ⟨y725, q726, h⟩ := bind_some h
      refine W.cut (γ := Unit) (fun _ => []) (fun _ w' => y725 = .go () ∧ Hp ⟨w0, I0, []⟩ I662 [] w') ?_ ?_
      ·
        apply go
        apply go
        refine ev0 (rn_field rfl rfl FO57_3) ?_
        refine ev (rn_load rfl rfl (run_loadVar1 T55 (a663.2 3 _ rfl))) ?_
        refine ev0 (rn_len rfl rfl Tryd.underlying55 r657) ?_
        apply go
        refine W.loop q726 (γ := Unit) (fun s _ => [(1, (.int .i64 x658)), (15, v656), (16, (.int .i64 (x655.Kids.length : Int))), (17, (.int .i64 (s)))]) (fun s _ w' => Hp ⟨w0, I0, []⟩ I662 [] w' ∧ RepS dNode w' I662 v656 x655.Kids) () (.c rfl (.c rfl (.c rfl (.c rfl .n)))) ⟨hp, r657⟩ ?_
        rintro x741 ⟨⟩ w757 y758 ⟨hp, r657⟩ q759 q760
        unfold tree_valid_L1 at q759
        apply go
        apply go
        apply go
        apply go
        refine sel_of (fun hc => ?_) (fun hc => ?_)
        ·
          have q759 := cond_t q759 hc
          apply go
          apply go
          apply go
          apply go
          apply go
          obtain ⟨x761, q762, q759⟩ := bind_some q759
          refine ev_index rfl rfl rfl Tryd.underlying55 T57 r657 q762 ?_
          intro p763 c764 d765 a766
          obtain ⟨v767, rfl, r768⟩ := dNode_o d765
          refine ev (rn_load rfl rfl (run_loadVarA T57 rfl a766)) ?_
          refine ev_alloc hp rfl T57 ?_
          intro g769 w770 hp hs
          replace r657 := r657.step hs
          replace r768 := r768.step hs
          refine ev_storeA hp (i := 0) (off := 0) (vs := [(.int .i64 x761.Kind), (.int .i64 x761.Name), (.int .i64 x761.Count), v767]) rfl rfl rfl rfl T57 rfl (Nat.le_of_ble_eq_true rfl) (ones_cons rfl (ones_cons rfl (ones_cons rfl (ones_cons r768.one ones_nil)))) ?_
          intro w771 hp hs
          replace r657 := r657.step hs
          replace r768 := r768.step hs
          apply go
          apply go
          refine ev (rn_load rfl rfl (run_loadVarA T57 rfl (hp.at_ (i := 0) rfl))) ?_
          obtain ⟨x772, q773, q759⟩ := bind_some q759
          refine ev_call rfl rfl C78 ((ih _ _  (Node.mk x761.Kind x761.Name x761.Count x761.Kids) v767 r768 (IntKind.i64.wrap (x658 - 1)) hp.imm _ q773).mono ?_)
          rintro _ w774 ⟨rfl, hc⟩
          have hs := hp.stp hc
          replace hp := hp.ext hc
          replace r657 := r657.step hs
          replace r768 := r768.step hs
          apply go
          refine sel_of (fun hc => ?_) (fun hc => ?_)
          ·
            have q759 := cond_t q759 hc
            apply go
            apply go
            apply go
            have q775 := congrArg some (q760 _ (Option.some.inj q759).symm)
            obtain rfl := Option.some.inj q775
            obtain rfl := Option.some.inj h
            exact ⟨rfl, hp.ch⟩
          ·
            have q759 := cond_f q759 hc
            apply go
            apply go
            have hp := hp.sel [] (by decide)
            exact ⟨_, (Option.some.inj q759).symm, (), (.c rfl (.c rfl (.c rfl (.c rfl .n)))), ⟨hp, r657⟩⟩
        ·
          have q759 := cond_f q759 hc
          apply go
          have q776 := congrArg some (q760 _ (Option.some.inj q759).symm)
          obtain rfl := Option.some.inj q776
          exact ⟨(), .n, rfl, hp⟩
      ·
        rintro ⟨⟩ w724 ⟨hy, hp⟩
        replace hy := hy.symm
        subst hy
        apply go
        apply go
        apply go
        obtain rfl := Option.some.inj h
        exact ⟨rfl, hp.ch⟩
theorem tree_valid_ok : ∀ n, tree_valid_S (tree_valid n)
  | 0 => by intro w0 I0 x655 v656 r657 x658 hI r h; cases h
  | n + 1 => tree_valid_F_ok n _ (tree_valid_ok n)

end Go.Proofs.YtcdboppghnchpaaDoor

namespace Go.Proofs.YtcdboppghnchpaaDoor
open Go Go.Proofs.YtcdboppghnchpaaDoor.Gw Go.RowKit
set_option linter.unusedVariables false
attribute [local irreducible] Ev EvQ EvS EvH
def tree_Valid_S (f : Node → Option Bool) : Prop := ∀ (w0 : World) (I0 : Nat → Prop) (x777 : Node) (v778 : Value) (r779 : RepS dNode w0 I0 v778 x777.Kids) (hI : ∀ g, I0 g → g < w0.heap.size) (r : Bool), f x777 = some r →
    Ret Tryd.prog 46 #[(.agg #[(.int .i64 x777.Kind), (.int .i64 x777.Name), (.int .i64 x777.Count), v778])] w0 fun v w1 => v = (.bool r) ∧ Ch [] w0 w1
theorem tree_Valid_ok (n : Nat) : tree_Valid_S (tree_Valid n) := by
  intro w0 I0 x777 v778 r779 hI r h
  unfold tree_Valid at h
  refine enter Tryd.func46 rfl (Nat.le_of_ble_eq_true rfl) ?_
  have hp : Hp ⟨w0, I0, []⟩ I0 [] w0 := Hp.start hI
  apply go
  apply go
  refine ev_boxI hp rfl rfl ?_
  intro p782 I783 w781 hp hs a784
  replace r779 := r779.step hs
  obtain ⟨y793, q794, h⟩ := bind_some h
  refine W.cut (γ := Bool) (fun g => [(2, (.bool (g)))]) (fun g w' => y793 = (g) ∧ Hp ⟨w0, I0, []⟩ I783 [] w') ?_ ?_
  ·
    apply go
    refine ev (rn_load rfl rfl (run_loadVarA T57 rfl a784)) ?_
    obtain ⟨x795, q796, q794⟩ := bind_some q794
    refine ev_call rfl rfl C77 (((tree_Size_ok n) _ _  (Node.mk x777.Kind x777.Name x777.Count x777.Kids) v778 r779 hp.imm _ q796).mono ?_)
    rintro _ w797 ⟨rfl, hc⟩
    have hs := hp.stp hc
    replace hp := hp.ext hc
    replace a784 := a784.step hs
    replace r779 := r779.step hs
    refine sel_of (fun hc => ?_) (fun hc => ?_)
    ·
      have q794 := cond_t q794 hc
      refine ev (rn_load rfl rfl (run_loadVarA T57 rfl a784)) ?_
      obtain ⟨x798, q799, q794⟩ := bind_some q794
      refine ev_call rfl rfl C78 (((tree_valid_ok n) _ _  (Node.mk x777.Kind x777.Name x777.Count x777.Kids) v778 r779 16 hp.imm _ q799).mono ?_)
      rintro _ w800 ⟨rfl, hc⟩
      have hs := hp.stp hc
      replace hp := hp.ext hc
      obtain rfl := Option.some.inj q794
      exact ⟨x798, (.c rfl .n), rfl, hp⟩
    ·
      have q794 := cond_f q794 hc
      obtain rfl := Option.some.inj q794
      exact ⟨false, (.c rfl .n), rfl, hp⟩
  ·
    rintro x791 w792 ⟨hy, hp⟩
    replace hy := hy.symm
    subst hy
    apply go
    obtain rfl := Option.some.inj h
    exact ⟨rfl, hp.ch⟩

end Go.Proofs.YtcdboppghnchpaaDoor

namespace Go.Proofs.YtcdboppghnchpaaDoor
open Go Go.Proofs.YtcdboppghnchpaaDoor.Gw Go.RowKit
set_option linter.unusedVariables false
attribute [local irreducible] Ev EvQ EvS EvH
def tree_Runner_add_S (f : Runner → Node → Option (Int × Runner)) : Prop := ∀ (w0 : World) (I0 : Nat → Prop) (x801 : Runner) (g802 : Nat) (E803 : List Ent) (q804 : qZ w0 I0 g802 E803 x801) (x805 : Node) (v806 : Value) (r807 : RepS dNode w0 I0 v806 x805.Kids) (hp : Hp ⟨w0, I0, blks E803⟩ I0 E803 w0) (r : (Int × Runner)), f x801 x805 = some r →
    Ret Tryd.prog 49 #[(.pointer (some ⟨g802, 0, none⟩)), (.agg #[(.int .i64 x805.Kind), (.int .i64 x805.Name), (.int .i64 x805.Count), v806])] w0 fun v w1 => ∃ (I1 : Nat → Prop) (u808 : List Ent), v = (.int .i64 r.1) ∧ Hp ⟨w0, I0, blks E803⟩ I1 u808 w1 ∧ qN w0.heap.size w1 I1 g802 u808 r.2

/-- Nodes whose lists of kids are own rows. -/
def KidsR (w : World) (I : Nat → Prop) (rs : List Rw) (ks : List Ent) (xs : List Node_2) : Prop :=
  rs.length = xs.length ∧ ks.length = xs.length ∧ ∀ (i : Nat) (r : Rw) (k : Ent) (x : Node_2), rs[i]? = some r → ks[i]? = some k → xs[i]? = some x → r.a = x.kind ∧ r.b = x.name ∧ r.c = x.count ∧ OwnS (dI .i64) 3 w I r.v k x.kids
theorem KidsR.step {w w' : World} {I I' : Nat → Prop} {rs : List Rw} {ks : List Ent} {xs : List Node_2} (h : KidsR w I rs ks xs) (k : Stp I w I' w') : KidsR w' I' rs ks xs :=
  ⟨h.1, h.2.1, fun i r e x h1 h2 h3 => let ⟨a, b, c, o⟩ := h.2.2 i r e x h1 h2 h3; ⟨a, b, c, o.step k⟩⟩
theorem KidsR.snoc {w : World} {I : Nat → Prop} {rs : List Rw} {ks : List Ent} {xs : List Node_2} (h : KidsR w I rs ks xs) (a b c : Int) : KidsR w I (rs ++ [⟨a, b, c, .slice none 0 0⟩]) (ks ++ [none]) (xs ++ [Node_2.mk a b c []]) := by
  obtain ⟨h1, h2, h3⟩ := h
  refine ⟨by simp [h1], by simp [h2], fun i r k x hr hk hx => ?_⟩
  rcases Nat.lt_trichotomy i xs.length with hi | hi | hi
  · rw [List.getElem?_append_left (by omega)] at hr hk hx
    exact h3 i r k x hr hk hx
  · rw [List.getElem?_append_right (by omega)] at hr hk hx
    simp only [h1, h2, hi, Nat.sub_self, List.getElem?_cons_zero, Option.some.injEq] at hr hk hx
    subst hr hk hx
    exact ⟨rfl, rfl, rfl, OwnS.nil _ _ _ _⟩
  · rw [List.getElem?_eq_none (by simp; omega)] at hx; cases hx
theorem KidsR.put {w : World} {I : Nat → Prop} {rs : List Rw} {ks : List Ent} {xs : List Node_2} (h : KidsR w I rs ks xs) {j : Nat} {r : Rw} {x : Node_2} {v : Value} {e : Ent} {l : List Int} (hr : rs[j]? = some r) (hx : xs[j]? = some x) (ho : OwnS (dI .i64) 3 w I v e l) :
    KidsR w I (rs.set j ⟨r.a, r.b, r.c, v⟩) (ks.set j e) (xs.set j (Node_2.mk x.kind x.name x.count l)) := by
  obtain ⟨h1, h2, h3⟩ := h
  have hj := (List.getElem?_eq_some_iff.1 hx).1
  refine ⟨by simp [h1], by simp [h2], fun i r' k' x' hr' hk' hx' => ?_⟩
  rw [List.getElem?_set] at hr' hk' hx'
  split at hr'
  · rename_i e0
    subst e0
    rw [if_pos rfl, if_pos (by omega)] at hk' hx'
    rw [if_pos (by omega)] at hr'
    simp only [Option.some.injEq] at hr' hk' hx'
    subst hr' hk' hx'
    obtain ⟨a, b, c, _⟩ := h3 j r (ks[j]'(by omega)) x hr (List.getElem?_eq_getElem (by omega)) hx
    exact ⟨a, b, c, ho⟩
  · rename_i e0
    rw [if_neg e0] at hk' hx'
    exact h3 i r' k' x' hr' hk' hx'
theorem KidsR.get {w : World} {I : Nat → Prop} {rs : List Rw} {ks : List Ent} {xs : List Node_2} (h : KidsR w I rs ks xs) {i : Int} {x : Node_2} (hx : idx xs i = some x) : ∃ (r : Rw) (e : Ent), idx rs i = some r ∧ rs[i.toNat]? = some r ∧ ks[i.toNat]? = some e ∧ xs[i.toNat]? = some x ∧ OwnS (dI .i64) 3 w I r.v e x.kids := by
  obtain ⟨h0, hl, hg⟩ := idx_some hx
  have h1 := h.1; have h2 := h.2.1
  refine ⟨rs[i.toNat]'(by omega), ks[i.toNat]'(by omega), ?_, List.getElem?_eq_getElem _, List.getElem?_eq_getElem _, hg, (h.2.2 i.toNat _ _ x (List.getElem?_eq_getElem _) (List.getElem?_eq_getElem _) hg).2.2.2⟩
  unfold idx; rw [if_pos h0]; exact List.getElem?_eq_getElem _
theorem PLadd : Places Tryd.prog 117 [(0, 1), (1, 1), (2, 1), (3, 1)] := by unfold Places; kernel_rfl
def add_G (f : List Node_2 → Node → Option (Int × List Node_2)) : Prop := ∀ (w0 : World) (I0 : Nat → Prop) (g : Nat) (v : Value) (e : Ent) (ks : List Ent) (xs : List Node_2) (rs : List Rw) (t : Node) (vt : Value) (_ : RepS dNode w0 I0 vt t.Kids)
    (_ : OwnS dRw 117 w0 I0 v e rs) (_ : KidsR w0 I0 rs ks xs) (_ : Hp ⟨w0, I0, blks (some (g, [v, (.slice none 0 0), (.slice none 0 0)], 108) :: e :: ks)⟩ I0 (some (g, [v, (.slice none 0 0), (.slice none 0 0)], 108) :: e :: ks) w0) (r : Int × List Node_2), f xs t = some r →
    Ret Tryd.prog 49 #[(.pointer (some ⟨g, 0, none⟩)), (.agg #[(.int .i64 t.Kind), (.int .i64 t.Name), (.int .i64 t.Count), vt])] w0 fun u w1 => ∃ (I1 : Nat → Prop) (v' : Value) (e' : Ent) (ks' : List Ent) (rs' : List Rw), u = .int .i64 r.1 ∧
      Hp ⟨w0, I0, blks (some (g, [v, (.slice none 0 0), (.slice none 0 0)], 108) :: e :: ks)⟩ I1 (some (g, [v', (.slice none 0 0), (.slice none 0 0)], 108) :: e' :: ks') w1 ∧ OwnS dRw 117 w1 I1 v' e' rs' ∧ KidsR w1 I1 rs' ks' r.2
set_option maxHeartbeats 1000000 in
theorem addN_F_ok (n : Nat) (self : List Node_2 → Node → Option (Int × List Node_2)) (ih : add_G self) : add_G (addN_F n self) := by
  intro w0 I0 g v e ks xs rs t vt rt on kr hp r h
  unfold addN_F at h
  refine enter Tryd.func49 rfl (Nat.le_of_ble_eq_true rfl) ?_
  generalize blks (some (g, [v, (.slice none 0 0), (.slice none 0 0)], 108) :: e :: ks) = B at hp ⊢
  apply go
  apply go
  refine ev_boxI hp rfl rfl ?_
  intro p I1 w1 hp hs a
  replace rt := rt.step hs
  replace on := on.step hs
  replace kr := kr.step hs
  apply go
  apply go
  refine ev0 (rn_field rfl rfl FO108_0) ?_
  refine ev (rn_load rfl rfl (run_loadVar1 T106 (hp.cell (i := 0) (off := 0) rfl rfl))) ?_
  refine ev0 (show Rn0 _ _ _ (.int .i64 (xs.length : Int)) from by rw [← kr.1]; exact x_lenO rfl rfl Tryd.underlying106 on) ?_
  obtain ⟨xs1, q1, h⟩ := bind_some h
  apply go
  have hs := hp.stp (Ch.drew [] w1)
  have hp := hp.drew
  replace a := a.step hs
  replace rt := rt.step hs
  replace on := on.step hs
  replace kr := kr.step hs
  refine W.heldG (.q 0 (.q 1 (.q 2 (.q 3 (.q 4 (.q 5 (.q 6 (.q 7 (.q 8 (.q 9 (.q 10 (.q 11 (.l 12 (.l 13 (.q 14 (.q 15 (.l 16 .done .no))) .no) .no))))))))))))) (SK (Stp I1 w1.drew I1) [(g, [v, (.slice none 0 0), (.slice none 0 0)], 108)] [[16]]) MX (by kernel_rfl) ⟨Stp.refl _ _, (kp_cons (fun _ => (hp.own 0 _ _ _ rfl).1) kp_nil)⟩ ?_
  have hz := Stp.refl I1 w1.drew
  refine ⟨SK.same (by kernel_rfl), ?_⟩
  refine ⟨SK.same (by kernel_rfl), ?_⟩
  refine ⟨SK.same (by kernel_rfl), ?_⟩
  refine ⟨SK.same (by kernel_rfl), ?_⟩
  refine evh0 (rn_field rfl rfl FO108_0) ?_
  refine ⟨SK.same (by kernel_rfl), ?_⟩
  refine evh (fun w' hw => rn_load rfl rfl (run_loadVar1 T106 ((S0.keep (p := 0) hw rfl rfl (by kernel_rfl)).cell (i := 0) (off := 0) rfl rfl))) ?_
  refine ⟨SK.same (by kernel_rfl), ?_⟩
  refine evh0 (rn_field rfl rfl FO57_0) ?_
  refine ⟨SK.same (by kernel_rfl), ?_⟩
  refine evh (fun w' hw => rn_load rfl rfl (run_loadVar1 T3 ((a.step (S0.si hw)).2 0 _ rfl))) ?_
  refine ⟨SK.same (by kernel_rfl), ?_⟩
  refine evh0 (rn_field rfl rfl FO57_1) ?_
  refine ⟨SK.same (by kernel_rfl), ?_⟩
  refine evh (fun w' hw => rn_load rfl rfl (run_loadVar1 T3 ((a.step (S0.si hw)).2 1 _ rfl))) ?_
  refine ⟨SK.same (by kernel_rfl), ?_⟩
  refine evh0 (rn_field rfl rfl FO57_2) ?_
  refine ⟨SK.same (by kernel_rfl), ?_⟩
  refine evh (fun w' hw => rn_load rfl rfl (run_loadVar1 T3 ((a.step (S0.si hw)).2 2 _ rfl))) ?_
  refine ⟨SK.same (by kernel_rfl), ?_⟩
  refine evh0 (fun w => rn_build (cs := [(.int .i64 t.Kind), (.int .i64 t.Name), (.int .i64 t.Count), (.slice none 0 0)]) rfl rfl T117 PLadd rfl) ?_
  refine ⟨?_, trivial⟩
  refine ev_litN (d := dRw) (xs := [Rw.mk t.Kind t.Name t.Count (.slice none 0 0)]) (cs := [(.int .i64 t.Kind), (.int .i64 t.Name), (.int .i64 t.Count), (.slice none 0 0)]) hp rfl rfl Tryd.underlying106 T117 (by decide) rfl rfl (Elems.cons (d := dRw) (xs := _) (dRw_one rfl) (Elems.nil _ _ _ _)) ?_
  intro v2 I2 w2 hp hs r2
  replace hz := hz.trans hs
  replace a := a.step hs
  replace rt := rt.step hs
  replace on := on.step hs
  replace kr := kr.step hs
  refine ⟨SK (Stp I2 w2 I2) [(g, [v, (.slice none 0 0), (.slice none 0 0)], 108)] [[16]], ⟨Stp.refl _ _, (kp_cons (fun _ => (hp.own 0 _ _ _ rfl).1) kp_nil)⟩, fun L x h => ⟨hz.held h.1, h.2⟩, ?_⟩
  have hz := Stp.refl I2 w2
  have q1' : app rs [Rw.mk t.Kind t.Name t.Count (.slice none 0 0)] = some (rs ++ [Rw.mk t.Kind t.Name t.Count (.slice none 0 0)]) := by
    have := (app_some q1).1
    unfold app
    rw [if_pos (by rw [kr.1]; simpa using this)]
  refine ⟨?_, trivial⟩
  refine ev_append hp (i := 1) rfl rfl rfl rfl Tryd.underlying106 T117 rfl rfl on r2 q1' ?_
  rintro v3 e3 w3 hp hs on3
  obtain rfl := (app_some q1).2
  replace hz := hz.trans hs
  replace a := a.step hs
  replace rt := rt.step hs
  replace kr := (kr.step hs).snoc t.Kind t.Name t.Count
  refine ⟨SK (Stp I2 w3 I2) [(g, [v, (.slice none 0 0), (.slice none 0 0)], 108)] [[16]], ⟨Stp.refl _ _, (kp_cons (fun _ => (hp.own 0 _ _ _ rfl).1) kp_nil)⟩, fun L x h => ⟨hz.held h.1, h.2⟩, ?_⟩
  have hz := Stp.refl I2 w3
  refine ⟨SK.same (by kernel_rfl), ?_⟩
  refine ⟨SK.same (by kernel_rfl), ?_⟩
  refine evh0 (rn_field rfl rfl FO108_0) ?_
  refine ⟨?_, trivial⟩
  refine ev_store1 hp (i := 0) (off := 0) rfl rfl rfl rfl T106 on3.one (Nat.le_of_ble_eq_true rfl) ?_
  intro w4 hp hs
  replace hz := hz.trans hs
  replace a := a.step hs
  replace rt := rt.step hs
  replace on3 := on3.step hs
  replace kr := kr.step hs
  have hp : Hp ⟨w0, I0, B⟩ I2 (some (g, [v3, (.slice none 0 0), (.slice none 0 0)], 108) :: e3 :: (ks ++ [none])) w4 := hp.snoc_none
  refine ⟨SK (Stp I2 w4 I2) [(g, [v, (.slice none 0 0), (.slice none 0 0)], 108)] [[16]], ⟨Stp.refl _ _, (kp_cons (kp_off (by kernel_rfl)) kp_nil)⟩, fun L x h => ⟨hz.held h.1, h.2⟩, ?_⟩
  have hz := Stp.refl I2 w4
  obtain ⟨ns2, q2, h⟩ := bind_some h
  refine W.cut (γ := (List Node_2 × Value × Ent × List Ent × List Rw × (Nat → Prop))) (fun _ => [(5, (.int .i64 (xs.length : Int)))]) (fun s w' => ns2 = s.1 ∧ Hp ⟨w0, I0, B⟩ s.2.2.2.2.2 (some (g, [s.2.1, (.slice none 0 0), (.slice none 0 0)], 108) :: s.2.2.1 :: s.2.2.2.1) w' ∧ OwnS dRw 117 w' s.2.2.2.2.2 s.2.1 s.2.2.1 s.2.2.2.2.1 ∧ KidsR w' s.2.2.2.2.2 s.2.2.2.2.1 s.2.2.2.1 s.1) ?_ ?_
  ·
    apply go
    apply go
    refine ev0 (rn_field rfl rfl FO57_3) ?_
    refine ev (rn_load rfl rfl (run_loadVar1 T55 (a.2 3 _ rfl))) ?_
    refine ev0 (rn_len rfl rfl Tryd.underlying55 rt) ?_
    apply go
    refine W.loop q2 (γ := (Value × Ent × List Ent × List Rw × (Nat → Prop))) (fun s _ => [(0, (.pointer (some ⟨g, 0, none⟩))), (5, (.int .i64 (xs.length : Int))), (31, vt), (32, (.int .i64 (t.Kids.length : Int))), (33, (.int .i64 s.1))])
      (fun s b w' => Hp ⟨w0, I0, B⟩ b.2.2.2.2 (some (g, [b.1, (.slice none 0 0), (.slice none 0 0)], 108) :: b.2.1 :: b.2.2.1) w' ∧ OwnS dRw 117 w' b.2.2.2.2 b.1 b.2.1 b.2.2.2.1 ∧ KidsR w' b.2.2.2.2 b.2.2.2.1 b.2.2.1 s.2 ∧ RepS dNode w' b.2.2.2.2 vt t.Kids)
      (v3, e3, ks ++ [none], rs ++ [Rw.mk t.Kind t.Name t.Count (.slice none 0 0)], I2) (.c rfl (.c rfl (.c rfl (.c rfl (.c rfl .n))))) ⟨hp, on3, kr, rt⟩ ?_
    rintro ⟨i, ns⟩ ⟨v6, e6, ks6, rs6, I6⟩ w6 y ⟨hp, on, kr, rt⟩ q3 q4
    unfold addN_L at q3
    apply go
    apply go
    apply go
    apply go
    refine sel_of (fun hc => ?_) (fun hc => ?_)
    ·
      have q3 := cond_t q3 hc
      apply go
      apply go
      apply go
      apply go
      apply go
      obtain ⟨t1, q5, q3⟩ := bind_some q3
      refine ev_index rfl rfl rfl Tryd.underlying55 T57 rt q5 ?_
      intro p7 c7 d7 a7
      obtain ⟨v7, rfl, r7⟩ := dNode_o d7
      refine ev (rn_load rfl rfl (run_loadVarA T57 rfl a7)) ?_
      refine ev_alloc hp rfl T57 ?_
      intro g8 w8 hp hs
      replace on := on.step hs
      replace kr := kr.step hs
      replace rt := rt.step hs
      replace r7 := r7.step hs
      refine ev_storeA hp (i := 0) (off := 0) (vs := [(.int .i64 t1.Kind), (.int .i64 t1.Name), (.int .i64 t1.Count), v7]) rfl rfl rfl rfl T57 rfl (Nat.le_of_ble_eq_true rfl) (ones_cons rfl (ones_cons rfl (ones_cons rfl (ones_cons r7.one ones_nil)))) ?_
      intro w9 hp hs
      replace on := on.step hs
      replace kr := kr.step hs
      replace rt := rt.step hs
      replace r7 := r7.step hs
      apply go
      apply go
      refine ev (rn_load rfl rfl (run_loadVarA T57 rfl (hp.at_ (i := 0) rfl))) ?_
      have hp := hp.tail
      obtain ⟨⟨j, ns1⟩, q6, q3⟩ := bind_some q3
      refine ev_call rfl rfl C49 ((ih w9 I6 g v6 e6 ks6 ns rs6 t1 v7 r7 on kr hp.lendAll (j, ns1) q6).mono ?_)
      rintro _ w10 ⟨I10, v10, e10, ks10, rs10, hv, hq, on, kr⟩
      replace hv := hv.symm
      subst hv
      have hs := hq.st
      have hp := hp.backAll hq
      replace rt := rt.step hs
      obtain ⟨nd, q7, q3⟩ := bind_some q3
      obtain ⟨r10, ek, q8, q9, q10, q11, ok⟩ := kr.get q7
      obtain ⟨ge, cs, cap, _, he, _⟩ := on.open q8
      rw [he] at hp on
      apply go
      have hs := hp.stp (Ch.drew [] w10)
      have hp := hp.drew
      replace on := on.step hs
      replace kr := kr.step hs
      replace rt := rt.step hs
      replace ok := ok.step hs
      refine W.heldG (.q 0 (.q 1 (.q 2 (.q 3 (.q 4 (.q 5 (.q 6 (.q 7 (.q 8 (.q 9 (.q 10 (.q 11 (.q 12 (.q 13 (.l 14 (.l 15 (.q 16 (.q 17 (.l 18 .done .no))) .no) .no))))))))))))))) (SK (Stp I10 w10.drew I10) [(g, [v10, (.slice none 0 0), (.slice none 0 0)], 108), (ge, cs, 117)] [[], [18]]) MX (by kernel_rfl) ⟨Stp.refl _ _, (kp_cons (fun _ => (hp.own 0 _ _ _ rfl).1) (kp_cons (fun _ => (hp.own 1 _ _ _ rfl).1) kp_nil))⟩ ?_
      have hz := Stp.refl I10 w10.drew
      refine ⟨SK.same (by kernel_rfl), ?_⟩
      refine ⟨SK.same (by kernel_rfl), ?_⟩
      refine ⟨SK.same (by kernel_rfl), ?_⟩
      refine evh0 (rn_field rfl rfl FO108_0) ?_
      refine ⟨SK.same (by kernel_rfl), ?_⟩
      refine evh (fun w' hw => rn_load rfl rfl (run_loadVar1 T106 ((S0.keep (p := 0) hw rfl rfl (by kernel_rfl)).cell (i := 0) (off := 0) rfl rfl))) ?_
      refine ⟨SK.same (by kernel_rfl), ?_⟩
      refine ⟨SK.same (by kernel_rfl), ?_⟩
      refine ⟨SK.same (by kernel_rfl), ?_⟩
      refine ⟨SK.same (by kernel_rfl), ?_⟩
      refine evh0 (rn_field rfl rfl FO108_0) ?_
      refine ⟨SK.same (by kernel_rfl), ?_⟩
      refine evh (fun w' hw => rn_load rfl rfl (run_loadVar1 T106 ((S0.keep (p := 0) hw rfl rfl (by kernel_rfl)).cell (i := 0) (off := 0) rfl rfl))) ?_
      refine ⟨SK.same (by kernel_rfl), ?_⟩
      refine ⟨SK.same (by kernel_rfl), ?_⟩
      refine evh_indexP rfl rfl rfl Tryd.underlying106 T117 on q8 ?_
      intro d10 l10
      refine ⟨SK.same (by kernel_rfl), ?_⟩
      refine evh0 (rn_field rfl rfl FO117_3) ?_
      refine ⟨SK.same (by kernel_rfl), ?_⟩
      refine evh (fun w' hw => rn_load rfl rfl (run_loadVar1 T66 (by rw [add_lit]; exact (S0.keep (p := 1) hw rfl rfl (by kernel_rfl)).cell (i := 0) (off := (xs.length : Int).toNat * 4 + 3) rfl (on.cell3 q8).2.2.2))) ?_
      refine ⟨SK.same (by kernel_rfl), ?_⟩
      refine ⟨?_, trivial⟩
      refine ev_litN (d := dI .i64) (xs := [j]) (cs := [(.int .i64 j)]) hp rfl rfl Tryd.underlying66 T3 (by decide) rfl rfl (Elems.cons (d := dI .i64) (xs := _) rfl (Elems.nil _ _ _ _)) ?_
      intro v11 I11 w11 hp hs r11
      replace hz := hz.trans hs
      replace on := on.step hs
      replace kr := kr.step hs
      replace rt := rt.step hs
      replace ok := ok.step hs
      refine ⟨SK (Stp I11 w11 I11) [(g, [v10, (.slice none 0 0), (.slice none 0 0)], 108), (ge, cs, 117)] [[], [18]], ⟨Stp.refl _ _, (kp_cons (fun _ => (hp.own 0 _ _ _ rfl).1) (kp_cons (fun _ => (hp.own 1 _ _ _ rfl).1) kp_nil))⟩, fun L x h => ⟨hz.held h.1, h.2⟩, ?_⟩
      have hz := Stp.refl I11 w11
      refine ⟨?_, trivial⟩
      obtain ⟨kk, q12, q3⟩ := bind_some q3
      refine ev_append hp (i := (xs.length : Int).toNat + 2) (by simpa using q10) rfl rfl rfl Tryd.underlying66 T3 rfl rfl ok r11 q12 ?_
      rintro v12 e12 w12 hp hs o12
      replace hp : Hp ⟨w0, I0, B⟩ I11 (some (g, [v10, (.slice none 0 0), (.slice none 0 0)], 108) :: some (ge, cs, 117) :: ks10.set (xs.length : Int).toNat e12) w12 := hp
      replace hz := hz.trans hs
      replace on := on.step hs
      replace kr := kr.step hs
      replace rt := rt.step hs
      refine ⟨SK (Stp I11 w12 I11) [(g, [v10, (.slice none 0 0), (.slice none 0 0)], 108), (ge, cs, 117)] [[], [18]], ⟨Stp.refl _ _, (kp_cons (fun _ => (hp.own 0 _ _ _ rfl).1) (kp_cons (fun _ => (hp.own 1 _ _ _ rfl).1) kp_nil))⟩, fun L x h => ⟨hz.held h.1, h.2⟩, ?_⟩
      have hz := Stp.refl I11 w12
      refine ⟨SK.same (by kernel_rfl), ?_⟩
      refine evh_indexP rfl rfl rfl Tryd.underlying106 T117 on q8 ?_
      intro d12 l12
      refine ⟨SK.same (by kernel_rfl), ?_⟩
      refine evh0 (rn_field rfl rfl FO117_3) ?_
      refine ⟨?_, trivial⟩
      refine ev_store1 hp (i := 1) (off := (xs.length : Int).toNat * 4 + 3) rfl rfl rfl rfl T66 o12.one (List.getElem?_eq_some_iff.1 (on.cell3 q8).2.2.2).1 ?_
      intro w13 hp hs
      replace hz := hz.trans hs
      replace on := (on.put3 q8 o12.one).step hs
      replace kr := (kr.put q9 q11 o12).step hs
      replace rt := rt.step hs
      refine ⟨SK (Stp I11 w13 I11) [(g, [v10, (.slice none 0 0), (.slice none 0 0)], 108), (ge, cs, 117)] [[], [18]], ⟨Stp.refl _ _, (kp_cons (fun _ => (hp.own 0 _ _ _ rfl).1) (kp_cons (kp_off (by kernel_rfl)) kp_nil))⟩, fun L x h => ⟨hz.held h.1, h.2⟩, ?_⟩
      have hz := Stp.refl I11 w13
      apply go
      obtain rfl := Option.some.inj q3
      exact ⟨_, rfl, (v10, some (ge, cs.set ((xs.length : Int).toNat * 4 + 3) v12, 117), ks10.set (xs.length : Int).toNat e12, rs10.set (xs.length : Int).toNat ⟨r10.a, r10.b, r10.c, v12⟩, I11), (.c rfl (.c rfl (.c rfl (.c rfl (.c rfl .n))))), ⟨hp, on, kr, rt⟩⟩
    ·
      have q3 := cond_f q3 hc
      apply go
      have q5 := congrArg some (q4 _ (Option.some.inj q3).symm)
      obtain rfl := Option.some.inj q5
      exact ⟨(ns, v6, e6, ks6, rs6, I6), (.c rfl .n), rfl, hp, on, kr⟩
  ·
    rintro ⟨ns3, v5, e5, ks5, rs5, I5⟩ w5 ⟨hy, hp, on, kr⟩
    replace hy := hy.symm
    subst hy
    apply go
    apply go
    apply go
    obtain rfl := Option.some.inj h
    exact ⟨I5, v5, e5, ks5, rs5, rfl, hp, on, kr⟩
theorem addN_ok : ∀ n, add_G (addN n)
  | 0 => by intro w0 I0 g v e ks xs rs t vt _ _ _ _ r h; cases h
  | n + 1 => addN_F_ok n _ (addN_ok n)
theorem KidsR.freeze {c : Cx} {w : World} {I : Nat → Prop} {b : Nat} {bc : List Value} {bt : TypeId} {e : Ent} {ks : List Ent} {rs : List Rw} {xs : List Node_2} {v : Value} (on : OwnS dRw 117 w I v e rs) (kr : KidsR w I rs ks xs) (hp : Hp c I (some (b, bc, bt) :: e :: ks) w) (hB : ∀ g, g ∈ c.B → g = b) :
    ∃ I', Hp c I' [some (b, bc, bt)] w ∧ Stp I w I' w ∧ RepF dNode_2 c.w0.heap.size w I' v xs := by
  refine ⟨_, hp.freezeAll.1, hp.freezeAll.2, ?_⟩
  have hlen := kr.1
  have hN : ∀ (i g : Nat) (cs : List Value) (t : TypeId), (some (b, bc, bt) :: e :: ks)[i + 1]? = some (some (g, cs, t)) → c.w0.heap.size ≤ g := by
    intro i g cs t hi
    rcases (hp.own _ g cs t hi).2.2 with h | h
    · exact h
    · have := hB g h
      subst this
      have := hp.inj (i + 1) 0 g cs bc t bt hi rfl
      omega
  rcases on with ⟨rfl, rfl, hr⟩ | ⟨g, cs, n, rfl, rfl, h3, h4, h5, h7⟩
  · rw [hr] at hlen
    obtain rfl := List.eq_nil_of_length_eq_zero hlen.symm
    exact RepF.nil
  · have hg := hN 0 g cs _ rfl
    refine ⟨some ⟨g, 0, none⟩, n, by rw [hlen], by omega, fun _ => ⟨_, rfl, ⟨.inr (by simp [blks, blk]), hg⟩, fun i x hx => ?_⟩⟩
    have hi := (List.getElem?_eq_some_iff.1 hx).1
    have hk := kr.2.1
    have hr := List.getElem?_eq_getElem (l := rs) (i := i) (by omega)
    have he := List.getElem?_eq_getElem (l := ks) (i := i) (by omega)
    obtain ⟨a, b', c', ok⟩ := kr.2.2 i _ _ x hr he hx
    obtain ⟨hd, _⟩ := h7 i _ hr
    have hR : RepS (dI .i64) w (fun g' => (I g' ∨ g' ∈ blks (some (g, cs, 117) :: ks)) ∧ c.w0.heap.size ≤ g') (rs[i]'(by omega)).v x.kids := by
      have hr0 := ok
      rcases ok with ⟨h1, h2, h3⟩ | ⟨g2, cs2, n2, h1, h2, h3, h4, h5, h8⟩
      · rw [h1, h3]; exact RepS.nil _ _ _
      · refine ⟨some ⟨g2, 0, none⟩, n2, h1, h3, fun _ => ⟨_, rfl, ⟨.inr (mem_blks.2 ⟨i + 1, cs2, _, by simpa [h2] using he⟩), hN (i + 1) g2 cs2 _ (by simpa [h2] using he)⟩, fun j y hy => ⟨_, h8 j y hy, ⟨by rw [add_block]; exact ⟨.inr (mem_blks.2 ⟨i + 1, cs2, _, by simpa [h2] using he⟩), hN (i + 1) g2 cs2 _ (by simpa [h2] using he)⟩, fun k v hv => ?_⟩⟩⟩⟩
        rw [add_lit, add_lit, Nat.zero_add]
        exact hp.cell (i := i + 2) (by simpa [h2] using he) (drop_take_get hv)
    refine ⟨_, dNode_2_m hR, ⟨by rw [add_block]; exact ⟨.inr (by simp [blks, blk]), hg⟩, fun j v hv => ?_⟩⟩
    rw [add_lit, add_lit, Nat.zero_add]
    rw [← a, ← b', ← c'] at hv
    have hd' : (cs.drop (i * dNode_2.size)).take 4 = _ := hd
    exact hp.cell (i := 1) rfl (drop_take_get (n := 4) (by rw [hd']; exact hv))
theorem tree_Runner_add_ok (n : Nat) : tree_Runner_add_S (tree_Runner_add n) := by
  intro w0 I0 x g E q t vt rt hp r h
  obtain ⟨rfl, rfl⟩ := q
  obtain ⟨⟨i, ns⟩, q1, h⟩ := bind_some h
  obtain rfl := Option.some.inj h
  refine (addN_ok n w0 I0 g (.slice none 0 0) none [] [] [] t vt rt (OwnS.nil _ _ _ _) ⟨rfl, rfl, fun i r k x h => by simp at h⟩ (hp.perm [0, 1] (by decide)) (i, ns) q1).mono ?_
  rintro u w1 ⟨I1, v', e', ks', rs', rfl, hq, on, kr⟩
  obtain ⟨I2, h1, h2, h3⟩ := kr.freeze on hq (fun g h => by simpa [blks, blk] using h)
  exact ⟨I2, _, rfl, h1, v', rfl, h3⟩

end Go.Proofs.YtcdboppghnchpaaDoor

namespace Go.Proofs.YtcdboppghnchpaaDoor
open Go Go.Proofs.YtcdboppghnchpaaDoor.Gw Go.RowKit
set_option linter.unusedVariables false
attribute [local irreducible] Ev EvQ EvS EvH vch
def tree_New_S (f : Node → Option ((Option Runner) × Int)) : Prop := ∀ (w0 : World) (I0 : Nat → Prop) (x872 : Node) (v873 : Value) (r874 : RepS dNode w0 I0 v873 x872.Kids) (hI : ∀ g, I0 g → g < w0.heap.size) (r : ((Option Runner) × Int)), f x872 = some r →
    Ret Tryd.prog 22 #[(.agg #[(.int .i64 x872.Kind), (.int .i64 x872.Name), (.int .i64 x872.Count), v873])] w0 fun v w1 => ∃ (I1 : Nat → Prop) (u875 : Value) (u876 : List Ent), v = (.tuple #[u875, (.int .i64 r.2)]) ∧ Hp ⟨w0, I0, []⟩ I1 u876 w1 ∧ qoF w0.heap.size w1 I1 u875 u876 r.1
theorem tree_New_ok (n : Nat) : tree_New_S (tree_New n) := by
  intro w0 I0 x872 v873 r874 hI r h
  unfold tree_New at h
  refine enter Tryd.func22 rfl (Nat.le_of_ble_eq_true rfl) ?_
  have hp : Hp ⟨w0, I0, []⟩ I0 [] w0 := Hp.start hI
  apply go
  apply go
  refine ev_boxI hp rfl rfl ?_
  intro p879 I880 w878 hp hs a881
  replace r874 := r874.step hs
  apply go
  apply go
  apply go
  refine ev (rn_load rfl rfl (run_loadVarA T57 rfl a881)) ?_
  obtain ⟨x882, q883, h⟩ := bind_some h
  refine ev_call rfl rfl C46 (((tree_Valid_ok n) _ _  (Node.mk x872.Kind x872.Name x872.Count x872.Kids) v873 r874 hp.imm _ q883).mono ?_)
  rintro _ w884 ⟨rfl, hc⟩
  have hs := hp.stp hc
  replace hp := hp.ext hc
  replace a881 := a881.step hs
  replace r874 := r874.step hs
  apply go
  refine sel_of (fun hc => ?_) (fun hc => ?_)
  ·
    have h := cond_t h hc
    apply go
    apply go
    apply go
    obtain rfl := Option.some.inj h
    exact ⟨I880, (.pointer none), [], rfl, hp, ⟨rfl, rfl⟩⟩
  ·
    have h := cond_f h hc
    apply go
    apply go
    apply go
    refine ev0 (fun w => rn_build (cs := [(.slice none 0 0), (.slice none 0 0), (.slice none 0 0)]) rfl rfl T108 PL108 rfl) ?_
    refine ev_box hp rfl rfl ?_
    intro g885 w886 hp hs
    replace a881 := a881.step hs
    replace r874 := r874.step hs
    apply go
    apply go
    refine ev (rn_load rfl rfl (run_loadVarA T57 rfl a881)) ?_
    obtain ⟨⟨x887, x888⟩, q889, h⟩ := bind_some h
    have hN894 := hp.ch.size
    refine ev_call rfl rfl C49 (((tree_Runner_add_ok n) _ _  (Runner.mk [] [] []) g885 [some (g885, [(.slice none 0 0), (.slice none 0 0), (.slice none 0 0)], 108)] ⟨rfl, rfl⟩ (Node.mk x872.Kind x872.Name x872.Count x872.Kids) v873 r874 (hp.lendL [0] (by decide)) _ q889).mono ?_)
    rintro _ w890 ⟨I891, F892, hv, hq895, q893⟩
    replace hv := hv.symm
    subst hv
    obtain ⟨v896, rfl, f898⟩ := q893
    have r897 := f898.imm
    have hs := hq895.st
    have hp := hp.backL [0] [] (by decide) hq895
    obtain ⟨y980, q981, h⟩ := bind_some h
    refine W.cut (γ := ((List Int) × (List Bool) × Value × Ent × Value × Ent)) (fun g => [(4, (.pointer (some ⟨g885, 0, none⟩)))]) (fun g w' => y980 = ((g.1), (g.2.1)) ∧ Hp ⟨w0, I0, []⟩ I891 [(g.2.2.2.1), (g.2.2.2.2.2), some (g885, [v896, (g.2.2.1), (g.2.2.2.2.1)], 108)] w' ∧ RepS dNode_2 w' I891 v896 x888.nodes ∧ RepF dNode_2 w886.heap.size w' I891 v896 x888.nodes ∧ OwnS (dI .i64) 3 w' I891 (g.2.2.1) (g.2.2.2.1) (g.1) ∧ OwnS dB 4 w' I891 (g.2.2.2.2.1) (g.2.2.2.2.2) (g.2.1)) ?_ ?_
    ·
      have hs := hp.stp (Ch.drew [] w890)
      have hp := hp.drew
      replace r897 := r897.step hs
      replace f898 := f898.step hs
      refine W.heldG (.q 0 (.q 1 (.q 2 (.q 3 (.q 4 (.q 5 (.q 6 (.q 8 (.q 9 (.q 10 (.q 11 (.q 12 (.l 7 (.q 14 (.q 15 (.l 13 (.l 16 (.q 17 (.q 18 (.l 19 .done .no))) .no) (.l 16 (.l 13 (.q 17 (.q 18 (.l 19 .done .no))) .no) .no)))) (.l 13 (.l 7 (.q 14 (.q 15 (.l 16 (.q 17 (.q 18 (.l 19 .done .no))) .no))) .no) .no)))))))))))))) (SK (Stp I891 w890.drew I891) [(g885, [v896, (.slice none 0 0), (.slice none 0 0)], 108)] [[16, 19]]) MX (by kernel_rfl) ⟨Stp.refl _ _, (kp_cons (fun _ => (hp.own 0 _ _ _ rfl).1) kp_nil)⟩ ?_
      have hz := Stp.refl I891 w890.drew
      refine ⟨SK.same (by kernel_rfl), ?_⟩
      refine ⟨SK.same (by kernel_rfl), ?_⟩
      refine ⟨SK.same (by kernel_rfl), ?_⟩
      refine ⟨SK.same (by kernel_rfl), ?_⟩
      refine ⟨SK.same (by kernel_rfl), ?_⟩
      refine evh0 (rn_field rfl rfl FO108_0) ?_
      refine ⟨SK.same (by kernel_rfl), ?_⟩
      refine evh (fun w' hw => rn_load rfl rfl (run_loadVar1 T106 ((S0.keep (p := 0) hw rfl rfl (by kernel_rfl)).cell (i := 0) (off := 0) rfl rfl))) ?_
      refine ⟨SK.same (by kernel_rfl), ?_⟩
      refine evh0 (rn_len rfl rfl Tryd.underlying106 r897) ?_
      refine ⟨SK.same (by kernel_rfl), ?_⟩
      refine ⟨SK.same (by kernel_rfl), ?_⟩
      refine ⟨SK.same (by kernel_rfl), ?_⟩
      refine evh0 (rn_field rfl rfl FO108_0) ?_
      refine ⟨SK.same (by kernel_rfl), ?_⟩
      refine evh (fun w' hw => rn_load rfl rfl (run_loadVar1 T106 ((S0.keep (p := 0) hw rfl rfl (by kernel_rfl)).cell (i := 0) (off := 0) rfl rfl))) ?_
      refine ⟨SK.same (by kernel_rfl), ?_⟩
      refine evh0 (rn_len rfl rfl Tryd.underlying106 r897) ?_
      refine ⟨?_, ?_⟩
      ·
        obtain ⟨x_0, q_1, q981⟩ := bind_some q981
        refine ev_make (d := (dI .i64)) (x0 := 0) hp rfl rfl rfl Tryd.underlying66 T3 (fun _ _ => rfl) (Nat.le_of_ble_eq_true rfl) q_1 ?_
        intro v_2 e_3 w_4 hp hs o_5
        replace hz := hz.trans hs
        replace r897 := r897.step hs
        replace f898 := f898.step hs
        refine ⟨SK (Stp I891 w_4 I891) [(g885, [v896, (.slice none 0 0), (.slice none 0 0)], 108)] [[16, 19]], ⟨Stp.refl _ _, (kp_cons (fun _ => (hp.own 1 _ _ _ rfl).1) kp_nil)⟩, fun L x h => ⟨hz.held h.1, h.2⟩, ?_⟩
        have hz := Stp.refl I891 w_4
        refine ⟨SK.same (by kernel_rfl), ?_⟩
        refine ⟨SK.same (by kernel_rfl), ?_⟩
        refine evh0 (rn_field rfl rfl FO108_1) ?_
        refine ⟨?_, ?_⟩
        ·
          obtain ⟨x_6, q_7, q981⟩ := bind_some q981
          refine ev_make (d := dB) (x0 := false) hp rfl rfl rfl Tryd.underlying65 T4 (fun _ _ => rfl) (Nat.le_of_ble_eq_true rfl) q_7 ?_
          intro v_8 e_9 w_a hp hs o_b
          replace hz := hz.trans hs
          replace o_5 := o_5.step hs
          replace r897 := r897.step hs
          replace f898 := f898.step hs
          refine ⟨SK (Stp I891 w_a I891) [(g885, [v896, (.slice none 0 0), (.slice none 0 0)], 108)] [[16, 19]], ⟨Stp.refl _ _, (kp_cons (fun _ => (hp.own 2 _ _ _ rfl).1) kp_nil)⟩, fun L x h => ⟨hz.held h.1, h.2⟩, ?_⟩
          have hz := Stp.refl I891 w_a
          refine ⟨?_, trivial⟩
          refine ev_store1 hp (i := 2) (off := 1) rfl rfl rfl rfl T66 o_5.one (Nat.le_of_ble_eq_true rfl) ?_
          intro w_c hp hs
          replace hz := hz.trans hs
          replace o_b := o_b.step hs
          replace r897 := r897.step hs
          replace f898 := f898.step hs
          replace o_5 := o_5.step hs
          refine ⟨SK (Stp I891 w_c I891) [(g885, [v896, (.slice none 0 0), (.slice none 0 0)], 108)] [[16, 19]], ⟨Stp.refl _ _, (kp_cons (kp_off (by kernel_rfl)) kp_nil)⟩, fun L x h => ⟨hz.held h.1, h.2⟩, ?_⟩
          have hz := Stp.refl I891 w_c
          refine ⟨SK.same (by kernel_rfl), ?_⟩
          refine ⟨SK.same (by kernel_rfl), ?_⟩
          refine evh0 (rn_field rfl rfl FO108_2) ?_
          refine ⟨?_, trivial⟩
          refine ev_store1 hp (i := 2) (off := 2) rfl rfl rfl rfl T65 o_b.one (Nat.le_of_ble_eq_true rfl) ?_
          intro w_d hp hs
          replace hz := hz.trans hs
          replace r897 := r897.step hs
          replace f898 := f898.step hs
          replace o_5 := o_5.step hs
          replace o_b := o_b.step hs
          refine ⟨SK (Stp I891 w_d I891) [(g885, [v896, (.slice none 0 0), (.slice none 0 0)], 108)] [[16, 19]], ⟨Stp.refl _ _, (kp_cons (kp_off (by kernel_rfl)) kp_nil)⟩, fun L x h => ⟨hz.held h.1, h.2⟩, ?_⟩
          have hz := Stp.refl I891 w_d
          obtain rfl := Option.some.inj q981
          have hp := hp.perm [1, 0, 2] (by decide)
          exact ⟨(x_0, x_6, v_2, e_3, v_8, e_9), (.c rfl .n), rfl, hp, r897, f898, o_5, o_b⟩
        refine ⟨?_, trivial⟩
        refine ev_store1 hp (i := 1) (off := 1) rfl rfl rfl rfl T66 o_5.one (Nat.le_of_ble_eq_true rfl) ?_
        intro w_e hp hs
        replace hz := hz.trans hs
        replace r897 := r897.step hs
        replace f898 := f898.step hs
        replace o_5 := o_5.step hs
        refine ⟨SK (Stp I891 w_e I891) [(g885, [v896, (.slice none 0 0), (.slice none 0 0)], 108)] [[16, 19]], ⟨Stp.refl _ _, (kp_cons (kp_off (by kernel_rfl)) kp_nil)⟩, fun L x h => ⟨hz.held h.1, h.2⟩, ?_⟩
        have hz := Stp.refl I891 w_e
        refine ⟨?_, trivial⟩
        obtain ⟨x_f, q_g, q981⟩ := bind_some q981
        refine ev_make (d := dB) (x0 := false) hp rfl rfl rfl Tryd.underlying65 T4 (fun _ _ => rfl) (Nat.le_of_ble_eq_true rfl) q_g ?_
        intro v_h e_i w_j hp hs o_k
        replace hz := hz.trans hs
        replace r897 := r897.step hs
        replace f898 := f898.step hs
        replace o_5 := o_5.step hs
        refine ⟨SK (Stp I891 w_j I891) [(g885, [v896, (.slice none 0 0), (.slice none 0 0)], 108)] [[16, 19]], ⟨Stp.refl _ _, (kp_cons (kp_off (by kernel_rfl)) kp_nil)⟩, fun L x h => ⟨hz.held h.1, h.2⟩, ?_⟩
        have hz := Stp.refl I891 w_j
        refine ⟨SK.same (by kernel_rfl), ?_⟩
        refine ⟨SK.same (by kernel_rfl), ?_⟩
        refine evh0 (rn_field rfl rfl FO108_2) ?_
        refine ⟨?_, trivial⟩
        refine ev_store1 hp (i := 2) (off := 2) rfl rfl rfl rfl T65 o_k.one (Nat.le_of_ble_eq_true rfl) ?_
        intro w_l hp hs
        replace hz := hz.trans hs
        replace r897 := r897.step hs
        replace f898 := f898.step hs
        replace o_5 := o_5.step hs
        replace o_k := o_k.step hs
        refine ⟨SK (Stp I891 w_l I891) [(g885, [v896, (.slice none 0 0), (.slice none 0 0)], 108)] [[16, 19]], ⟨Stp.refl _ _, (kp_cons (kp_off (by kernel_rfl)) kp_nil)⟩, fun L x h => ⟨hz.held h.1, h.2⟩, ?_⟩
        have hz := Stp.refl I891 w_l
        obtain rfl := Option.some.inj q981
        have hp := hp.perm [1, 0, 2] (by decide)
        exact ⟨(x_0, x_f, v_2, e_3, v_h, e_i), (.c rfl .n), rfl, hp, r897, f898, o_5, o_k⟩
      refine ⟨?_, trivial⟩
      replace q981 := bind_comm q981
      obtain ⟨x_m, q_n, q981⟩ := bind_some q981
      refine ev_make (d := dB) (x0 := false) hp rfl rfl rfl Tryd.underlying65 T4 (fun _ _ => rfl) (Nat.le_of_ble_eq_true rfl) q_n ?_
      intro v_o e_p w_q hp hs o_r
      replace hz := hz.trans hs
      replace r897 := r897.step hs
      replace f898 := f898.step hs
      refine ⟨SK (Stp I891 w_q I891) [(g885, [v896, (.slice none 0 0), (.slice none 0 0)], 108)] [[16, 19]], ⟨Stp.refl _ _, (kp_cons (fun _ => (hp.own 1 _ _ _ rfl).1) kp_nil)⟩, fun L x h => ⟨hz.held h.1, h.2⟩, ?_⟩
      have hz := Stp.refl I891 w_q
      refine ⟨?_, trivial⟩
      obtain ⟨x_s, q_t, q981⟩ := bind_some q981
      refine ev_make (d := (dI .i64)) (x0 := 0) hp rfl rfl rfl Tryd.underlying66 T3 (fun _ _ => rfl) (Nat.le_of_ble_eq_true rfl) q_t ?_
      intro v_u e_v w_w hp hs o_x
      replace hz := hz.trans hs
      replace o_r := o_r.step hs
      replace r897 := r897.step hs
      replace f898 := f898.step hs
      refine ⟨SK (Stp I891 w_w I891) [(g885, [v896, (.slice none 0 0), (.slice none 0 0)], 108)] [[16, 19]], ⟨Stp.refl _ _, (kp_cons (fun _ => (hp.own 2 _ _ _ rfl).1) kp_nil)⟩, fun L x h => ⟨hz.held h.1, h.2⟩, ?_⟩
      have hz := Stp.refl I891 w_w
      refine ⟨SK.same (by kernel_rfl), ?_⟩
      refine ⟨SK.same (by kernel_rfl), ?_⟩
      refine evh0 (rn_field rfl rfl FO108_1) ?_
      refine ⟨?_, trivial⟩
      refine ev_store1 hp (i := 2) (off := 1) rfl rfl rfl rfl T66 o_x.one (Nat.le_of_ble_eq_true rfl) ?_
      intro w_y hp hs
      replace hz := hz.trans hs
      replace o_r := o_r.step hs
      replace r897 := r897.step hs
      replace f898 := f898.step hs
      replace o_x := o_x.step hs
      refine ⟨SK (Stp I891 w_y I891) [(g885, [v896, (.slice none 0 0), (.slice none 0 0)], 108)] [[16, 19]], ⟨Stp.refl _ _, (kp_cons (kp_off (by kernel_rfl)) kp_nil)⟩, fun L x h => ⟨hz.held h.1, h.2⟩, ?_⟩
      have hz := Stp.refl I891 w_y
      refine ⟨SK.same (by kernel_rfl), ?_⟩
      refine ⟨SK.same (by kernel_rfl), ?_⟩
      refine evh0 (rn_field rfl rfl FO108_2) ?_
      refine ⟨?_, trivial⟩
      refine ev_store1 hp (i := 2) (off := 2) rfl rfl rfl rfl T65 o_r.one (Nat.le_of_ble_eq_true rfl) ?_
      intro w_z hp hs
      replace hz := hz.trans hs
      replace r897 := r897.step hs
      replace f898 := f898.step hs
      replace o_x := o_x.step hs
      replace o_r := o_r.step hs
      refine ⟨SK (Stp I891 w_z I891) [(g885, [v896, (.slice none 0 0), (.slice none 0 0)], 108)] [[16, 19]], ⟨Stp.refl _ _, (kp_cons (kp_off (by kernel_rfl)) kp_nil)⟩, fun L x h => ⟨hz.held h.1, h.2⟩, ?_⟩
      have hz := Stp.refl I891 w_z
      obtain rfl := Option.some.inj q981
      exact ⟨(x_s, x_m, v_u, e_v, v_o, e_p), (.c rfl .n), rfl, hp, r897, f898, o_x, o_r⟩
    ·
      rintro ⟨x971, x975, v972, e973, v976, e977⟩ w979 ⟨hy, hp, r897, f898, o974, o978⟩
      replace hy := hy.symm
      subst hy
      apply go
      apply go
      apply go
      obtain rfl := Option.some.inj h
      have hp := hp.perm [2, 0, 1] (by decide)
      exact ⟨I891, (.pointer (some ⟨g885, 0, none⟩)), [some (g885, [v896, v972, v976], 108), e973, e977], rfl, hp, ⟨_, rfl, ⟨v896, v972, e973, v976, e977, rfl, (f898.mono hN894), o974, o978⟩⟩⟩

end Go.Proofs.YtcdboppghnchpaaDoor

namespace Go.Proofs.YtcdboppghnchpaaDoor
open Go Go.Proofs.YtcdboppghnchpaaDoor.Gw Go.RowKit
set_option linter.unusedVariables false
attribute [local irreducible] Ev EvQ EvS EvH
def mission_New_S (f : (List Task) → Option ((Option Mission) × Int)) : Prop := ∀ (w0 : World) (I0 : Nat → Prop) (x_0 : (List Task)) (v_1 : Value) (r_2 : RepS dTask w0 I0 v_1 x_0) (hI : ∀ g, I0 g → g < w0.heap.size) (r : ((Option Mission) × Int)), f x_0 = some r →
    Ret Tryd.prog 18 #[v_1] w0 fun v w1 => ∃ (I1 : Nat → Prop) (u_3 : Value) (u_4 : List Ent), v = (.tuple #[u_3, (.int .i64 r.2)]) ∧ Hp ⟨w0, I0, []⟩ I1 u_4 w1 ∧ qoM w1 I1 u_3 u_4 r.1
theorem mission_New_ok (n : Nat) : mission_New_S (mission_New n) := by
  intro w0 I0 x_0 v_1 r_2 hI r h
  unfold mission_New at h
  refine enter Tryd.func18 rfl (Nat.le_of_ble_eq_true rfl) ?_
  have hp : Hp ⟨w0, I0, []⟩ I0 [] w0 := Hp.start hI
  apply go
  apply go
  apply go
  apply go
  obtain ⟨⟨x_3, x_4⟩, q_5, h⟩ := bind_some h
  refine ev_call rfl rfl C19 (((mission_Build_ok n) _ _  x_0 v_1 r_2 hp.imm _ q_5).mono ?_)
  rintro _ w_6 ⟨I_7, v_8, hv, hq, r_9⟩
  replace hv := hv.symm
  subst hv
  have hs := hq.st
  have hp := hp.join0 hq
  replace r_2 := r_2.step hs
  refine ev_alloc hp rfl T57 ?_
  intro g_a w_b hp hs
  replace r_2 := r_2.step hs
  replace r_9 := r_9.step hs
  refine ev_storeA hp (i := 0) (off := 0) (vs := [(.int .i64 x_3.Kind), (.int .i64 x_3.Name), (.int .i64 x_3.Count), v_8]) rfl rfl rfl rfl T57 rfl (Nat.le_of_ble_eq_true rfl) (ones_cons rfl (ones_cons rfl (ones_cons rfl (ones_cons r_9.one ones_nil)))) ?_
  intro w_c hp hs
  replace r_2 := r_2.step hs
  replace r_9 := r_9.step hs
  apply go
  apply go
  apply go
  apply go
  refine sel_of (fun hc => ?_) (fun hc => ?_)
  ·
    have h := cond_t h hc
    apply go
    apply go
    apply go
    obtain rfl := Option.some.inj h
    have hp := hp.sel [] (by decide)
    exact ⟨I_7, (.pointer none), [], rfl, hp, ⟨rfl, rfl⟩⟩
  ·
    have h := cond_f h hc
    apply go
    apply go
    apply go
    refine ev (rn_load rfl rfl (run_loadVarA T57 rfl (hp.at_ (i := 0) rfl))) ?_
    obtain ⟨⟨x_d, x_e⟩, q_f, h⟩ := bind_some h
    refine ev_call rfl rfl C22 (((tree_New_ok n) _ _  (Node.mk x_3.Kind x_3.Name x_3.Count x_3.Kids) v_8 r_9 hp.imm _ q_f).mono ?_)
    rintro _ w_g ⟨I_h, v_i, F_j, hv, hq1077, q_k⟩
    replace hv := hv.symm
    subst hv
    rcases x_d with _ | x_l
    ·
      obtain ⟨rfl, rfl⟩ := q_k
      have hs := hq1077.st
      have hp := hp.join0 hq1077
      replace r_2 := r_2.step hs
      replace r_9 := r_9.step hs
      apply go
      apply go
      refine ev0 (rn_len rfl rfl Tryd.underlying49 r_2) ?_
      obtain ⟨x_m, q_n, h⟩ := bind_some h
      refine ev_make (d := dB) (x0 := false) hp rfl rfl rfl Tryd.underlying65 T4 (fun _ _ => rfl) (Nat.le_of_ble_eq_true rfl) q_n ?_
      intro v_o e_p w_q hp hs o_r
      replace r_9 := r_9.step hs
      obtain ⟨A_s, m_t, m_u, rfl⟩ := o_r.isSl
      refine ev0 (fun w => rn_build (cs := [(.pointer none), (.slice A_s m_t m_u), (.int .i64 1), (.int .i64 0)]) rfl rfl T91 PL91 rfl) ?_
      refine ev_box hp rfl rfl ?_
      intro g_v w_w hp hs
      replace o_r := o_r.step hs
      replace r_9 := r_9.step hs
      apply go
      cases h
    ·
      obtain ⟨g_x, rfl, v_y, v_z, e_10, v_11, e_12, rfl, f_13, o_14, o_15⟩ := q_k
      have r_16 := f_13.imm
      have hs := hq1077.st
      have hp := hp.join0 hq1077
      replace r_2 := r_2.step hs
      replace r_9 := r_9.step hs
      apply go
      apply go
      refine ev0 (rn_len rfl rfl Tryd.underlying49 r_2) ?_
      obtain ⟨x_17, q_18, h⟩ := bind_some h
      refine ev_make (d := dB) (x0 := false) hp rfl rfl rfl Tryd.underlying65 T4 (fun _ _ => rfl) (Nat.le_of_ble_eq_true rfl) q_18 ?_
      intro v_19 e_1a w_1b hp hs o_1c
      replace r_16 := r_16.step hs
      replace o_14 := o_14.step hs
      replace o_15 := o_15.step hs
      replace r_9 := r_9.step hs
      obtain ⟨A_1d, m_1e, m_1f, rfl⟩ := o_1c.isSl
      refine ev0 (fun w => rn_build (cs := [(.pointer (some ⟨g_x, 0, none⟩)), (.slice A_1d m_1e m_1f), (.int .i64 1), (.int .i64 0)]) rfl rfl T91 PL91 rfl) ?_
      refine ev_box hp rfl rfl ?_
      intro g_1g w_1h hp hs
      replace o_1c := o_1c.step hs
      replace r_16 := r_16.step hs
      replace o_14 := o_14.step hs
      replace o_15 := o_15.step hs
      replace r_9 := r_9.step hs
      apply go
      obtain rfl := Option.some.inj h
      have hp := hp.perm [0, 2, 3, 4, 1] (by decide)
      exact ⟨I_h, (.pointer (some ⟨g_1g, 0, none⟩)), [some (g_1g, [(.pointer (some ⟨g_x, 0, none⟩)), (.slice A_1d m_1e m_1f), (.int .i64 1), (.int .i64 0)], 91), some (g_x, [v_y, v_z, v_11], 108), e_10, e_12, e_1a], rfl, hp, ⟨_, rfl, ⟨g_x, [some (g_x, [v_y, v_z, v_11], 108), e_10, e_12], (.slice A_1d m_1e m_1f), e_1a, rfl, ⟨v_y, v_z, e_10, v_11, e_12, rfl, r_16, o_14, o_15⟩, o_1c⟩⟩⟩

end Go.Proofs.YtcdboppghnchpaaDoor

namespace Go.Proofs.YtcdboppghnchpaaDoor
open Go Go.Proofs.YtcdboppghnchpaaDoor.Gw Go.RowKit
set_option linter.unusedVariables false
attribute [local irreducible] Ev EvQ EvS EvH
def strings_Builder_copyCheck_S (f : Builder → Option Builder) : Prop := ∀ (w0 : World) (I0 : Nat → Prop) (x_0 : Builder) (g_1 : Nat) (E_2 : List Ent) (q_3 : qB w0 I0 g_1 E_2 x_0) (hp : Hp ⟨w0, I0, blks E_2⟩ I0 E_2 w0) (r : Builder), f x_0 = some r →
    Ret Tryd.prog 102 #[(.pointer (some ⟨g_1, 0, none⟩))] w0 fun v w1 => ∃ (I1 : Nat → Prop) (u_4 : List Ent), v = (.tuple #[]) ∧ Hp ⟨w0, I0, blks E_2⟩ I1 u_4 w1 ∧ qB w1 I1 g_1 u_4 r

theorem cc_info : ∃ j, Tryd.prog.info? 103 = some j ∧ j.size = 2 :=
  Option.map_eq_some_iff.1 (show (Tryd.prog.info? 103).map (·.size) = some 2 by kernel_rfl)
set_option maxHeartbeats 1000000 in
set_option maxRecDepth 100000 in
theorem cc_used (b : Nat) (w : World) (h0 : w.cell? ⟨b, 0, none⟩ = some (.pointer (some ⟨b, 0, none⟩))) :
    Calls Tryd.prog 102 #[.pointer (some ⟨b, 0, none⟩)] w fun e w' => e = .returned (.tuple #[]) ∧ w' = w := by
  obtain ⟨j, hj, _⟩ := cc_info
  go_enter Tryd.func102, Tryd.ntmps102
  go_wp2
  rw [Lib.run_neq_ptr_same w _ Tryd.underlying100 hj]
  go_wp2
  go_end0
  exact ⟨rfl, rfl⟩
set_option maxHeartbeats 1000000 in
set_option maxRecDepth 100000 in
theorem cc_fresh (b : Nat) (w : World) (h0 : w.cell? ⟨b, 0, none⟩ = some (.pointer none)) (hsh : w.shape? b = some (103, 2)) (hfz : w.frozen? ⟨b, 0, none⟩ = false) :
    Calls Tryd.prog 102 #[.pointer (some ⟨b, 0, none⟩)] w fun e w' => e = .returned (.tuple #[]) ∧ w' = w.setCell ⟨b, 0, none⟩ (.pointer (some ⟨b, 0, none⟩)) := by
  obtain ⟨j, hj, hjs⟩ := cc_info
  go_enter Tryd.func102, Tryd.ntmps102
  go_wp2
  rw [Lib.run_to_unsafe w ⟨b, 0, none⟩ Tryd.underlying100 Tryd.underlying178 hj (by rw [hjs]; decide) hsh (Nat.zero_lt_succ 1)]
  simp only [Result.andThen]
  rw [Oper.upon_value]
  go_wp2
  rw [run_callFunc_extern Tryd.func115 (by kernel_rfl) (by kernel_rfl) (by kernel_rfl) (e := Extern.AbiNoEscape.same) (by kernel_rfl)]
  rw [Lib.run_noEscape]
  simp only [Result.andThen]
  rw [Oper.upon_value]
  go_wp2
  rw [Lib.run_from_unsafe w ⟨b, 0, none⟩ Tryd.underlying178 Tryd.underlying100 hj hsh (by kernel_rfl)]
  simp only [Result.andThen]
  rw [Oper.upon_value]
  go_wp2
  go_end0
  exact ⟨rfl, rfl⟩
theorem strings_Builder_copyCheck_ok (n : Nat) : strings_Builder_copyCheck_S (strings_Builder_copyCheck n) := by
  intro w0 I0 x g E q hp r h
  obtain rfl := Option.some.inj h
  obtain ⟨va, v, e, rfl, hs, ho⟩ := q
  have hh : w0.heap[g]? = some (.cells [va, v].toArray 103 (0, 0)) := (hp.own 0 g _ _ rfl).1
  rcases hs with rfl | rfl
  · refine Calls.mono (cc_fresh g w0 ?_ ?_ ?_) ?_
    · simp [World.cell?, hh]
    · simp only [World.shape?, hh]; rfl
    · simp [World.frozen?, hh]
    · rintro ev w1 ⟨rfl, rfl⟩
      have hp2 := hp.set (i := 0) (cs' := [.pointer (some ⟨g, 0, none⟩), v]) (w' := w0.setCell ⟨g, 0, none⟩ (.pointer (some ⟨g, 0, none⟩))) rfl (by simp [World.setCell]) rfl rfl rfl
        (by simp [World.setCell, Array.getElem?_modify, hh]) (fun k hk => by simp only [World.setCell, Array.getElem?_modify]; rw [if_neg (fun e0 => hk e0.symm)])
      exact ⟨_, rfl, I0, _, rfl, hp2.1, _, _, _, rfl, .inr rfl, ho.step hp2.2⟩
  · refine Calls.mono (cc_used g w0 ?_) ?_
    · simp [World.cell?, hh]
    · rintro ev w1 ⟨rfl, rfl⟩
      exact ⟨_, rfl, I0, _, rfl, hp, _, _, _, rfl, .inr rfl, ho⟩

end Go.Proofs.YtcdboppghnchpaaDoor

namespace Go.Proofs.YtcdboppghnchpaaDoor
open Go Go.Proofs.YtcdboppghnchpaaDoor.Gw Go.RowKit
set_option linter.unusedVariables false
attribute [local irreducible] Ev EvQ EvS EvH
def strings_Builder_WriteByte_S (f : Builder → Int → Option (Unit × Builder)) : Prop := ∀ (w0 : World) (I0 : Nat → Prop) (x_0 : Builder) (g_1 : Nat) (E_2 : List Ent) (q_3 : qB w0 I0 g_1 E_2 x_0) (x_4 : Int) (hp : Hp ⟨w0, I0, blks E_2⟩ I0 E_2 w0) (r : (Unit × Builder)), f x_0 x_4 = some r →
    Ret Tryd.prog 79 #[(.pointer (some ⟨g_1, 0, none⟩)), (.int .u8 x_4)] w0 fun v w1 => ∃ (I1 : Nat → Prop) (u_5 : List Ent), v = .nilIface ∧ Hp ⟨w0, I0, blks E_2⟩ I1 u_5 w1 ∧ qB w1 I1 g_1 u_5 r.2
theorem strings_Builder_WriteByte_ok (n : Nat) : strings_Builder_WriteByte_S (strings_Builder_WriteByte n) := by
  intro w0 I0 x_0 g_1 E_2 q_3 x_4 hp r h
  unfold strings_Builder_WriteByte at h
  refine enter Tryd.func79 rfl (Nat.le_of_ble_eq_true rfl) ?_
  generalize blks E_2 = B at hp ⊢
  obtain ⟨v_5, v_6, e_7, rfl, z_8, o_9⟩ := q_3
  have hp : Hp ⟨w0, I0, B⟩ I0 [some (g_1, [v_5, v_6], 103), e_7] w0 := hp
  apply go
  apply go
  apply go
  apply go
  obtain ⟨x_a, q_b, h⟩ := bind_some h
  refine ev_call rfl rfl C102 (((strings_Builder_copyCheck_ok n) _ _  (Builder.mk () x_0.buf) g_1 [some (g_1, [v_5, v_6], 103), e_7] ⟨v_5, v_6, e_7, rfl, z_8, o_9⟩ (hp.lendL [0, 1] (by decide)) _ q_b).mono ?_)
  rintro _ w_c ⟨I_d, F_e, hv, hq5601, q_f⟩
  replace hv := hv.symm
  subst hv
  obtain ⟨v_g, v_h, e_i, rfl, z_j, o_k⟩ := q_f
  have hs := hq5601.st
  have hp := hp.backL [0, 1] [] (by decide) hq5601
  apply go
  apply go
  refine ev0 (rn_field rfl rfl FO103_1) ?_
  refine ev (rn_load rfl rfl (run_loadVar1 T101 (hp.cell (i := 0) (off := 1) rfl rfl))) ?_
  refine ev_litN (d := (dI .u8)) (xs := [x_4]) (cs := [(.int .u8 x_4)]) hp rfl rfl Tryd.underlying101 T5 (by decide) rfl rfl (Elems.cons (d := (dI .u8)) (xs := _) rfl (Elems.nil _ _ _ _)) ?_
  intro v_l I_m w_n hp hs r_o
  replace o_k := o_k.step hs
  obtain ⟨x_p, q_q, h⟩ := bind_some h
  refine ev_append hp (i := 1) rfl rfl rfl rfl Tryd.underlying101 T5 rfl rfl o_k r_o q_q ?_
  rintro v_r e_s w_t hp hs o_u
  replace o_k := o_k.step hs
  refine ev0 (rn_field rfl rfl FO103_1) ?_
  refine ev_store1 hp (i := 0) (off := 1) rfl rfl rfl rfl T101 o_u.one (Nat.le_of_ble_eq_true rfl) ?_
  intro w_v hp hs
  replace o_u := o_u.step hs
  apply go
  apply go
  apply go
  obtain rfl := Option.some.inj h
  exact ⟨I_m, [some (g_1, [v_g, v_r], 103), e_s], rfl, hp, ⟨v_g, v_r, e_s, rfl, z_j, o_u⟩⟩

end Go.Proofs.YtcdboppghnchpaaDoor

namespace Go.Proofs.YtcdboppghnchpaaDoor
open Go Go.Proofs.YtcdboppghnchpaaDoor.Gw Go.RowKit
set_option linter.unusedVariables false
attribute [local irreducible] Ev EvQ EvS EvH
def tree_letter_S (f : Int → Option Int) : Prop := ∀ (w0 : World) (I0 : Nat → Prop) (x_0 : Int) (hI : ∀ g, I0 g → g < w0.heap.size) (r : Int), f x_0 = some r →
    Ret Tryd.prog 80 #[(.int .i64 x_0)] w0 fun v w1 => v = (.int .u8 r) ∧ Ch [] w0 w1
theorem tree_letter_ok (n : Nat) : tree_letter_S (tree_letter n) := by
  intro w0 I0 x_0 hI r h
  unfold tree_letter at h
  refine enter Tryd.func80 rfl (Nat.le_of_ble_eq_true rfl) ?_
  have hp : Hp ⟨w0, I0, []⟩ I0 [] w0 := Hp.start hI
  apply go
  apply go
  apply go
  apply go
  obtain ⟨x_1, q_2, h⟩ := bind_some h
  refine ev0 (rn_indexS rfl rfl rfl Tryd.underlying9 q_2) ?_
  apply go
  obtain rfl := Option.some.inj h
  exact ⟨rfl, hp.ch⟩

end Go.Proofs.YtcdboppghnchpaaDoor

namespace Go.Proofs.YtcdboppghnchpaaDoor
open Go Go.Proofs.YtcdboppghnchpaaDoor.Gw Go.RowKit
set_option linter.unusedVariables false
attribute [local irreducible] Ev EvQ EvS EvH
def strings_Builder_WriteString_S (f : Builder → ByteArray → Option (Int × Unit × Builder)) : Prop := ∀ (w0 : World) (I0 : Nat → Prop) (x_0 : Builder) (g_1 : Nat) (E_2 : List Ent) (q_3 : qB w0 I0 g_1 E_2 x_0) (x_4 : ByteArray) (hp : Hp ⟨w0, I0, blks E_2⟩ I0 E_2 w0) (r : (Int × Unit × Builder)), f x_0 x_4 = some r →
    Ret Tryd.prog 81 #[(.pointer (some ⟨g_1, 0, none⟩)), (.string x_4)] w0 fun v w1 => ∃ (I1 : Nat → Prop) (u_5 : List Ent), v = (.tuple #[(.int .i64 r.1), .nilIface]) ∧ Hp ⟨w0, I0, blks E_2⟩ I1 u_5 w1 ∧ qB w1 I1 g_1 u_5 r.2.2
theorem strings_Builder_WriteString_ok (n : Nat) : strings_Builder_WriteString_S (strings_Builder_WriteString n) := by
  intro w0 I0 x_0 g_1 E_2 q_3 x_4 hp r h
  unfold strings_Builder_WriteString at h
  refine enter Tryd.func81 rfl (Nat.le_of_ble_eq_true rfl) ?_
  generalize blks E_2 = B at hp ⊢
  obtain ⟨v_5, v_6, e_7, rfl, z_8, o_9⟩ := q_3
  have hp : Hp ⟨w0, I0, B⟩ I0 [some (g_1, [v_5, v_6], 103), e_7] w0 := hp
  apply go
  apply go
  apply go
  apply go
  obtain ⟨x_a, q_b, h⟩ := bind_some h
  refine ev_call rfl rfl C102 (((strings_Builder_copyCheck_ok n) _ _  (Builder.mk () x_0.buf) g_1 [some (g_1, [v_5, v_6], 103), e_7] ⟨v_5, v_6, e_7, rfl, z_8, o_9⟩ (hp.lendL [0, 1] (by decide)) _ q_b).mono ?_)
  rintro _ w_c ⟨I_d, F_e, hv, hq5636, q_f⟩
  replace hv := hv.symm
  subst hv
  obtain ⟨v_g, v_h, e_i, rfl, z_j, o_k⟩ := q_f
  have hs := hq5636.st
  have hp := hp.backL [0, 1] [] (by decide) hq5636
  apply go
  apply go
  refine ev0 (rn_field rfl rfl FO103_1) ?_
  refine ev (rn_load rfl rfl (run_loadVar1 T101 (hp.cell (i := 0) (off := 1) rfl rfl))) ?_
  obtain ⟨x_l, q_m, h⟩ := bind_some h
  refine ev_appendS hp (i := 1) rfl rfl rfl rfl Tryd.underlying101 Tryd.underlying9 T5 o_k q_m ?_
  rintro v_n e_o w_p hp hs o_q
  replace o_k := o_k.step hs
  refine ev0 (rn_field rfl rfl FO103_1) ?_
  refine ev_store1 hp (i := 0) (off := 1) rfl rfl rfl rfl T101 o_q.one (Nat.le_of_ble_eq_true rfl) ?_
  intro w_r hp hs
  replace o_q := o_q.step hs
  apply go
  apply go
  refine ev0 (rn_lenS rfl rfl Tryd.underlying9) ?_
  apply go
  obtain rfl := Option.some.inj h
  exact ⟨I_d, [some (g_1, [v_g, v_n], 103), e_o], rfl, hp, ⟨v_g, v_n, e_o, rfl, z_j, o_q⟩⟩

end Go.Proofs.YtcdboppghnchpaaDoor

namespace Go.Proofs.YtcdboppghnchpaaDoor
open Go Go.Proofs.YtcdboppghnchpaaDoor.Gw Go.RowKit
set_option linter.unusedVariables false
attribute [local irreducible] Ev EvQ EvS EvH
def strconv_Itoa_S (f : Int → Option ByteArray) : Prop := ∀ (w0 : World) (I0 : Nat → Prop) (tb : Tb w0 I0 2 .u64 pow10) (x_0 : Int) (hI : ∀ g, I0 g → g < w0.heap.size) (r : ByteArray), f x_0 = some r →
    Ret Tryd.prog 82 #[(.int .i64 x_0)] w0 fun v w1 => v = (.string r) ∧ Ch [] w0 w1

theorem strconv_Itoa_ok (n : Nat) : strconv_Itoa_S (strconv_Itoa n) := by
  intro w0 I0 tb x hI r h
  unfold strconv_Itoa at h
  split at h
  · rename_i hx
    obtain rfl := Option.some.inj h
    apply ret_below
    refine Calls.mono (sh_strconv_Itoa x hx.1 hx.2 w0 (tb.tab (zs := Lib.pow10Tab) (by kernel_rfl))) ?_
    rintro e w1 ⟨rfl, k, os, rfl⟩
    exact ⟨rfl, below_grow w0 k os⟩
  · cases h

end Go.Proofs.YtcdboppghnchpaaDoor

namespace Go.Proofs.YtcdboppghnchpaaDoor
open Go Go.Proofs.YtcdboppghnchpaaDoor.Gw Go.RowKit
set_option linter.unusedVariables false
attribute [local irreducible] Ev EvQ EvS EvH
def tree_write_S (f : Builder → Node → Option Builder) : Prop := ∀ (w0 : World) (I0 : Nat → Prop) (tb : Tb w0 I0 2 .u64 pow10) (x_0 : Builder) (g_1 : Nat) (E_2 : List Ent) (q_3 : qB w0 I0 g_1 E_2 x_0) (x_4 : Node) (v_5 : Value) (r_6 : RepS dNode w0 I0 v_5 x_4.Kids) (hp : Hp ⟨w0, I0, blks E_2⟩ I0 E_2 w0) (r : Builder), f x_0 x_4 = some r →
    Ret Tryd.prog 47 #[(.pointer (some ⟨g_1, 0, none⟩)), (.agg #[(.int .i64 x_4.Kind), (.int .i64 x_4.Name), (.int .i64 x_4.Count), v_5])] w0 fun v w1 => ∃ (I1 : Nat → Prop) (u_7 : List Ent), v = (.tuple #[]) ∧ Hp ⟨w0, I0, blks E_2⟩ I1 u_7 w1 ∧ qB w1 I1 g_1 u_7 r
theorem tree_write_F_ok (n : Nat) (self : Builder → Node → Option Builder) (ih : tree_write_S self) : tree_write_S (tree_write_F n self) := by
  intro w0 I0 tb x_0 g_1 E_2 q_3 x_4 v_5 r_6 hp r h
  unfold tree_write_F at h
  refine enter Tryd.func47 rfl (Nat.le_of_ble_eq_true rfl) ?_
  generalize blks E_2 = B at hp ⊢
  obtain ⟨v_7, v_8, e_9, rfl, z_a, o_b⟩ := q_3
  have hp : Hp ⟨w0, I0, B⟩ I0 [some (g_1, [v_7, v_8], 103), e_9] w0 := hp
  apply go
  apply go
  refine ev_boxI hp rfl rfl ?_
  intro p_c I_d w_e hp hs a_f
  replace r_6 := r_6.step hs
  replace o_b := o_b.step hs
  replace tb := tb.step hs
  apply go
  obtain ⟨y_g, q_h, h⟩ := bind_some h
  refine W.cut (γ := Bool) (fun g => [(0, (.pointer (some ⟨g_1, 0, none⟩))), (3, (.pointer (some (p_c)))), (13, (.bool (g)))]) (fun g w' => y_g = (g) ∧ w_e = w') ?_ ?_
  ·
    apply go
    refine ev0 (rn_field rfl rfl FO57_0) ?_
    refine ev (rn_load rfl rfl (run_loadVar1 T3 (a_f.2 0 _ rfl))) ?_
    refine sel_of (fun hc => ?_) (fun hc => ?_)
    ·
      have q_h := cond_t q_h hc
      obtain rfl := Option.some.inj q_h
      exact ⟨true, (.c rfl (.c rfl (.c rfl .n))), rfl, rfl⟩
    ·
      have q_h := cond_f q_h hc
      refine ev0 (rn_field rfl rfl FO57_0) ?_
      refine ev (rn_load rfl rfl (run_loadVar1 T3 (a_f.2 0 _ rfl))) ?_
      obtain rfl := Option.some.inj q_h
      exact ⟨(x_4.Kind == 2), (.c rfl (.c rfl (.c rfl .n))), rfl, rfl⟩
  ·
    rintro x_i _ ⟨hy, rfl⟩
    replace hy := hy.symm
    subst hy
    apply go
    refine sel_of (fun hc => ?_) (fun hc => ?_)
    ·
      have h := cond_t h hc
      apply go
      apply go
      refine ev0 (rn_field rfl rfl FO57_0) ?_
      refine ev (rn_load rfl rfl (run_loadVar1 T3 (a_f.2 0 _ rfl))) ?_
      obtain ⟨x_j, q_k, h⟩ := bind_some h
      refine ev_call rfl rfl C80 (((tree_letter_ok n) _ _  x_4.Kind hp.imm _ q_k).mono ?_)
      rintro _ w_l ⟨rfl, hc⟩
      have hs := hp.stp hc
      replace hp := hp.ext hc
      replace a_f := a_f.step hs
      replace r_6 := r_6.step hs
      replace o_b := o_b.step hs
      replace tb := tb.step hs
      obtain ⟨⟨x_m, x_n⟩, q_o, h⟩ := bind_some h
      refine ev_call rfl rfl C79 (((strings_Builder_WriteByte_ok n) _ _  (Builder.mk () x_0.buf) g_1 [some (g_1, [v_7, v_8], 103), e_9] ⟨v_7, v_8, e_9, rfl, z_a, o_b⟩ x_j (hp.lendL [0, 1] (by decide)) _ q_o).mono ?_)
      rintro _ w_p ⟨I_q, F_r, hv, hq5680, q_s⟩
      replace hv := hv.symm
      subst hv
      obtain ⟨v_t, v_u, e_v, rfl, z_w, o_x⟩ := q_s
      have hs := hq5680.st
      have hp := hp.backL [0, 1] [] (by decide) hq5680
      replace a_f := a_f.step hs
      replace r_6 := r_6.step hs
      replace tb := tb.step hs
      apply go
      apply go
      refine ev0 (rn_field rfl rfl FO57_1) ?_
      refine ev (rn_load rfl rfl (run_loadVar1 T3 (a_f.2 1 _ rfl))) ?_
      obtain ⟨x_y, q_z, h⟩ := bind_some h
      refine ev_call rfl rfl C82 (((strconv_Itoa_ok n) _ _ tb x_4.Name hp.imm _ q_z).mono ?_)
      rintro _ w_10 ⟨rfl, hc⟩
      have hs := hp.stp hc
      replace hp := hp.ext hc
      replace o_x := o_x.step hs
      replace tb := tb.step hs
      obtain ⟨⟨x_11, x_12, x_13⟩, q_14, h⟩ := bind_some h
      refine ev_call rfl rfl C81 (((strings_Builder_WriteString_ok n) _ _  (Builder.mk () x_n.buf) g_1 [some (g_1, [v_t, v_u], 103), e_v] ⟨v_t, v_u, e_v, rfl, z_w, o_x⟩ x_y (hp.lendL [0, 1] (by decide)) _ q_14).mono ?_)
      rintro _ w_15 ⟨I_16, F_17, hv, hq5697, q_18⟩
      replace hv := hv.symm
      subst hv
      obtain ⟨v_19, v_1a, e_1b, rfl, z_1c, o_1d⟩ := q_18
      have hs := hq5697.st
      have hp := hp.backL [0, 1] [] (by decide) hq5697
      replace tb := tb.step hs
      apply go
      obtain rfl := Option.some.inj h
      exact ⟨I_16, [some (g_1, [v_19, v_1a], 103), e_1b], rfl, hp, ⟨v_19, v_1a, e_1b, rfl, z_1c, o_1d⟩⟩
    ·
      have h := cond_f h hc
      apply go
      apply go
      apply go
      obtain ⟨⟨x_1e, x_1f⟩, q_1g, h⟩ := bind_some h
      refine ev_call rfl rfl C79 (((strings_Builder_WriteByte_ok n) _ _  (Builder.mk () x_0.buf) g_1 [some (g_1, [v_7, v_8], 103), e_9] ⟨v_7, v_8, e_9, rfl, z_a, o_b⟩ 40 (hp.lendL [0, 1] (by decide)) _ q_1g).mono ?_)
      rintro _ w_1h ⟨I_1i, F_1j, hv, hq5710, q_1k⟩
      replace hv := hv.symm
      subst hv
      obtain ⟨v_1l, v_1m, e_1n, rfl, z_1o, o_1p⟩ := q_1k
      have hs := hq5710.st
      have hp := hp.backL [0, 1] [] (by decide) hq5710
      replace a_f := a_f.step hs
      replace r_6 := r_6.step hs
      replace tb := tb.step hs
      apply go
      apply go
      refine ev0 (rn_field rfl rfl FO57_0) ?_
      refine ev (rn_load rfl rfl (run_loadVar1 T3 (a_f.2 0 _ rfl))) ?_
      obtain ⟨x_1q, q_1r, h⟩ := bind_some h
      refine ev_call rfl rfl C80 (((tree_letter_ok n) _ _  x_4.Kind hp.imm _ q_1r).mono ?_)
      rintro _ w_1s ⟨rfl, hc⟩
      have hs := hp.stp hc
      replace hp := hp.ext hc
      replace a_f := a_f.step hs
      replace r_6 := r_6.step hs
      replace o_1p := o_1p.step hs
      replace tb := tb.step hs
      obtain ⟨⟨x_1t, x_1u⟩, q_1v, h⟩ := bind_some h
      refine ev_call rfl rfl C79 (((strings_Builder_WriteByte_ok n) _ _  (Builder.mk () x_1f.buf) g_1 [some (g_1, [v_1l, v_1m], 103), e_1n] ⟨v_1l, v_1m, e_1n, rfl, z_1o, o_1p⟩ x_1q (hp.lendL [0, 1] (by decide)) _ q_1v).mono ?_)
      rintro _ w_1w ⟨I_1x, F_1y, hv, hq5726, q_1z⟩
      replace hv := hv.symm
      subst hv
      obtain ⟨v_20, v_21, e_22, rfl, z_23, o_24⟩ := q_1z
      have hs := hq5726.st
      have hp := hp.backL [0, 1] [] (by decide) hq5726
      replace a_f := a_f.step hs
      replace r_6 := r_6.step hs
      replace tb := tb.step hs
      obtain ⟨y_25, q_26, h⟩ := bind_some h
      refine W.cut (γ := ((List Int) × Value × Value × Ent × (Nat → Prop))) (fun g => [(0, (.pointer (some ⟨g_1, 0, none⟩))), (3, (.pointer (some (p_c))))]) (fun g w' => y_25 = (g.1) ∧ Hp ⟨w0, I0, B⟩ (g.2.2.2.2) [(g.2.2.2.1), some (g_1, [(g.2.1), (g.2.2.1)], 103)] w' ∧ SelfP g_1 (g.2.1) ∧ OwnS (dI .u8) 5 w' (g.2.2.2.2) (g.2.2.1) (g.2.2.2.1) (g.1) ∧ RepS dNode w' (g.2.2.2.2) v_5 x_4.Kids ∧ At w' (g.2.2.2.2) p_c [(.int .i64 x_4.Kind), (.int .i64 x_4.Name), (.int .i64 x_4.Count), v_5] ∧ Tb w' (g.2.2.2.2) 2 .u64 pow10) ?_ ?_
      ·
        apply go
        apply go
        refine ev0 (rn_field rfl rfl FO57_2) ?_
        refine ev (rn_load rfl rfl (run_loadVar1 T3 (a_f.2 2 _ rfl))) ?_
        apply go
        refine sel_of (fun hc => ?_) (fun hc => ?_)
        ·
          have q_26 := cond_t q_26 hc
          apply go
          refine ev0 (rn_field rfl rfl FO57_2) ?_
          refine ev (rn_load rfl rfl (run_loadVar1 T3 (a_f.2 2 _ rfl))) ?_
          obtain ⟨x_27, q_28, q_26⟩ := bind_some q_26
          refine ev_call rfl rfl C82 (((strconv_Itoa_ok n) _ _ tb x_4.Count hp.imm _ q_28).mono ?_)
          rintro _ w_29 ⟨rfl, hc⟩
          have hs := hp.stp hc
          replace hp := hp.ext hc
          replace a_f := a_f.step hs
          replace r_6 := r_6.step hs
          replace o_24 := o_24.step hs
          replace tb := tb.step hs
          obtain ⟨⟨x_2a, x_2b, x_2c⟩, q_2d, q_26⟩ := bind_some q_26
          refine ev_call rfl rfl C81 (((strings_Builder_WriteString_ok n) _ _  (Builder.mk () x_1u.buf) g_1 [some (g_1, [v_20, v_21], 103), e_22] ⟨v_20, v_21, e_22, rfl, z_23, o_24⟩ x_27 (hp.lendL [0, 1] (by decide)) _ q_2d).mono ?_)
          rintro _ w_2e ⟨I_2f, F_2g, hv, hq5770, q_2h⟩
          replace hv := hv.symm
          subst hv
          obtain ⟨v_2i, v_2j, e_2k, rfl, z_2l, o_2m⟩ := q_2h
          have hs := hq5770.st
          have hp := hp.backL [0, 1] [] (by decide) hq5770
          replace a_f := a_f.step hs
          replace r_6 := r_6.step hs
          replace tb := tb.step hs
          obtain rfl := Option.some.inj q_26
          have hp := hp.perm [1, 0] (by decide)
          exact ⟨(x_2c.buf, v_2i, v_2j, e_2k, I_2f), (.c rfl (.c rfl .n)), rfl, hp, z_2l, o_2m, r_6, a_f, tb⟩
        ·
          have q_26 := cond_f q_26 hc
          apply go
          obtain rfl := Option.some.inj q_26
          have hp := hp.perm [1, 0] (by decide)
          exact ⟨(x_1u.buf, v_20, v_21, e_22, I_1x), (.c rfl (.c rfl .n)), rfl, hp, z_23, o_24, r_6, a_f, tb⟩
      ·
        rintro ⟨x_2n, v_2o, v_2p, e_2q, I_2r⟩ w_2s ⟨hy, hp, z_2t, o_2u, r_6, a_f, tb⟩
        replace hy := hy.symm
        subst hy
        obtain ⟨y_2v, q_2w, h⟩ := bind_some h
        refine W.cut (γ := ((List Int) × Value × Value × Ent × (Nat → Prop))) (fun g => [(0, (.pointer (some ⟨g_1, 0, none⟩)))]) (fun g w' => y_2v = (g.1) ∧ Hp ⟨w0, I0, B⟩ (g.2.2.2.2) [(g.2.2.2.1), some (g_1, [(g.2.1), (g.2.2.1)], 103)] w' ∧ SelfP g_1 (g.2.1) ∧ OwnS (dI .u8) 5 w' (g.2.2.2.2) (g.2.2.1) (g.2.2.2.1) (g.1) ∧ Tb w' (g.2.2.2.2) 2 .u64 pow10) ?_ ?_
        ·
          apply go
          apply go
          refine ev0 (rn_field rfl rfl FO57_3) ?_
          refine ev (rn_load rfl rfl (run_loadVar1 T55 (a_f.2 3 _ rfl))) ?_
          refine ev0 (rn_len rfl rfl Tryd.underlying55 r_6) ?_
          apply go
          refine W.loop q_2w (γ := (Value × Value × Ent × (Nat → Prop))) (fun s g => [(0, (.pointer (some ⟨g_1, 0, none⟩))), (40, v_5), (41, (.int .i64 (x_4.Kids.length : Int))), (42, (.int .i64 (s.2)))]) (fun s g w' => Hp ⟨w0, I0, B⟩ (g.2.2.2) [(g.2.2.1), some (g_1, [(g.1), (g.2.1)], 103)] w' ∧ SelfP g_1 (g.1) ∧ OwnS (dI .u8) 5 w' (g.2.2.2) (g.2.1) (g.2.2.1) (s.1) ∧ RepS dNode w' (g.2.2.2) v_5 x_4.Kids ∧ Tb w' (g.2.2.2) 2 .u64 pow10) (v_2o, v_2p, e_2q, I_2r) (.c rfl (.c rfl (.c rfl (.c rfl .n)))) ⟨hp, z_2t, o_2u, r_6, tb⟩ ?_
          rintro ⟨x_2x, x_2y⟩ ⟨v_2z, v_30, e_31, I_32⟩ w_33 y_34 ⟨hp, z_35, o_36, r_6, tb⟩ q_37 q_38
          unfold tree_write_L1 at q_37
          apply go
          apply go
          apply go
          apply go
          refine sel_of (fun hc => ?_) (fun hc => ?_)
          ·
            have q_37 := cond_t q_37 hc
            apply go
            apply go
            apply go
            apply go
            apply go
            obtain ⟨x_39, q_3a, q_37⟩ := bind_some q_37
            refine ev_index rfl rfl rfl Tryd.underlying55 T57 r_6 q_3a ?_
            intro p_3b c_3c d_3d a_3e
            obtain ⟨v_3f, rfl, r_3g⟩ := dNode_o d_3d
            refine ev (rn_load rfl rfl (run_loadVarA T57 rfl a_3e)) ?_
            refine ev_alloc hp rfl T57 ?_
            intro g_3h w_3i hp hs
            replace r_6 := r_6.step hs
            replace r_3g := r_3g.step hs
            replace o_36 := o_36.step hs
            replace tb := tb.step hs
            refine ev_storeA hp (i := 0) (off := 0) (vs := [(.int .i64 x_39.Kind), (.int .i64 x_39.Name), (.int .i64 x_39.Count), v_3f]) rfl rfl rfl rfl T57 rfl (Nat.le_of_ble_eq_true rfl) (ones_cons rfl (ones_cons rfl (ones_cons rfl (ones_cons r_3g.one ones_nil)))) ?_
            intro w_3j hp hs
            replace r_6 := r_6.step hs
            replace r_3g := r_3g.step hs
            replace o_36 := o_36.step hs
            replace tb := tb.step hs
            apply go
            apply go
            obtain ⟨⟨x_3k, x_3l⟩, q_3m, q_37⟩ := bind_some q_37
            refine ev_call rfl rfl C79 (((strings_Builder_WriteByte_ok n) _ _  (Builder.mk () x_2x) g_1 [some (g_1, [v_2z, v_30], 103), e_31] ⟨v_2z, v_30, e_31, rfl, z_35, o_36⟩ 32 (hp.lendL [2, 1] (by decide)) _ q_3m).mono ?_)
            rintro _ w_3n ⟨I_3o, F_3p, hv, hq6025, q_3q⟩
            replace hv := hv.symm
            subst hv
            obtain ⟨v_3r, v_3s, e_3t, rfl, z_3u, o_3v⟩ := q_3q
            have hs := hq6025.st
            have hp := hp.backL [2, 1] [0] (by decide) hq6025
            replace r_6 := r_6.step hs
            replace r_3g := r_3g.step hs
            replace tb := tb.step hs
            apply go
            refine ev (rn_load rfl rfl (run_loadVarA T57 rfl (hp.at_ (i := 2) rfl))) ?_
            obtain ⟨x_3w, q_3x, q_37⟩ := bind_some q_37
            refine ev_call rfl rfl C47 ((ih _ _ tb (Builder.mk () x_3l.buf) g_1 [some (g_1, [v_3r, v_3s], 103), e_3t] ⟨v_3r, v_3s, e_3t, rfl, z_3u, o_3v⟩ (Node.mk x_39.Kind x_39.Name x_39.Count x_39.Kids) v_3f r_3g (hp.lendL [0, 1] (by decide)) _ q_3x).mono ?_)
            rintro _ w_3y ⟨I_3z, F_40, hv, hq6037, q_41⟩
            replace hv := hv.symm
            subst hv
            obtain ⟨v_42, v_43, e_44, rfl, z_45, o_46⟩ := q_41
            have hs := hq6037.st
            have hp := hp.backL [0, 1] [2] (by decide) hq6037
            replace r_6 := r_6.step hs
            replace r_3g := r_3g.step hs
            replace tb := tb.step hs
            apply go
            have hp := hp.perm [1, 0] (by decide)
            exact ⟨_, (Option.some.inj q_37).symm, (v_42, v_43, e_44, I_3z), (.c rfl (.c rfl (.c rfl (.c rfl .n)))), ⟨hp, z_45, o_46, r_6, tb⟩⟩
          ·
            have q_37 := cond_f q_37 hc
            apply go
            have q_47 := congrArg some (q_38 _ (Option.some.inj q_37).symm)
            obtain rfl := Option.some.inj q_47
            exact ⟨(x_2x, v_2z, v_30, e_31, I_32), (.c rfl .n), rfl, hp, z_35, o_36, tb⟩
        ·
          rintro ⟨x_48, v_49, v_4a, e_4b, I_4c⟩ w_4d ⟨hy, hp, z_4e, o_4f, tb⟩
          replace hy := hy.symm
          subst hy
          apply go
          obtain ⟨⟨x_4g, x_4h⟩, q_4i, h⟩ := bind_some h
          refine ev_call rfl rfl C79 (((strings_Builder_WriteByte_ok n) _ _  (Builder.mk () x_48) g_1 [some (g_1, [v_49, v_4a], 103), e_4b] ⟨v_49, v_4a, e_4b, rfl, z_4e, o_4f⟩ 41 (hp.lendL [1, 0] (by decide)) _ q_4i).mono ?_)
          rintro _ w_4j ⟨I_4k, F_4l, hv, hq6051, q_4m⟩
          replace hv := hv.symm
          subst hv
          obtain ⟨v_4n, v_4o, e_4p, rfl, z_4q, o_4r⟩ := q_4m
          have hs := hq6051.st
          have hp := hp.backL [1, 0] [] (by decide) hq6051
          replace tb := tb.step hs
          obtain rfl := Option.some.inj h
          exact ⟨I_4k, [some (g_1, [v_4n, v_4o], 103), e_4p], rfl, hp, ⟨v_4n, v_4o, e_4p, rfl, z_4q, o_4r⟩⟩
theorem tree_write_ok : ∀ n, tree_write_S (tree_write n)
  | 0 => by intro w0 I0 tb x_0 g_1 E_2 q_3 x_4 v_5 r_6 hp r h; cases h
  | n + 1 => tree_write_F_ok n _ (tree_write_ok n)

end Go.Proofs.YtcdboppghnchpaaDoor

namespace Go.Proofs.YtcdboppghnchpaaDoor
open Go Go.Proofs.YtcdboppghnchpaaDoor.Gw Go.RowKit
set_option linter.unusedVariables false
attribute [local irreducible] Ev EvQ EvS EvH
def tree_Text_S (f : Node → Option ByteArray) : Prop := ∀ (w0 : World) (I0 : Nat → Prop) (tb : Tb w0 I0 2 .u64 pow10) (x_0 : Node) (v_1 : Value) (r_2 : RepS dNode w0 I0 v_1 x_0.Kids) (hI : ∀ g, I0 g → g < w0.heap.size) (r : ByteArray), f x_0 = some r →
    Ret Tryd.prog 21 #[(.agg #[(.int .i64 x_0.Kind), (.int .i64 x_0.Name), (.int .i64 x_0.Count), v_1])] w0 fun v w1 => v = (.string r) ∧ Ch [] w0 w1

theorem CBuilderString : CF Tryd.prog 48 := ⟨_, Tryd.func48, rfl, by kernel_rfl⟩
theorem TBuilder : TI Tryd.prog 103 2 32 (.agg #[.pointer none, .slice none 0 0]) true := ⟨by kernel_rfl, by kernel_rfl, rfl⟩
theorem tree_Text_ok (n : Nat) : tree_Text_S (tree_Text n) := by
  intro w0 I0 tb t v rt hI r h
  unfold tree_Text at h
  refine enter Tryd.func21 rfl (Nat.le_of_ble_eq_true rfl) ?_
  have hp : Hp ⟨w0, I0, []⟩ I0 [] w0 := Hp.start hI
  apply go
  apply go
  refine ev_boxI hp rfl rfl ?_
  intro p I1 w1 hp hs a
  replace rt := rt.step hs
  replace tb := tb.step hs
  apply go
  apply go
  apply go
  refine ev (rn_load rfl rfl (run_loadVarA T57 rfl a)) ?_
  obtain ⟨ok, q, h⟩ := bind_some h
  refine ev_call rfl rfl C46 (((tree_Valid_ok n) _ _  t v rt hp.imm _ q).mono ?_)
  rintro _ w2 ⟨rfl, hc⟩
  have hs := hp.stp hc
  replace hp := hp.ext hc
  replace a := a.step hs
  replace rt := rt.step hs
  replace tb := tb.step hs
  apply go
  refine sel_of (fun hc => ?_) (fun hc => ?_)
  ·
    have hf : ok = false := by simpa using hc
    subst hf
    replace h : some ByteArray.empty = some r := h
    apply go
    apply go
    apply go
    obtain rfl := Option.some.inj h
    exact ⟨rfl, hp.ch⟩
  ·
    have hf : ok = true := by simpa using hc
    subst hf
    replace h : ((tree_write n (Builder.mk () []) t).bind fun b => strO b.buf) = some r := h
    obtain ⟨b, q2, h⟩ := bind_some h
    apply go
    apply go
    apply go
    refine ev_alloc hp rfl TBuilder ?_
    intro g w3 hp3 hs
    replace a := a.step hs
    replace rt := rt.step hs
    replace tb := tb.step hs
    have hgw : w0.heap.size ≤ g := by
      rcases (hp3.own 0 g _ _ rfl).2.2 with h0 | h0
      · exact h0
      · cases h0
    replace hp := hp3.none_
    have o := OwnS.nil (dI .u8) 5 w3 I1
    have hp : Hp ⟨w0, I0, []⟩ I1 [some (g, [.pointer none, .slice none 0 0], 103), none] w3 := hp.perm [1, 0] (by decide)
    apply go
    apply go
    refine ev (rn_load rfl rfl (run_loadVarA T57 rfl a)) ?_
    refine ev_call rfl rfl C47 (((tree_write_ok n) _ _ tb (Builder.mk () []) g _ ⟨_, _, _, rfl, .inl rfl, o⟩ t v rt (hp.lendL [0, 1] (by decide)) _ q2).mono ?_)
    rintro _ w4 ⟨I2, F, hv, hq, hb⟩
    replace hv := hv.symm; subst hv
    have hp := hp.backL [0, 1] [] (by decide) hq
    obtain ⟨va, v4, e4, rfl, hsf, ho4⟩ := hb
    obtain ⟨l, hl, rfl⟩ := Option.map_eq_some_iff.1 h
    have hB : Lib.IsBuilder 103 5 w0.heap.size g (Lib.byteCells l) w4 := hp.builder hsf ho4 hl hgw (fun g' cs t' e => by
      subst e
      rcases (hp.own 1 g' cs t' rfl).2.2 with h0 | h0
      · exact h0
      · cases h0)
    apply go
    apply go
    have hstr : Ret Tryd.prog 48 #[.pointer (some ⟨g, 0, none⟩)] w4 (fun v w' => v = .string ⟨l.toArray⟩ ∧ Below w0.heap.size w4 w') := Calls.mono (sh_Builder_String_any w0.heap.size g l w4 hB hp.ch.size) (fun _ w' hx => ⟨_, hx.1, rfl, hx.2⟩)
    refine ev_call rfl rfl CBuilderString (hstr.mono ?_)
    rintro _ w5 ⟨rfl, hb5⟩
    apply go
    exact ⟨rfl, ch_below (hp.ch.below.trans hb5)⟩

end Go.Proofs.YtcdboppghnchpaaDoor

namespace Go.Proofs.YtcdboppghnchpaaDoor
open Go Go.Proofs.YtcdboppghnchpaaDoor.Gw Go.RowKit
set_option linter.unusedVariables false
attribute [local irreducible] Ev EvQ EvS EvH
def slices_Clonebool_bool__S (f : (List Bool) → Option ((List Bool) × (List Bool))) : Prop := ∀ (w0 : World) (I0 : Nat → Prop) (x_0 : (List Bool)) (v_1 : Value) (e_2 : Ent) (o_3 : OwnS dB 4 w0 I0 v_1 e_2 x_0) (hp : Hp ⟨w0, I0, blks [e_2]⟩ I0 [e_2] w0) (r : ((List Bool) × (List Bool))), f x_0 = some r →
    Ret Tryd.prog 50 #[v_1] w0 fun v w1 => ∃ (I1 : Nat → Prop) (u_4 : Value) (u_5 : Ent) (u_6 : Ent), v = u_4 ∧ Hp ⟨w0, I0, blks [e_2]⟩ I1 ([u_5] ++ [u_6]) w1 ∧ OwnS dB 4 w1 I1 u_4 u_5 r.1 ∧ OwnS dB 4 w1 I1 v_1 u_6 r.2
theorem slices_Clonebool_bool__ok (n : Nat) : slices_Clonebool_bool__S (slices_Clonebool_bool_ n) := by
  intro w0 I0 x_0 v_1 e_2 o_3 hp r h
  unfold slices_Clonebool_bool_ at h
  refine enter Tryd.func50 rfl (Nat.le_of_ble_eq_true rfl) ?_
  generalize blks [e_2] = B at hp ⊢
  have hp : Hp ⟨w0, I0, B⟩ I0 [e_2] w0 := hp
  apply go
  apply go
  apply go
  apply go
  apply go
  rcases o_3.nilcase with ⟨hv, he, hx⟩ | ⟨a_4, n_5, hv, ho⟩
  ·
    subst hv; subst he; subst hx
    replace h : some (([] : (List Bool)), ([] : (List Bool))) = some _ := h
    refine ev0 (rn_eqNil rfl rfl rfl Tryd.underlying65) ?_
    apply go
    apply go
    apply go
    apply go
    obtain rfl := Option.some.inj h
    have hp := hp.none_
    have o_6 := OwnS.nil dB 4 w0 I0
    exact ⟨I0, (.slice none 0 0), none, none, rfl, hp, o_6, o_3⟩
  ·
    subst hv; have o_3 := ho
    refine ev0 (rn_eqNil rfl rfl rfl Tryd.underlying65) ?_
    apply go
    apply go
    apply go
    apply go
    refine ev_litON (d := dB) (xs := ([] : List Bool)) (cs := []) hp rfl rfl Tryd.underlying65 T4 (by decide) (by decide) rfl rfl (Elems.nil _ _ _ _) ?_
    intro v_7 e_8 w_9 hp hs o_a
    replace o_3 := o_3.step hs
    obtain ⟨x_b, q_c, h⟩ := bind_some h
    refine ev_appendF hp (i := 0) (j := 1) rfl rfl rfl rfl rfl Tryd.underlying65 T4 rfl rfl dB_flat o_a o_3 q_c ?_
    rintro v_d e_e w_f hp hs o_g
    apply go
    obtain rfl := Option.some.inj h
    exact ⟨I0, v_d, e_e, e_2, rfl, hp, o_g, o_3⟩

end Go.Proofs.YtcdboppghnchpaaDoor

namespace Go.Proofs.YtcdboppghnchpaaDoor
open Go Go.Proofs.YtcdboppghnchpaaDoor.Gw Go.RowKit
set_option linter.unusedVariables false
attribute [local irreducible] Ev EvQ EvS EvH
def tree_Runner_chain_S (f : Runner → (List Int) → Int → Tick → Option (Int × Runner × Tick)) : Prop := ∀ (w0 : World) (I0 : Nat → Prop) (x_0 : Runner) (g_1 : Nat) (E_2 : List Ent) (v_3 : Value) (q_4 : qR w0 I0 g_1 E_2 x_0 v_3) (x_5 : (List Int)) (v_6 : Value) (r_7 : RepS (dI .i64) w0 I0 v_6 x_5) (x_8 : Int) (x_9 : Tick) (g_a : Nat) (E_b : List Ent) (q_c : qK w0 I0 g_a E_b x_9) (hp : Hp ⟨w0, I0, blks (E_2 ++ E_b)⟩ I0 (E_2 ++ E_b) w0) (r : (Int × Runner × Tick)), f x_0 x_5 x_8 x_9 = some r →
    Ret Tryd.prog 83 #[(.pointer (some ⟨g_1, 0, none⟩)), v_6, (.int .i64 x_8), (.pointer (some ⟨g_a, 0, none⟩))] w0 fun v w1 => ∃ (I1 : Nat → Prop) (u_d : List Ent) (u_e : List Ent), v = (.int .i64 r.1) ∧ Hp ⟨w0, I0, blks (E_2 ++ E_b)⟩ I1 (u_d ++ u_e) w1 ∧ qRz w1 I1 g_1 u_d r.2.1 v_3 ∧ qK w1 I1 g_a u_e r.2.2
theorem tree_Runner_chain_ok (n : Nat) (f_tree_Runner_run : (Runner → Int → Tick → Option (Int × Runner × Tick))) (Hf_tree_Runner_run : tree_Runner_run_S f_tree_Runner_run) : tree_Runner_chain_S (tree_Runner_chain n f_tree_Runner_run) := by
  intro w0 I0 x_0 g_1 E_2 v_3 q_4 x_5 v_6 r_7 x_8 x_9 g_a E_b q_c hp r h
  unfold tree_Runner_chain at h
  refine enter Tryd.func83 rfl (Nat.le_of_ble_eq_true rfl) ?_
  generalize blks (E_2 ++ E_b) = B at hp ⊢
  obtain ⟨v_d, e_e, v_f, e_g, rfl, o_h, o_i, r_j⟩ := q_4
  obtain ⟨v_k, v_l, v_m, e_n, v_o, e_p, rfl, r_q, r_r, o_s, o_t⟩ := q_c
  have hp : Hp ⟨w0, I0, B⟩ I0 [some (g_1, [v_3, v_d, v_f], 108), e_e, e_g, some (g_a, [v_k, v_l, v_m, v_o], 113), e_n, e_p] w0 := hp
  apply go
  apply go
  obtain ⟨y_u, q_v, h⟩ := bind_some h
  refine W.cut (γ := ((List Int) × (List Bool) × (List Int) × (List Bool) × (List Int) × (List Int) × Value × Ent × Value × Ent × Value × Value × Value × Ent × Value × Ent × (Nat → Prop))) (fun g => [(2, (.int .i64 x_8))]) (fun g w' => y_u = .go ((g.1), (g.2.1), (g.2.2.1), (g.2.2.2.1), (g.2.2.2.2.1), (g.2.2.2.2.2.1)) ∧ Hp ⟨w0, I0, B⟩ (g.2.2.2.2.2.2.2.2.2.2.2.2.2.2.2.2) [(g.2.2.2.2.2.2.2.1), (g.2.2.2.2.2.2.2.2.2.1), some (g_1, [v_3, (g.2.2.2.2.2.2.1), (g.2.2.2.2.2.2.2.2.1)], 108), (g.2.2.2.2.2.2.2.2.2.2.2.2.2.1), (g.2.2.2.2.2.2.2.2.2.2.2.2.2.2.2.1), some (g_a, [(g.2.2.2.2.2.2.2.2.2.2.1), (g.2.2.2.2.2.2.2.2.2.2.2.1), (g.2.2.2.2.2.2.2.2.2.2.2.2.1), (g.2.2.2.2.2.2.2.2.2.2.2.2.2.2.1)], 113)] w' ∧ RepS dNode_2 w' (g.2.2.2.2.2.2.2.2.2.2.2.2.2.2.2.2) v_3 x_0.nodes ∧ OwnS (dI .i64) 3 w' (g.2.2.2.2.2.2.2.2.2.2.2.2.2.2.2.2) (g.2.2.2.2.2.2.1) (g.2.2.2.2.2.2.2.1) (g.1) ∧ OwnS dB 4 w' (g.2.2.2.2.2.2.2.2.2.2.2.2.2.2.2.2) (g.2.2.2.2.2.2.2.2.1) (g.2.2.2.2.2.2.2.2.2.1) (g.2.1) ∧ RepS (dI .i64) w' (g.2.2.2.2.2.2.2.2.2.2.2.2.2.2.2.2) (g.2.2.2.2.2.2.2.2.2.2.1) (g.2.2.1) ∧ RepS dB w' (g.2.2.2.2.2.2.2.2.2.2.2.2.2.2.2.2) (g.2.2.2.2.2.2.2.2.2.2.2.1) (g.2.2.2.1) ∧ OwnS (dI .i64) 3 w' (g.2.2.2.2.2.2.2.2.2.2.2.2.2.2.2.2) (g.2.2.2.2.2.2.2.2.2.2.2.2.1) (g.2.2.2.2.2.2.2.2.2.2.2.2.2.1) (g.2.2.2.2.1) ∧ OwnS (dI .i64) 3 w' (g.2.2.2.2.2.2.2.2.2.2.2.2.2.2.2.2) (g.2.2.2.2.2.2.2.2.2.2.2.2.2.2.1) (g.2.2.2.2.2.2.2.2.2.2.2.2.2.2.2.1) (g.2.2.2.2.2.1)) ?_ ?_
  ·
    apply go
    apply go
    refine ev0 (rn_len rfl rfl Tryd.underlying66 r_7) ?_
    apply go
    have hp := hp.perm [1, 2, 0, 4, 5, 3] (by decide)
    refine W.loop q_v (γ := (Value × Ent × Value × Ent × Value × Value × Value × Ent × Value × Ent × (Nat → Prop))) (fun s g => [(0, (.pointer (some ⟨g_1, 0, none⟩))), (2, (.int .i64 x_8)), (3, (.pointer (some ⟨g_a, 0, none⟩))), (12, v_6), (13, (.int .i64 (x_5.length : Int))), (14, (.int .i64 (s.2.2.2.2.2.2)))]) (fun s g w' => Hp ⟨w0, I0, B⟩ (g.2.2.2.2.2.2.2.2.2.2) [(g.2.1), (g.2.2.2.1), some (g_1, [v_3, (g.1), (g.2.2.1)], 108), (g.2.2.2.2.2.2.2.1), (g.2.2.2.2.2.2.2.2.2.1), some (g_a, [(g.2.2.2.2.1), (g.2.2.2.2.2.1), (g.2.2.2.2.2.2.1), (g.2.2.2.2.2.2.2.2.1)], 113)] w' ∧ RepS dNode_2 w' (g.2.2.2.2.2.2.2.2.2.2) v_3 x_0.nodes ∧ OwnS (dI .i64) 3 w' (g.2.2.2.2.2.2.2.2.2.2) (g.1) (g.2.1) (s.1) ∧ OwnS dB 4 w' (g.2.2.2.2.2.2.2.2.2.2) (g.2.2.1) (g.2.2.2.1) (s.2.1) ∧ RepS (dI .i64) w' (g.2.2.2.2.2.2.2.2.2.2) (g.2.2.2.2.1) (s.2.2.1) ∧ RepS dB w' (g.2.2.2.2.2.2.2.2.2.2) (g.2.2.2.2.2.1) (s.2.2.2.1) ∧ OwnS (dI .i64) 3 w' (g.2.2.2.2.2.2.2.2.2.2) (g.2.2.2.2.2.2.1) (g.2.2.2.2.2.2.2.1) (s.2.2.2.2.1) ∧ OwnS (dI .i64) 3 w' (g.2.2.2.2.2.2.2.2.2.2) (g.2.2.2.2.2.2.2.2.1) (g.2.2.2.2.2.2.2.2.2.1) (s.2.2.2.2.2.1) ∧ RepS (dI .i64) w' (g.2.2.2.2.2.2.2.2.2.2) v_6 x_5) (v_d, e_e, v_f, e_g, v_k, v_l, v_m, e_n, v_o, e_p, I0) (.c rfl (.c rfl (.c rfl (.c rfl (.c rfl (.c rfl .n)))))) ⟨hp, r_j, o_h, o_i, r_q, r_r, o_s, o_t, r_7⟩ ?_
    rintro ⟨x_w, x_x, x_y, x_z, x_10, x_11, x_12⟩ ⟨v_13, e_14, v_15, e_16, v_17, v_18, v_19, e_1a, v_1b, e_1c, I_1d⟩ w_1e y_1f ⟨hp, r_j, o_1g, o_1h, r_1i, r_1j, o_1k, o_1l, r_7⟩ q_1m q_1n
    unfold tree_Runner_chain_L1 at q_1m
    apply go
    apply go
    apply go
    apply go
    refine sel_of (fun hc => ?_) (fun hc => ?_)
    ·
      have q_1m := cond_t q_1m hc
      apply go
      apply go
      apply go
      apply go
      apply go
      obtain ⟨x_1o, q_1p, q_1m⟩ := bind_some q_1m
      refine ev_index rfl rfl rfl Tryd.underlying66 T3 r_7 q_1p ?_
      intro p_1q c_1r d_1s a_1t
      obtain rfl : c_1r = [(.int .i64 x_1o)] := d_1s
      refine ev (rn_load rfl rfl (run_loadVar1 T3 (a_1t.2 0 _ rfl))) ?_
      apply go
      apply go
      obtain ⟨⟨x_1u, x_1v, x_1w⟩, q_1x, q_1m⟩ := bind_some q_1m
      refine ev_call rfl rfl C51 ((Hf_tree_Runner_run _ _  (Runner.mk x_0.nodes x_w x_x) g_1 [some (g_1, [v_3, v_13, v_15], 108), e_14, e_16] v_3 ⟨v_13, e_14, v_15, e_16, rfl, o_1g, o_1h, r_j⟩ x_1o (Tick.mk x_y x_z x_10 x_11) g_a [some (g_a, [v_17, v_18, v_19, v_1b], 113), e_1a, e_1c] ⟨v_17, v_18, v_19, e_1a, v_1b, e_1c, rfl, r_1i, r_1j, o_1k, o_1l⟩ (hp.lendL [2, 0, 1, 5, 3, 4] (by decide)) _ q_1x).mono ?_)
      rintro _ w_1y ⟨I_1z, F_20, F_21, hv, hq1483, q_22, q_23⟩
      replace hv := hv.symm
      subst hv
      obtain ⟨v_24, e_25, v_26, e_27, rfl, o_28, o_29⟩ := q_22
      obtain ⟨v_2a, v_2b, v_2c, e_2d, v_2e, e_2f, rfl, r_2g, r_2h, o_2i, o_2j⟩ := q_23
      have hs := hq1483.st
      have hp := hp.backL [2, 0, 1, 5, 3, 4] [] (by decide) hq1483
      replace r_7 := r_7.step hs
      replace r_j := r_j.step hs
      apply go
      apply go
      apply go
      refine sel_of (fun hc => ?_) (fun hc => ?_)
      ·
        have q_1m := cond_t q_1m hc
        apply go
        apply go
        apply go
        have q_2k := congrArg some (q_1n _ (Option.some.inj q_1m).symm)
        obtain rfl := Option.some.inj q_2k
        obtain rfl := Option.some.inj h
        exact ⟨I_1z, [some (g_1, [v_3, v_24, v_26], 108), e_25, e_27], [some (g_a, [v_2a, v_2b, v_2c, v_2e], 113), e_2d, e_2f], rfl, hp, ⟨v_24, e_25, v_26, e_27, rfl, o_28, o_29⟩, ⟨v_2a, v_2b, v_2c, e_2d, v_2e, e_2f, rfl, r_2g, r_2h, o_2i, o_2j⟩⟩
      ·
        have q_1m := cond_f q_1m hc
        apply go
        apply go
        have hp := hp.perm [1, 2, 0, 4, 5, 3] (by decide)
        exact ⟨_, (Option.some.inj q_1m).symm, (v_24, e_25, v_26, e_27, v_2a, v_2b, v_2c, e_2d, v_2e, e_2f, I_1z), (.c rfl (.c rfl (.c rfl (.c rfl (.c rfl (.c rfl .n)))))), ⟨hp, r_j, o_28, o_29, r_2g, r_2h, o_2i, o_2j, r_7⟩⟩
    ·
      have q_1m := cond_f q_1m hc
      apply go
      have q_2l := congrArg some (q_1n _ (Option.some.inj q_1m).symm)
      obtain rfl := Option.some.inj q_2l
      exact ⟨(x_w, x_x, x_y, x_z, x_10, x_11, v_13, e_14, v_15, e_16, v_17, v_18, v_19, e_1a, v_1b, e_1c, I_1d), (.c rfl .n), rfl, hp, r_j, o_1g, o_1h, r_1i, r_1j, o_1k, o_1l⟩
  ·
    rintro ⟨x_2m, x_2n, x_2o, x_2p, x_2q, x_2r, v_2s, e_2t, v_2u, e_2v, v_2w, v_2x, v_2y, e_2z, v_30, e_31, I_32⟩ w_33 ⟨hy, hp, r_j, o_34, o_35, r_36, r_37, o_38, o_39⟩
    replace hy := hy.symm
    subst hy
    apply go
    apply go
    apply go
    obtain rfl := Option.some.inj h
    have hp := hp.perm [2, 0, 1, 5, 3, 4] (by decide)
    exact ⟨I_32, [some (g_1, [v_3, v_2s, v_2u], 108), e_2t, e_2v], [some (g_a, [v_2w, v_2x, v_2y, v_30], 113), e_2z, e_31], rfl, hp, ⟨v_2s, e_2t, v_2u, e_2v, rfl, o_34, o_35⟩, ⟨v_2w, v_2x, v_2y, e_2z, v_30, e_31, rfl, r_36, r_37, o_38, o_39⟩⟩

end Go.Proofs.YtcdboppghnchpaaDoor

namespace Go.Proofs.YtcdboppghnchpaaDoor
open Go Go.Proofs.YtcdboppghnchpaaDoor.Gw Go.RowKit
set_option linter.unusedVariables false
attribute [local irreducible] Ev EvQ EvS EvH
def tree_Runner_parallel_S (f : Runner → Node_2 → Tick → Option (Int × Runner × Tick)) : Prop := ∀ (w0 : World) (I0 : Nat → Prop) (x_0 : Runner) (g_1 : Nat) (E_2 : List Ent) (v_3 : Value) (q_4 : qR w0 I0 g_1 E_2 x_0 v_3) (x_5 : Node_2) (v_6 : Value) (r_7 : RepS (dI .i64) w0 I0 v_6 x_5.kids) (x_8 : Tick) (g_9 : Nat) (E_a : List Ent) (q_b : qK w0 I0 g_9 E_a x_8) (hp : Hp ⟨w0, I0, blks (E_2 ++ E_a)⟩ I0 (E_2 ++ E_a) w0) (r : (Int × Runner × Tick)), f x_0 x_5 x_8 = some r →
    Ret Tryd.prog 84 #[(.pointer (some ⟨g_1, 0, none⟩)), (.agg #[(.int .i64 x_5.kind), (.int .i64 x_5.name), (.int .i64 x_5.count), v_6]), (.pointer (some ⟨g_9, 0, none⟩))] w0 fun v w1 => ∃ (I1 : Nat → Prop) (u_c : List Ent) (u_d : List Ent), v = (.int .i64 r.1) ∧ Hp ⟨w0, I0, blks (E_2 ++ E_a)⟩ I1 (u_c ++ u_d) w1 ∧ qRz w1 I1 g_1 u_c r.2.1 v_3 ∧ qK w1 I1 g_9 u_d r.2.2
theorem tree_Runner_parallel_ok (n : Nat) (f_tree_Runner_run : (Runner → Int → Tick → Option (Int × Runner × Tick))) (Hf_tree_Runner_run : tree_Runner_run_S f_tree_Runner_run) : tree_Runner_parallel_S (tree_Runner_parallel n f_tree_Runner_run) := by
  intro w0 I0 x_0 g_1 E_2 v_3 q_4 x_5 v_6 r_7 x_8 g_9 E_a q_b hp r h
  unfold tree_Runner_parallel at h
  refine enter Tryd.func84 rfl (Nat.le_of_ble_eq_true rfl) ?_
  generalize blks (E_2 ++ E_a) = B at hp ⊢
  obtain ⟨v_c, e_d, v_e, e_f, rfl, o_g, o_h, r_i⟩ := q_4
  obtain ⟨v_j, v_k, v_l, e_m, v_n, e_o, rfl, r_p, r_q, o_r, o_s⟩ := q_b
  have hp : Hp ⟨w0, I0, B⟩ I0 [some (g_1, [v_3, v_c, v_e], 108), e_d, e_f, some (g_9, [v_j, v_k, v_l, v_n], 113), e_m, e_o] w0 := hp
  apply go
  apply go
  refine ev_boxI hp rfl rfl ?_
  intro p_t I_u w_v hp hs a_w
  replace r_7 := r_7.step hs
  replace r_i := r_i.step hs
  replace o_g := o_g.step hs
  replace o_h := o_h.step hs
  replace r_p := r_p.step hs
  replace r_q := r_q.step hs
  replace o_r := o_r.step hs
  replace o_s := o_s.step hs
  apply go
  apply go
  obtain ⟨y_x, q_y, h⟩ := bind_some h
  refine W.cut (γ := (Int × Int × (List Int) × (List Bool) × (List Int) × (List Bool) × (List Int) × (List Int) × Value × Ent × Value × Ent × Value × Value × Value × Ent × Value × Ent × (Nat → Prop))) (fun g => [(4, (.pointer (some (p_t)))), (7, (.int .i64 (g.1))), (8, (.int .i64 (g.2.1)))]) (fun g w' => y_x = ((g.1), (g.2.1), (g.2.2.1), (g.2.2.2.1), (g.2.2.2.2.1), (g.2.2.2.2.2.1), (g.2.2.2.2.2.2.1), (g.2.2.2.2.2.2.2.1)) ∧ Hp ⟨w0, I0, B⟩ (g.2.2.2.2.2.2.2.2.2.2.2.2.2.2.2.2.2.2) [(g.2.2.2.2.2.2.2.2.2.1), (g.2.2.2.2.2.2.2.2.2.2.2.1), some (g_1, [v_3, (g.2.2.2.2.2.2.2.2.1), (g.2.2.2.2.2.2.2.2.2.2.1)], 108), (g.2.2.2.2.2.2.2.2.2.2.2.2.2.2.2.1), (g.2.2.2.2.2.2.2.2.2.2.2.2.2.2.2.2.2.1), some (g_9, [(g.2.2.2.2.2.2.2.2.2.2.2.2.1), (g.2.2.2.2.2.2.2.2.2.2.2.2.2.1), (g.2.2.2.2.2.2.2.2.2.2.2.2.2.2.1), (g.2.2.2.2.2.2.2.2.2.2.2.2.2.2.2.2.1)], 113)] w' ∧ RepS (dI .i64) w' (g.2.2.2.2.2.2.2.2.2.2.2.2.2.2.2.2.2.2) v_6 x_5.kids ∧ At w' (g.2.2.2.2.2.2.2.2.2.2.2.2.2.2.2.2.2.2) p_t [(.int .i64 x_5.kind), (.int .i64 x_5.name), (.int .i64 x_5.count), v_6] ∧ RepS dNode_2 w' (g.2.2.2.2.2.2.2.2.2.2.2.2.2.2.2.2.2.2) v_3 x_0.nodes ∧ OwnS (dI .i64) 3 w' (g.2.2.2.2.2.2.2.2.2.2.2.2.2.2.2.2.2.2) (g.2.2.2.2.2.2.2.2.1) (g.2.2.2.2.2.2.2.2.2.1) (g.2.2.1) ∧ OwnS dB 4 w' (g.2.2.2.2.2.2.2.2.2.2.2.2.2.2.2.2.2.2) (g.2.2.2.2.2.2.2.2.2.2.1) (g.2.2.2.2.2.2.2.2.2.2.2.1) (g.2.2.2.1) ∧ RepS (dI .i64) w' (g.2.2.2.2.2.2.2.2.2.2.2.2.2.2.2.2.2.2) (g.2.2.2.2.2.2.2.2.2.2.2.2.1) (g.2.2.2.2.1) ∧ RepS dB w' (g.2.2.2.2.2.2.2.2.2.2.2.2.2.2.2.2.2.2) (g.2.2.2.2.2.2.2.2.2.2.2.2.2.1) (g.2.2.2.2.2.1) ∧ OwnS (dI .i64) 3 w' (g.2.2.2.2.2.2.2.2.2.2.2.2.2.2.2.2.2.2) (g.2.2.2.2.2.2.2.2.2.2.2.2.2.2.1) (g.2.2.2.2.2.2.2.2.2.2.2.2.2.2.2.1) (g.2.2.2.2.2.2.1) ∧ OwnS (dI .i64) 3 w' (g.2.2.2.2.2.2.2.2.2.2.2.2.2.2.2.2.2.2) (g.2.2.2.2.2.2.2.2.2.2.2.2.2.2.2.2.1) (g.2.2.2.2.2.2.2.2.2.2.2.2.2.2.2.2.2.1) (g.2.2.2.2.2.2.2.1)) ?_ ?_
  ·
    apply go
    apply go
    refine ev0 (rn_field rfl rfl FO117_3) ?_
    refine ev (rn_load rfl rfl (run_loadVar1 T66 (a_w.2 3 _ rfl))) ?_
    refine ev0 (rn_len rfl rfl Tryd.underlying66 r_7) ?_
    apply go
    have hp := hp.perm [1, 2, 0, 4, 5, 3] (by decide)
    refine W.loop q_y (γ := (Value × Ent × Value × Ent × Value × Value × Value × Ent × Value × Ent × (Nat → Prop))) (fun s g => [(0, (.pointer (some ⟨g_1, 0, none⟩))), (2, (.pointer (some ⟨g_9, 0, none⟩))), (4, (.pointer (some (p_t)))), (7, (.int .i64 (s.2.2.2.2.2.2.1))), (8, (.int .i64 (s.2.2.2.2.2.2.2.1))), (12, v_6), (13, (.int .i64 (x_5.kids.length : Int))), (14, (.int .i64 (s.2.2.2.2.2.2.2.2)))]) (fun s g w' => Hp ⟨w0, I0, B⟩ (g.2.2.2.2.2.2.2.2.2.2) [(g.2.1), (g.2.2.2.1), some (g_1, [v_3, (g.1), (g.2.2.1)], 108), (g.2.2.2.2.2.2.2.1), (g.2.2.2.2.2.2.2.2.2.1), some (g_9, [(g.2.2.2.2.1), (g.2.2.2.2.2.1), (g.2.2.2.2.2.2.1), (g.2.2.2.2.2.2.2.2.1)], 113)] w' ∧ RepS dNode_2 w' (g.2.2.2.2.2.2.2.2.2.2) v_3 x_0.nodes ∧ OwnS (dI .i64) 3 w' (g.2.2.2.2.2.2.2.2.2.2) (g.1) (g.2.1) (s.1) ∧ OwnS dB 4 w' (g.2.2.2.2.2.2.2.2.2.2) (g.2.2.1) (g.2.2.2.1) (s.2.1) ∧ RepS (dI .i64) w' (g.2.2.2.2.2.2.2.2.2.2) (g.2.2.2.2.1) (s.2.2.1) ∧ RepS dB w' (g.2.2.2.2.2.2.2.2.2.2) (g.2.2.2.2.2.1) (s.2.2.2.1) ∧ OwnS (dI .i64) 3 w' (g.2.2.2.2.2.2.2.2.2.2) (g.2.2.2.2.2.2.1) (g.2.2.2.2.2.2.2.1) (s.2.2.2.2.1) ∧ OwnS (dI .i64) 3 w' (g.2.2.2.2.2.2.2.2.2.2) (g.2.2.2.2.2.2.2.2.1) (g.2.2.2.2.2.2.2.2.2.1) (s.2.2.2.2.2.1) ∧ RepS (dI .i64) w' (g.2.2.2.2.2.2.2.2.2.2) v_6 x_5.kids ∧ At w' (g.2.2.2.2.2.2.2.2.2.2) p_t [(.int .i64 x_5.kind), (.int .i64 x_5.name), (.int .i64 x_5.count), v_6]) (v_c, e_d, v_e, e_f, v_j, v_k, v_l, e_m, v_n, e_o, I_u) (.c rfl (.c rfl (.c rfl (.c rfl (.c rfl (.c rfl (.c rfl (.c rfl .n)))))))) ⟨hp, r_i, o_g, o_h, r_p, r_q, o_r, o_s, r_7, a_w⟩ ?_
    rintro ⟨x_z, x_10, x_11, x_12, x_13, x_14, x_15, x_16, x_17⟩ ⟨v_18, e_19, v_1a, e_1b, v_1c, v_1d, v_1e, e_1f, v_1g, e_1h, I_1i⟩ w_1j y_1k ⟨hp, r_i, o_1l, o_1m, r_1n, r_1o, o_1p, o_1q, r_7, a_w⟩ q_1r q_1s
    unfold tree_Runner_parallel_L1 at q_1r
    apply go
    apply go
    apply go
    apply go
    refine sel_of (fun hc => ?_) (fun hc => ?_)
    ·
      have q_1r := cond_t q_1r hc
      apply go
      obtain ⟨y_1t, q_1u, q_1r⟩ := bind_some q_1r
      refine W.cut (γ := ((List Int) × (List Bool) × (List Int) × (List Bool) × (List Int) × (List Int) × Int × Int × Value × Ent × Value × Ent × Value × Value × Value × Ent × Value × Ent × (Nat → Prop))) (fun g => [(0, (.pointer (some ⟨g_1, 0, none⟩))), (2, (.pointer (some ⟨g_9, 0, none⟩))), (4, (.pointer (some (p_t)))), (7, (.int .i64 (g.2.2.2.2.2.2.1))), (8, (.int .i64 (g.2.2.2.2.2.2.2.1))), (12, v_6), (13, (.int .i64 (x_5.kids.length : Int))), (14, (.int .i64 x_17))]) (fun g w' => y_1t = ((g.1), (g.2.1), (g.2.2.1), (g.2.2.2.1), (g.2.2.2.2.1), (g.2.2.2.2.2.1), (g.2.2.2.2.2.2.1), (g.2.2.2.2.2.2.2.1)) ∧ Hp ⟨w0, I0, B⟩ (g.2.2.2.2.2.2.2.2.2.2.2.2.2.2.2.2.2.2) [(g.2.2.2.2.2.2.2.2.2.1), (g.2.2.2.2.2.2.2.2.2.2.2.1), some (g_1, [v_3, (g.2.2.2.2.2.2.2.2.1), (g.2.2.2.2.2.2.2.2.2.2.1)], 108), (g.2.2.2.2.2.2.2.2.2.2.2.2.2.2.2.1), (g.2.2.2.2.2.2.2.2.2.2.2.2.2.2.2.2.2.1), some (g_9, [(g.2.2.2.2.2.2.2.2.2.2.2.2.1), (g.2.2.2.2.2.2.2.2.2.2.2.2.2.1), (g.2.2.2.2.2.2.2.2.2.2.2.2.2.2.1), (g.2.2.2.2.2.2.2.2.2.2.2.2.2.2.2.2.1)], 113)] w' ∧ RepS dNode_2 w' (g.2.2.2.2.2.2.2.2.2.2.2.2.2.2.2.2.2.2) v_3 x_0.nodes ∧ OwnS (dI .i64) 3 w' (g.2.2.2.2.2.2.2.2.2.2.2.2.2.2.2.2.2.2) (g.2.2.2.2.2.2.2.2.1) (g.2.2.2.2.2.2.2.2.2.1) (g.1) ∧ OwnS dB 4 w' (g.2.2.2.2.2.2.2.2.2.2.2.2.2.2.2.2.2.2) (g.2.2.2.2.2.2.2.2.2.2.1) (g.2.2.2.2.2.2.2.2.2.2.2.1) (g.2.1) ∧ RepS (dI .i64) w' (g.2.2.2.2.2.2.2.2.2.2.2.2.2.2.2.2.2.2) (g.2.2.2.2.2.2.2.2.2.2.2.2.1) (g.2.2.1) ∧ RepS dB w' (g.2.2.2.2.2.2.2.2.2.2.2.2.2.2.2.2.2.2) (g.2.2.2.2.2.2.2.2.2.2.2.2.2.1) (g.2.2.2.1) ∧ OwnS (dI .i64) 3 w' (g.2.2.2.2.2.2.2.2.2.2.2.2.2.2.2.2.2.2) (g.2.2.2.2.2.2.2.2.2.2.2.2.2.2.1) (g.2.2.2.2.2.2.2.2.2.2.2.2.2.2.2.1) (g.2.2.2.2.1) ∧ OwnS (dI .i64) 3 w' (g.2.2.2.2.2.2.2.2.2.2.2.2.2.2.2.2.2.2) (g.2.2.2.2.2.2.2.2.2.2.2.2.2.2.2.2.1) (g.2.2.2.2.2.2.2.2.2.2.2.2.2.2.2.2.2.1) (g.2.2.2.2.2.1) ∧ RepS (dI .i64) w' (g.2.2.2.2.2.2.2.2.2.2.2.2.2.2.2.2.2.2) v_6 x_5.kids ∧ At w' (g.2.2.2.2.2.2.2.2.2.2.2.2.2.2.2.2.2.2) p_t [(.int .i64 x_5.kind), (.int .i64 x_5.name), (.int .i64 x_5.count), v_6]) ?_ ?_
      ·
        apply go
        apply go
        apply go
        obtain ⟨x_1v, q_1w, q_1u⟩ := bind_some q_1u
        refine ev_index rfl rfl rfl Tryd.underlying66 T3 r_7 q_1w ?_
        intro p_1x c_1y d_1z a_20
        obtain rfl : c_1y = [(.int .i64 x_1v)] := d_1z
        refine ev (rn_load rfl rfl (run_loadVar1 T3 (a_20.2 0 _ rfl))) ?_
        apply go
        apply go
        obtain ⟨⟨x_21, x_22, x_23⟩, q_24, q_1u⟩ := bind_some q_1u
        refine ev_call rfl rfl C51 ((Hf_tree_Runner_run _ _  (Runner.mk x_0.nodes x_z x_10) g_1 [some (g_1, [v_3, v_18, v_1a], 108), e_19, e_1b] v_3 ⟨v_18, e_19, v_1a, e_1b, rfl, o_1l, o_1m, r_i⟩ x_1v (Tick.mk x_11 x_12 x_13 x_14) g_9 [some (g_9, [v_1c, v_1d, v_1e, v_1g], 113), e_1f, e_1h] ⟨v_1c, v_1d, v_1e, e_1f, v_1g, e_1h, rfl, r_1n, r_1o, o_1p, o_1q⟩ (hp.lendL [2, 0, 1, 5, 3, 4] (by decide)) _ q_24).mono ?_)
        rintro _ w_25 ⟨I_26, F_27, F_28, hv, hq2238, q_29, q_2a⟩
        replace hv := hv.symm
        subst hv
        obtain ⟨v_2b, e_2c, v_2d, e_2e, rfl, o_2f, o_2g⟩ := q_29
        obtain ⟨v_2h, v_2i, v_2j, e_2k, v_2l, e_2m, rfl, r_2n, r_2o, o_2p, o_2q⟩ := q_2a
        have hs := hq2238.st
        have hp := hp.backL [2, 0, 1, 5, 3, 4] [] (by decide) hq2238
        replace a_w := a_w.step hs
        replace r_7 := r_7.step hs
        replace r_i := r_i.step hs
        apply go
        apply go
        apply go
        apply go
        refine sel_of (fun hc => ?_) (fun hc => ?_)
        ·
          have q_1u := cond_t q_1u hc
          apply go
          obtain rfl := Option.some.inj q_1u
          have hp := hp.perm [1, 2, 0, 4, 5, 3] (by decide)
          exact ⟨(x_22.counters, x_22.active, x_23.actions, x_23.tests, x_23.status, x_23.ticked, (IntKind.i64.wrap (x_15 + 1)), x_16, v_2b, e_2c, v_2d, e_2e, v_2h, v_2i, v_2j, e_2k, v_2l, e_2m, I_26), (.c rfl (.c rfl (.c rfl (.c rfl (.c rfl (.c rfl (.c rfl (.c rfl .n)))))))), rfl, hp, r_i, o_2f, o_2g, r_2n, r_2o, o_2p, o_2q, r_7, a_w⟩
        ·
          have q_1u := cond_f q_1u hc
          apply go
          apply go
          apply go
          refine sel_of (fun hc => ?_) (fun hc => ?_)
          ·
            have q_1u := cond_t q_1u hc
            apply go
            obtain rfl := Option.some.inj q_1u
            have hp := hp.perm [1, 2, 0, 4, 5, 3] (by decide)
            exact ⟨(x_22.counters, x_22.active, x_23.actions, x_23.tests, x_23.status, x_23.ticked, x_15, (IntKind.i64.wrap (x_16 + 1)), v_2b, e_2c, v_2d, e_2e, v_2h, v_2i, v_2j, e_2k, v_2l, e_2m, I_26), (.c rfl (.c rfl (.c rfl (.c rfl (.c rfl (.c rfl (.c rfl (.c rfl .n)))))))), rfl, hp, r_i, o_2f, o_2g, r_2n, r_2o, o_2p, o_2q, r_7, a_w⟩
          ·
            have q_1u := cond_f q_1u hc
            apply go
            obtain rfl := Option.some.inj q_1u
            have hp := hp.perm [1, 2, 0, 4, 5, 3] (by decide)
            exact ⟨(x_22.counters, x_22.active, x_23.actions, x_23.tests, x_23.status, x_23.ticked, x_15, x_16, v_2b, e_2c, v_2d, e_2e, v_2h, v_2i, v_2j, e_2k, v_2l, e_2m, I_26), (.c rfl (.c rfl (.c rfl (.c rfl (.c rfl (.c rfl (.c rfl (.c rfl .n)))))))), rfl, hp, r_i, o_2f, o_2g, r_2n, r_2o, o_2p, o_2q, r_7, a_w⟩
      ·
        rintro ⟨x_2r, x_2s, x_2t, x_2u, x_2v, x_2w, x_2x, x_2y, v_2z, e_30, v_31, e_32, v_33, v_34, v_35, e_36, v_37, e_38, I_39⟩ w_3a ⟨hy, hp, r_i, o_3b, o_3c, r_3d, r_3e, o_3f, o_3g, r_7, a_w⟩
        replace hy := hy.symm
        subst hy
        apply go
        exact ⟨_, (Option.some.inj q_1r).symm, (v_2z, e_30, v_31, e_32, v_33, v_34, v_35, e_36, v_37, e_38, I_39), (.c rfl (.c rfl (.c rfl (.c rfl (.c rfl (.c rfl (.c rfl (.c rfl .n)))))))), ⟨hp, r_i, o_3b, o_3c, r_3d, r_3e, o_3f, o_3g, r_7, a_w⟩⟩
    ·
      have q_1r := cond_f q_1r hc
      apply go
      have q_3h := congrArg some (q_1s _ (Option.some.inj q_1r).symm)
      obtain rfl := Option.some.inj q_3h
      exact ⟨(x_15, x_16, x_z, x_10, x_11, x_12, x_13, x_14, v_18, e_19, v_1a, e_1b, v_1c, v_1d, v_1e, e_1f, v_1g, e_1h, I_1i), (.c rfl (.c rfl (.c rfl .n))), rfl, hp, r_7, a_w, r_i, o_1l, o_1m, r_1n, r_1o, o_1p, o_1q⟩
  ·
    rintro ⟨x_3i, x_3j, x_3k, x_3l, x_3m, x_3n, x_3o, x_3p, v_3q, e_3r, v_3s, e_3t, v_3u, v_3v, v_3w, e_3x, v_3y, e_3z, I_40⟩ w_41 ⟨hy, hp, r_7, a_w, r_i, o_42, o_43, r_44, r_45, o_46, o_47⟩
    replace hy := hy.symm
    subst hy
    apply go
    apply go
    apply go
    apply go
    refine ev0 (rn_field rfl rfl FO117_2) ?_
    refine ev (rn_load rfl rfl (run_loadVar1 T3 (a_w.2 2 _ rfl))) ?_
    apply go
    refine sel_of (fun hc => ?_) (fun hc => ?_)
    ·
      have h := cond_t h hc
      apply go
      apply go
      apply go
      obtain rfl := Option.some.inj h
      have hp := hp.perm [2, 0, 1, 5, 3, 4] (by decide)
      exact ⟨I_40, [some (g_1, [v_3, v_3q, v_3s], 108), e_3r, e_3t], [some (g_9, [v_3u, v_3v, v_3w, v_3y], 113), e_3x, e_3z], rfl, hp, ⟨v_3q, e_3r, v_3s, e_3t, rfl, o_42, o_43⟩, ⟨v_3u, v_3v, v_3w, e_3x, v_3y, e_3z, rfl, r_44, r_45, o_46, o_47⟩⟩
    ·
      have h := cond_f h hc
      apply go
      apply go
      refine ev0 (rn_field rfl rfl FO117_3) ?_
      refine ev (rn_load rfl rfl (run_loadVar1 T66 (a_w.2 3 _ rfl))) ?_
      refine ev0 (rn_len rfl rfl Tryd.underlying66 r_7) ?_
      refine ev0 (rn_field rfl rfl FO117_2) ?_
      refine ev (rn_load rfl rfl (run_loadVar1 T3 (a_w.2 2 _ rfl))) ?_
      apply go
      refine sel_of (fun hc => ?_) (fun hc => ?_)
      ·
        have h := cond_t h hc
        apply go
        apply go
        apply go
        obtain rfl := Option.some.inj h
        have hp := hp.perm [2, 0, 1, 5, 3, 4] (by decide)
        exact ⟨I_40, [some (g_1, [v_3, v_3q, v_3s], 108), e_3r, e_3t], [some (g_9, [v_3u, v_3v, v_3w, v_3y], 113), e_3x, e_3z], rfl, hp, ⟨v_3q, e_3r, v_3s, e_3t, rfl, o_42, o_43⟩, ⟨v_3u, v_3v, v_3w, e_3x, v_3y, e_3z, rfl, r_44, r_45, o_46, o_47⟩⟩
      ·
        have h := cond_f h hc
        apply go
        apply go
        apply go
        apply go
        obtain rfl := Option.some.inj h
        have hp := hp.perm [2, 0, 1, 5, 3, 4] (by decide)
        exact ⟨I_40, [some (g_1, [v_3, v_3q, v_3s], 108), e_3r, e_3t], [some (g_9, [v_3u, v_3v, v_3w, v_3y], 113), e_3x, e_3z], rfl, hp, ⟨v_3q, e_3r, v_3s, e_3t, rfl, o_42, o_43⟩, ⟨v_3u, v_3v, v_3w, e_3x, v_3y, e_3z, rfl, r_44, r_45, o_46, o_47⟩⟩

end Go.Proofs.YtcdboppghnchpaaDoor

namespace Go.Proofs.YtcdboppghnchpaaDoor
open Go Go.Proofs.YtcdboppghnchpaaDoor.Gw Go.RowKit
set_option linter.unusedVariables false
attribute [local irreducible] Ev EvQ EvS EvH
def tree_Runner_decorate_S (f : Runner → Int → Tick → Option (Int × Runner × Tick)) : Prop := ∀ (w0 : World) (I0 : Nat → Prop) (x_0 : Runner) (g_1 : Nat) (E_2 : List Ent) (v_3 : Value) (q_4 : qR w0 I0 g_1 E_2 x_0 v_3) (x_5 : Int) (x_6 : Tick) (g_7 : Nat) (E_8 : List Ent) (q_9 : qK w0 I0 g_7 E_8 x_6) (hp : Hp ⟨w0, I0, blks (E_2 ++ E_8)⟩ I0 (E_2 ++ E_8) w0) (r : (Int × Runner × Tick)), f x_0 x_5 x_6 = some r →
    Ret Tryd.prog 85 #[(.pointer (some ⟨g_1, 0, none⟩)), (.int .i64 x_5), (.pointer (some ⟨g_7, 0, none⟩))] w0 fun v w1 => ∃ (I1 : Nat → Prop) (u_a : List Ent) (u_b : List Ent), v = (.int .i64 r.1) ∧ Hp ⟨w0, I0, blks (E_2 ++ E_8)⟩ I1 (u_a ++ u_b) w1 ∧ qRz w1 I1 g_1 u_a r.2.1 v_3 ∧ qK w1 I1 g_7 u_b r.2.2
theorem tree_Runner_decorate_ok (n : Nat) (f_tree_Runner_run : (Runner → Int → Tick → Option (Int × Runner × Tick))) (Hf_tree_Runner_run : tree_Runner_run_S f_tree_Runner_run) : tree_Runner_decorate_S (tree_Runner_decorate n f_tree_Runner_run) := by
  intro w0 I0 x_0 g_1 E_2 v_3 q_4 x_5 x_6 g_7 E_8 q_9 hp r h
  unfold tree_Runner_decorate at h
  refine enter Tryd.func85 rfl (Nat.le_of_ble_eq_true rfl) ?_
  generalize blks (E_2 ++ E_8) = B at hp ⊢
  obtain ⟨v_a, e_b, v_c, e_d, rfl, o_e, o_f, r_g⟩ := q_4
  obtain ⟨v_h, v_i, v_j, e_k, v_l, e_m, rfl, r_n, r_o, o_p, o_q⟩ := q_9
  have hp : Hp ⟨w0, I0, B⟩ I0 [some (g_1, [v_3, v_a, v_c], 108), e_b, e_d, some (g_7, [v_h, v_i, v_j, v_l], 113), e_k, e_m] w0 := hp
  apply go
  apply go
  apply go
  apply go
  refine ev0 (rn_field rfl rfl FO108_0) ?_
  refine ev (rn_load rfl rfl (run_loadVar1 T106 (hp.cell (i := 0) (off := 0) rfl rfl))) ?_
  obtain ⟨x_r, q_s, h⟩ := bind_some h
  refine ev_index rfl rfl rfl Tryd.underlying106 T117 r_g q_s ?_
  intro p_t c_u d_v a_w
  obtain ⟨v_x, rfl, r_y⟩ := dNode_2_o d_v
  refine ev (rn_load rfl rfl (run_loadVarA T117 rfl a_w)) ?_
  refine ev_alloc hp rfl T117 ?_
  intro g_z w_10 hp hs
  replace r_y := r_y.step hs
  replace r_g := r_g.step hs
  replace o_e := o_e.step hs
  replace o_f := o_f.step hs
  replace r_n := r_n.step hs
  replace r_o := r_o.step hs
  replace o_p := o_p.step hs
  replace o_q := o_q.step hs
  refine ev_storeA hp (i := 0) (off := 0) (vs := [(.int .i64 x_r.kind), (.int .i64 x_r.name), (.int .i64 x_r.count), v_x]) rfl rfl rfl rfl T117 rfl (Nat.le_of_ble_eq_true rfl) (ones_cons rfl (ones_cons rfl (ones_cons rfl (ones_cons r_y.one ones_nil)))) ?_
  intro w_11 hp hs
  replace r_y := r_y.step hs
  replace r_g := r_g.step hs
  replace o_e := o_e.step hs
  replace o_f := o_f.step hs
  replace r_n := r_n.step hs
  replace r_o := r_o.step hs
  replace o_p := o_p.step hs
  replace o_q := o_q.step hs
  apply go
  apply go
  refine ev0 (rn_field rfl rfl FO117_3) ?_
  refine ev (rn_load rfl rfl (run_loadVar1 T66 (hp.cell (i := 0) (off := 3) rfl rfl))) ?_
  obtain ⟨x_12, q_13, h⟩ := bind_some h
  refine ev_index rfl rfl rfl Tryd.underlying66 T3 r_y q_13 ?_
  intro p_14 c_15 d_16 a_17
  obtain rfl : c_15 = [(.int .i64 x_12)] := d_16
  refine ev (rn_load rfl rfl (run_loadVar1 T3 (a_17.2 0 _ rfl))) ?_
  obtain ⟨⟨x_18, x_19, x_1a⟩, q_1b, h⟩ := bind_some h
  refine ev_call rfl rfl C51 ((Hf_tree_Runner_run _ _  (Runner.mk x_0.nodes x_0.counters x_0.active) g_1 [some (g_1, [v_3, v_a, v_c], 108), e_b, e_d] v_3 ⟨v_a, e_b, v_c, e_d, rfl, o_e, o_f, r_g⟩ x_12 (Tick.mk x_6.actions x_6.tests x_6.status x_6.ticked) g_7 [some (g_7, [v_h, v_i, v_j, v_l], 113), e_k, e_m] ⟨v_h, v_i, v_j, e_k, v_l, e_m, rfl, r_n, r_o, o_p, o_q⟩ (hp.lendL [1, 2, 3, 4, 5, 6] (by decide)) _ q_1b).mono ?_)
  rintro _ w_1c ⟨I_1d, F_1e, F_1f, hv, hq2313, q_1g, q_1h⟩
  replace hv := hv.symm
  subst hv
  obtain ⟨v_1i, e_1j, v_1k, e_1l, rfl, o_1m, o_1n⟩ := q_1g
  obtain ⟨v_1o, v_1p, v_1q, e_1r, v_1s, e_1t, rfl, r_1u, r_1v, o_1w, o_1x⟩ := q_1h
  have hs := hq2313.st
  have hp := hp.backL [1, 2, 3, 4, 5, 6] [0] (by decide) hq2313
  replace r_g := r_g.step hs
  replace r_y := r_y.step hs
  obtain ⟨y_1y, q_1z, h⟩ := bind_some h
  refine W.cut (γ := ((List Int) × Ent)) (fun g => [(8, (.int .i64 x_18))]) (fun g w' => y_1y = .go (g.1) ∧ Hp ⟨w0, I0, B⟩ I_1d [(g.2), e_1l, some (g_1, [v_3, v_1i, v_1k], 108), e_1r, e_1t, some (g_7, [v_1o, v_1p, v_1q, v_1s], 113)] w' ∧ RepS dNode_2 w' I_1d v_3 x_0.nodes ∧ OwnS (dI .i64) 3 w' I_1d v_1i (g.2) (g.1) ∧ OwnS dB 4 w' I_1d v_1k e_1l x_19.active ∧ RepS (dI .i64) w' I_1d v_1o x_1a.actions ∧ RepS dB w' I_1d v_1p x_1a.tests ∧ OwnS (dI .i64) 3 w' I_1d v_1q e_1r x_1a.status ∧ OwnS (dI .i64) 3 w' I_1d v_1s e_1t x_1a.ticked) ?_ ?_
  ·
    apply go
    obtain ⟨y_20, q_21, q_1z⟩ := bind_some q_1z
    refine W.cut (γ := Bool) (fun g => [(0, (.pointer (some ⟨g_1, 0, none⟩))), (1, (.int .i64 x_5)), (7, (.pointer (some ⟨g_z, 0, none⟩))), (8, (.int .i64 x_18)), (23, (.bool (g)))]) (fun g w' => y_20 = (g) ∧ w_1c = w') ?_ ?_
    ·
      apply go
      refine ev0 (rn_field rfl rfl FO117_0) ?_
      refine ev (rn_load rfl rfl (run_loadVar1 T3 (hp.cell (i := 6) (off := 0) rfl rfl))) ?_
      refine sel_of (fun hc => ?_) (fun hc => ?_)
      ·
        have q_21 := cond_t q_21 hc
        obtain rfl := Option.some.inj q_21
        exact ⟨(x_18 != 1), (.c rfl (.c rfl (.c rfl (.c rfl (.c rfl .n))))), rfl, rfl⟩
      ·
        have q_21 := cond_f q_21 hc
        obtain rfl := Option.some.inj q_21
        exact ⟨false, (.c rfl (.c rfl (.c rfl (.c rfl (.c rfl .n))))), rfl, rfl⟩
    ·
      rintro x_22 _ ⟨hy, rfl⟩
      replace hy := hy.symm
      subst hy
      apply go
      refine sel_of (fun hc => ?_) (fun hc => ?_)
      ·
        have q_1z := cond_t q_1z hc
        apply go
        apply go
        apply go
        obtain rfl := Option.some.inj q_1z
        obtain rfl := Option.some.inj h
        have hp := hp.sel [0, 1, 2, 3, 4, 5] (by decide)
        exact ⟨I_1d, [some (g_1, [v_3, v_1i, v_1k], 108), e_1j, e_1l], [some (g_7, [v_1o, v_1p, v_1q, v_1s], 113), e_1r, e_1t], rfl, hp, ⟨v_1i, e_1j, v_1k, e_1l, rfl, o_1m, o_1n⟩, ⟨v_1o, v_1p, v_1q, e_1r, v_1s, e_1t, rfl, r_1u, r_1v, o_1w, o_1x⟩⟩
      ·
        have q_1z := cond_f q_1z hc
        obtain ⟨y_23, q_24, q_1z⟩ := bind_some q_1z
        refine W.cut (γ := Bool) (fun g => [(0, (.pointer (some ⟨g_1, 0, none⟩))), (1, (.int .i64 x_5)), (7, (.pointer (some ⟨g_z, 0, none⟩))), (8, (.int .i64 x_18)), (33, (.bool (g)))]) (fun g w' => y_23 = (g) ∧ w_1c = w') ?_ ?_
        ·
          apply go
          refine ev0 (rn_field rfl rfl FO117_0) ?_
          refine ev (rn_load rfl rfl (run_loadVar1 T3 (hp.cell (i := 6) (off := 0) rfl rfl))) ?_
          refine sel_of (fun hc => ?_) (fun hc => ?_)
          ·
            have q_24 := cond_t q_24 hc
            obtain rfl := Option.some.inj q_24
            exact ⟨(x_18 == 3), (.c rfl (.c rfl (.c rfl (.c rfl (.c rfl .n))))), rfl, rfl⟩
          ·
            have q_24 := cond_f q_24 hc
            obtain rfl := Option.some.inj q_24
            exact ⟨false, (.c rfl (.c rfl (.c rfl (.c rfl (.c rfl .n))))), rfl, rfl⟩
        ·
          rintro x_25 _ ⟨hy, rfl⟩
          replace hy := hy.symm
          subst hy
          apply go
          refine sel_of (fun hc => ?_) (fun hc => ?_)
          ·
            have q_1z := cond_t q_1z hc
            apply go
            apply go
            refine ev0 (rn_field rfl rfl FO108_1) ?_
            refine ev (rn_load rfl rfl (run_loadVar1 T66 (hp.cell (i := 0) (off := 1) rfl rfl))) ?_
            obtain ⟨x_26, q_27, q_1z⟩ := bind_some q_1z
            refine ev_indexO rfl rfl rfl Tryd.underlying66 T3 o_1m q_27 ?_
            intro g_28 c_29 h_2a d_2b l_2c
            refine ev (rn_load rfl rfl (run_loadVar1 T3 (hp.cellE (i := 1) rfl h_2a d_2b (j := 0) rfl))) ?_
            obtain ⟨x_2d, q_2e, q_1z⟩ := bind_some q_1z
            refine ev_indexO rfl rfl rfl Tryd.underlying66 T3 o_1m q_2e ?_
            intro g_2f c_2g h_2h d_2i l_2j
            refine ev_storeE hp (i := 1) rfl h_2h rfl rfl rfl T3 o_1m q_2e (x0 := (IntKind.i64.wrap (x_26 + 1))) rfl ?_
            intro e_2k w_2l hp hs o_2m
            replace r_g := r_g.step hs
            replace o_1n := o_1n.step hs
            replace r_1u := r_1u.step hs
            replace r_1v := r_1v.step hs
            replace o_1w := o_1w.step hs
            replace o_1x := o_1x.step hs
            replace r_y := r_y.step hs
            apply go
            refine W.quiet (fun w' => Ch [] w_2l w') MX (by kernel_rfl) (Ch.drew [] w_2l) ?_
            refine evq0 (rn_field rfl rfl FO108_1) ?_
            refine evq (fun w' hw => rn_load rfl rfl (run_loadVar1 T66 ((hp.ext hw).cell (i := 0) (off := 1) rfl rfl))) ?_
            obtain ⟨x_2n, q_2o, q_1z⟩ := bind_some q_1z
            refine evq_indexO rfl rfl rfl Tryd.underlying66 T3 o_2m q_2o ?_
            intro g_2p c_2q h_2r d_2s l_2t
            refine evq (fun w' hw => rn_load rfl rfl (run_loadVar1 T3 ((hp.ext hw).cellE (i := 1) rfl h_2r d_2s (j := 0) rfl))) ?_
            refine evq0 (rn_field rfl rfl FO117_2) ?_
            refine evq (fun w' hw => rn_load rfl rfl (run_loadVar1 T3 ((hp.ext hw).cell (i := 6) (off := 2) rfl rfl))) ?_
            intro w_2u hc
            have hs := hp.stp hc
            replace hp := hp.ext hc
            replace r_g := r_g.step hs
            replace o_2m := o_2m.step hs
            replace o_1n := o_1n.step hs
            replace r_1u := r_1u.step hs
            replace r_1v := r_1v.step hs
            replace o_1w := o_1w.step hs
            replace o_1x := o_1x.step hs
            replace r_y := r_y.step hs
            apply go
            refine sel_of (fun hc => ?_) (fun hc => ?_)
            ·
              have q_1z := cond_t q_1z hc
              apply go
              apply go
              apply go
              obtain rfl := Option.some.inj q_1z
              obtain rfl := Option.some.inj h
              have hp := hp.sel [0, 1, 2, 3, 4, 5] (by decide)
              exact ⟨I_1d, [some (g_1, [v_3, v_1i, v_1k], 108), e_2k, e_1l], [some (g_7, [v_1o, v_1p, v_1q, v_1s], 113), e_1r, e_1t], rfl, hp, ⟨v_1i, e_2k, v_1k, e_1l, rfl, o_2m, o_1n⟩, ⟨v_1o, v_1p, v_1q, e_1r, v_1s, e_1t, rfl, r_1u, r_1v, o_1w, o_1x⟩⟩
            ·
              have q_1z := cond_f q_1z hc
              apply go
              obtain rfl := Option.some.inj q_1z
              have hp := hp.perm [1, 2, 0, 4, 5, 3] (by decide)
              exact ⟨((upd x_19.counters x_5 (IntKind.i64.wrap (x_26 + 1))), e_2k), (.c rfl .n), rfl, hp, r_g, o_2m, o_1n, r_1u, r_1v, o_1w, o_1x⟩
          ·
            have q_1z := cond_f q_1z hc
            obtain ⟨y_2v, q_2w, q_1z⟩ := bind_some q_1z
            refine W.cut (γ := Bool) (fun g => [(0, (.pointer (some ⟨g_1, 0, none⟩))), (1, (.int .i64 x_5)), (7, (.pointer (some ⟨g_z, 0, none⟩))), (8, (.int .i64 x_18)), (60, (.bool (g)))]) (fun g w' => y_2v = (g) ∧ w_1c = w') ?_ ?_
            ·
              apply go
              refine ev0 (rn_field rfl rfl FO117_0) ?_
              refine ev (rn_load rfl rfl (run_loadVar1 T3 (hp.cell (i := 6) (off := 0) rfl rfl))) ?_
              refine sel_of (fun hc => ?_) (fun hc => ?_)
              ·
                have q_2w := cond_t q_2w hc
                obtain rfl := Option.some.inj q_2w
                exact ⟨(x_18 == 1), (.c rfl (.c rfl (.c rfl (.c rfl (.c rfl .n))))), rfl, rfl⟩
              ·
                have q_2w := cond_f q_2w hc
                obtain rfl := Option.some.inj q_2w
                exact ⟨false, (.c rfl (.c rfl (.c rfl (.c rfl (.c rfl .n))))), rfl, rfl⟩
            ·
              rintro x_2x _ ⟨hy, rfl⟩
              replace hy := hy.symm
              subst hy
              apply go
              refine sel_of (fun hc => ?_) (fun hc => ?_)
              ·
                have q_1z := cond_t q_1z hc
                apply go
                apply go
                refine ev0 (rn_field rfl rfl FO108_1) ?_
                refine ev (rn_load rfl rfl (run_loadVar1 T66 (hp.cell (i := 0) (off := 1) rfl rfl))) ?_
                obtain ⟨x_2y, q_2z, q_1z⟩ := bind_some q_1z
                refine ev_indexO rfl rfl rfl Tryd.underlying66 T3 o_1m q_2z ?_
                intro g_30 c_31 h_32 d_33 l_34
                refine ev (rn_load rfl rfl (run_loadVar1 T3 (hp.cellE (i := 1) rfl h_32 d_33 (j := 0) rfl))) ?_
                obtain ⟨x_35, q_36, q_1z⟩ := bind_some q_1z
                refine ev_indexO rfl rfl rfl Tryd.underlying66 T3 o_1m q_36 ?_
                intro g_37 c_38 h_39 d_3a l_3b
                refine ev_storeE hp (i := 1) rfl h_39 rfl rfl rfl T3 o_1m q_36 (x0 := (IntKind.i64.wrap (x_2y + 1))) rfl ?_
                intro e_3c w_3d hp hs o_3e
                replace r_g := r_g.step hs
                replace o_1n := o_1n.step hs
                replace r_1u := r_1u.step hs
                replace r_1v := r_1v.step hs
                replace o_1w := o_1w.step hs
                replace o_1x := o_1x.step hs
                replace r_y := r_y.step hs
                apply go
                refine W.quiet (fun w' => Ch [] w_3d w') MX (by kernel_rfl) (Ch.drew [] w_3d) ?_
                refine evq0 (rn_field rfl rfl FO108_1) ?_
                refine evq (fun w' hw => rn_load rfl rfl (run_loadVar1 T66 ((hp.ext hw).cell (i := 0) (off := 1) rfl rfl))) ?_
                obtain ⟨x_3f, q_3g, q_1z⟩ := bind_some q_1z
                refine evq_indexO rfl rfl rfl Tryd.underlying66 T3 o_3e q_3g ?_
                intro g_3h c_3i h_3j d_3k l_3l
                refine evq (fun w' hw => rn_load rfl rfl (run_loadVar1 T3 ((hp.ext hw).cellE (i := 1) rfl h_3j d_3k (j := 0) rfl))) ?_
                refine evq0 (rn_field rfl rfl FO117_2) ?_
                refine evq (fun w' hw => rn_load rfl rfl (run_loadVar1 T3 ((hp.ext hw).cell (i := 6) (off := 2) rfl rfl))) ?_
                intro w_3m hc
                have hs := hp.stp hc
                replace hp := hp.ext hc
                replace r_g := r_g.step hs
                replace o_3e := o_3e.step hs
                replace o_1n := o_1n.step hs
                replace r_1u := r_1u.step hs
                replace r_1v := r_1v.step hs
                replace o_1w := o_1w.step hs
                replace o_1x := o_1x.step hs
                replace r_y := r_y.step hs
                apply go
                refine sel_of (fun hc => ?_) (fun hc => ?_)
                ·
                  have q_1z := cond_t q_1z hc
                  apply go
                  apply go
                  apply go
                  obtain rfl := Option.some.inj q_1z
                  obtain rfl := Option.some.inj h
                  have hp := hp.sel [0, 1, 2, 3, 4, 5] (by decide)
                  exact ⟨I_1d, [some (g_1, [v_3, v_1i, v_1k], 108), e_3c, e_1l], [some (g_7, [v_1o, v_1p, v_1q, v_1s], 113), e_1r, e_1t], rfl, hp, ⟨v_1i, e_3c, v_1k, e_1l, rfl, o_3e, o_1n⟩, ⟨v_1o, v_1p, v_1q, e_1r, v_1s, e_1t, rfl, r_1u, r_1v, o_1w, o_1x⟩⟩
                ·
                  have q_1z := cond_f q_1z hc
                  apply go
                  obtain rfl := Option.some.inj q_1z
                  have hp := hp.perm [1, 2, 0, 4, 5, 3] (by decide)
                  exact ⟨((upd x_19.counters x_5 (IntKind.i64.wrap (x_2y + 1))), e_3c), (.c rfl .n), rfl, hp, r_g, o_3e, o_1n, r_1u, r_1v, o_1w, o_1x⟩
              ·
                have q_1z := cond_f q_1z hc
                apply go
                obtain rfl := Option.some.inj q_1z
                have hp := hp.perm [1, 2, 0, 4, 5, 3] (by decide)
                exact ⟨(x_19.counters, e_1j), (.c rfl .n), rfl, hp, r_g, o_1m, o_1n, r_1u, r_1v, o_1w, o_1x⟩
  ·
    rintro ⟨x_3n, e_3o⟩ w_3p ⟨hy, hp, r_g, o_3q, o_1n, r_1u, r_1v, o_1w, o_1x⟩
    replace hy := hy.symm
    subst hy
    apply go
    apply go
    apply go
    obtain rfl := Option.some.inj h
    have hp := hp.perm [2, 0, 1, 5, 3, 4] (by decide)
    exact ⟨I_1d, [some (g_1, [v_3, v_1i, v_1k], 108), e_3o, e_1l], [some (g_7, [v_1o, v_1p, v_1q, v_1s], 113), e_1r, e_1t], rfl, hp, ⟨v_1i, e_3o, v_1k, e_1l, rfl, o_3q, o_1n⟩, ⟨v_1o, v_1p, v_1q, e_1r, v_1s, e_1t, rfl, r_1u, r_1v, o_1w, o_1x⟩⟩

end Go.Proofs.YtcdboppghnchpaaDoor

namespace Go.Proofs.YtcdboppghnchpaaDoor
open Go Go.Proofs.YtcdboppghnchpaaDoor.Gw Go.RowKit
set_option linter.unusedVariables false
attribute [local irreducible] Ev EvQ EvS EvH
theorem tree_Runner_run_F_ok (n : Nat) (self : Runner → Int → Tick → Option (Int × Runner × Tick)) (ih : tree_Runner_run_S self) : tree_Runner_run_S (tree_Runner_run_F n self) := by
  intro w0 I0 x_0 g_1 E_2 v_3 q_4 x_5 x_6 g_7 E_8 q_9 hp r h
  unfold tree_Runner_run_F at h
  refine enter Tryd.func51 rfl (Nat.le_of_ble_eq_true rfl) ?_
  generalize blks (E_2 ++ E_8) = B at hp ⊢
  obtain ⟨v_a, e_b, v_c, e_d, rfl, o_e, o_f, r_g⟩ := q_4
  obtain ⟨v_h, v_i, v_j, e_k, v_l, e_m, rfl, r_n, r_o, o_p, o_q⟩ := q_9
  have hp : Hp ⟨w0, I0, B⟩ I0 [some (g_1, [v_3, v_a, v_c], 108), e_b, e_d, some (g_7, [v_h, v_i, v_j, v_l], 113), e_k, e_m] w0 := hp
  apply go
  apply go
  apply go
  apply go
  apply go
  apply go
  refine ev0 (rn_field rfl rfl FO108_0) ?_
  refine ev (rn_load rfl rfl (run_loadVar1 T106 (hp.cell (i := 0) (off := 0) rfl rfl))) ?_
  obtain ⟨x_r, q_s, h⟩ := bind_some h
  refine ev_index rfl rfl rfl Tryd.underlying106 T117 r_g q_s ?_
  intro p_t c_u d_v a_w
  obtain ⟨v_x, rfl, r_y⟩ := dNode_2_o d_v
  refine ev (rn_load rfl rfl (run_loadVarA T117 rfl a_w)) ?_
  refine ev_alloc hp rfl T117 ?_
  intro g_z w_10 hp hs
  replace r_y := r_y.step hs
  replace r_g := r_g.step hs
  replace o_e := o_e.step hs
  replace o_f := o_f.step hs
  replace r_n := r_n.step hs
  replace r_o := r_o.step hs
  replace o_p := o_p.step hs
  replace o_q := o_q.step hs
  refine ev_storeA hp (i := 0) (off := 0) (vs := [(.int .i64 x_r.kind), (.int .i64 x_r.name), (.int .i64 x_r.count), v_x]) rfl rfl rfl rfl T117 rfl (Nat.le_of_ble_eq_true rfl) (ones_cons rfl (ones_cons rfl (ones_cons rfl (ones_cons r_y.one ones_nil)))) ?_
  intro w_11 hp hs
  replace r_y := r_y.step hs
  replace r_g := r_g.step hs
  replace o_e := o_e.step hs
  replace o_f := o_f.step hs
  replace r_n := r_n.step hs
  replace r_o := r_o.step hs
  replace o_p := o_p.step hs
  replace o_q := o_q.step hs
  obtain ⟨y_12, q_13, h⟩ := bind_some h
  refine W.cut (γ := ((List Int) × (List Bool) × (List Int) × (List Int) × Int × (List Int) × (List Bool) × Value × Value × Value × Ent × Value × Ent × Value × Ent × Value × Ent × (Nat → Prop))) (fun g => [(1, (.int .i64 x_5)), (2, (.pointer (some ⟨g_7, 0, none⟩))), (7, (.int .i64 (g.2.2.2.2.1)))]) (fun g w' => y_12 = ((g.1), (g.2.1), (g.2.2.1), (g.2.2.2.1), (g.2.2.2.2.1), (g.2.2.2.2.2.1), (g.2.2.2.2.2.2.1)) ∧ Hp ⟨w0, I0, B⟩ (g.2.2.2.2.2.2.2.2.2.2.2.2.2.2.2.2.2) [(g.2.2.2.2.2.2.2.2.2.2.1), (g.2.2.2.2.2.2.2.2.2.2.2.2.1), some (g_7, [(g.2.2.2.2.2.2.2.1), (g.2.2.2.2.2.2.2.2.1), (g.2.2.2.2.2.2.2.2.2.1), (g.2.2.2.2.2.2.2.2.2.2.2.1)], 113), (g.2.2.2.2.2.2.2.2.2.2.2.2.2.2.1), (g.2.2.2.2.2.2.2.2.2.2.2.2.2.2.2.2.1), some (g_1, [v_3, (g.2.2.2.2.2.2.2.2.2.2.2.2.2.1), (g.2.2.2.2.2.2.2.2.2.2.2.2.2.2.2.1)], 108)] w' ∧ RepS (dI .i64) w' (g.2.2.2.2.2.2.2.2.2.2.2.2.2.2.2.2.2) (g.2.2.2.2.2.2.2.1) (g.1) ∧ RepS dB w' (g.2.2.2.2.2.2.2.2.2.2.2.2.2.2.2.2.2) (g.2.2.2.2.2.2.2.2.1) (g.2.1) ∧ OwnS (dI .i64) 3 w' (g.2.2.2.2.2.2.2.2.2.2.2.2.2.2.2.2.2) (g.2.2.2.2.2.2.2.2.2.1) (g.2.2.2.2.2.2.2.2.2.2.1) (g.2.2.1) ∧ OwnS (dI .i64) 3 w' (g.2.2.2.2.2.2.2.2.2.2.2.2.2.2.2.2.2) (g.2.2.2.2.2.2.2.2.2.2.2.1) (g.2.2.2.2.2.2.2.2.2.2.2.2.1) (g.2.2.2.1) ∧ RepS dNode_2 w' (g.2.2.2.2.2.2.2.2.2.2.2.2.2.2.2.2.2) v_3 x_0.nodes ∧ OwnS (dI .i64) 3 w' (g.2.2.2.2.2.2.2.2.2.2.2.2.2.2.2.2.2) (g.2.2.2.2.2.2.2.2.2.2.2.2.2.1) (g.2.2.2.2.2.2.2.2.2.2.2.2.2.2.1) (g.2.2.2.2.2.1) ∧ OwnS dB 4 w' (g.2.2.2.2.2.2.2.2.2.2.2.2.2.2.2.2.2) (g.2.2.2.2.2.2.2.2.2.2.2.2.2.2.2.1) (g.2.2.2.2.2.2.2.2.2.2.2.2.2.2.2.2.1) (g.2.2.2.2.2.2.1)) ?_ ?_
  ·
    apply go
    apply go
    refine ev0 (rn_field rfl rfl FO117_0) ?_
    refine ev (rn_load rfl rfl (run_loadVar1 T3 (hp.cell (i := 0) (off := 0) rfl rfl))) ?_
    apply go
    apply go
    apply go
    apply go
    refine sel_of (fun hc => ?_) (fun hc => ?_)
    ·
      have q_13 := cond_t q_13 hc
      apply go
      apply go
      refine ev0 (rn_field rfl rfl FO113_3) ?_
      refine ev (rn_load rfl rfl (run_loadVar1 T66 (hp.cell (i := 4) (off := 3) rfl rfl))) ?_
      refine ev_litN (d := (dI .i64)) (xs := [x_5]) (cs := [(.int .i64 x_5)]) hp rfl rfl Tryd.underlying66 T3 (by decide) rfl rfl (Elems.cons (d := (dI .i64)) (xs := _) rfl (Elems.nil _ _ _ _)) ?_
      intro v_14 I_15 w_16 hp hs r_17
      replace o_q := o_q.step hs
      replace r_y := r_y.step hs
      replace r_g := r_g.step hs
      replace o_e := o_e.step hs
      replace o_f := o_f.step hs
      replace r_n := r_n.step hs
      replace r_o := r_o.step hs
      replace o_p := o_p.step hs
      obtain ⟨x_18, q_19, q_13⟩ := bind_some q_13
      refine ev_append hp (i := 6) rfl rfl rfl rfl Tryd.underlying66 T3 rfl rfl o_q r_17 q_19 ?_
      rintro v_1a e_1b w_1c hp hs o_1d
      replace r_y := r_y.step hs
      replace r_g := r_g.step hs
      replace o_e := o_e.step hs
      replace o_f := o_f.step hs
      replace r_n := r_n.step hs
      replace r_o := r_o.step hs
      replace o_p := o_p.step hs
      replace o_q := o_q.step hs
      refine ev0 (rn_field rfl rfl FO113_3) ?_
      refine ev_store1 hp (i := 4) (off := 3) rfl rfl rfl rfl T66 o_1d.one (Nat.le_of_ble_eq_true rfl) ?_
      intro w_1e hp hs
      replace r_y := r_y.step hs
      replace r_g := r_g.step hs
      replace o_e := o_e.step hs
      replace o_f := o_f.step hs
      replace r_n := r_n.step hs
      replace r_o := r_o.step hs
      replace o_p := o_p.step hs
      replace o_1d := o_1d.step hs
      obtain ⟨y_1f, q_1g, q_13⟩ := bind_some q_13
      refine W.cut (γ := Bool) (fun g => [(1, (.int .i64 x_5)), (2, (.pointer (some ⟨g_7, 0, none⟩))), (7, (.int .i64 3)), (8, (.pointer (some ⟨g_z, 0, none⟩))), (63, (.bool (g)))]) (fun g w' => y_1f = (g) ∧ Hp ⟨w0, I0, B⟩ I_15 [e_k, e_1b, some (g_7, [v_h, v_i, v_j, v_1a], 113), some (g_z, [(.int .i64 x_r.kind), (.int .i64 x_r.name), (.int .i64 x_r.count), v_x], 117), e_b, e_d, some (g_1, [v_3, v_a, v_c], 108)] w' ∧ RepS (dI .i64) w' I_15 v_h x_6.actions ∧ RepS dB w' I_15 v_i x_6.tests ∧ OwnS (dI .i64) 3 w' I_15 v_j e_k x_6.status ∧ OwnS (dI .i64) 3 w' I_15 v_1a e_1b x_18 ∧ RepS (dI .i64) w' I_15 v_x x_r.kids ∧ RepS dNode_2 w' I_15 v_3 x_0.nodes ∧ OwnS (dI .i64) 3 w' I_15 v_a e_b x_0.counters ∧ OwnS dB 4 w' I_15 v_c e_d x_0.active) ?_ ?_
      ·
        refine W.quiet (fun w' => Ch [] w_1e w') MX (by kernel_rfl) (Ch.drew [] w_1e) ?_
        refine evq0 (rn_field rfl rfl FO117_1) ?_
        refine evq (fun w' hw => rn_load rfl rfl (run_loadVar1 T3 ((hp.ext hw).cell (i := 0) (off := 1) rfl rfl))) ?_
        refine evq0 (rn_field rfl rfl FO113_0) ?_
        refine evq (fun w' hw => rn_load rfl rfl (run_loadVar1 T66 ((hp.ext hw).cell (i := 4) (off := 0) rfl rfl))) ?_
        refine evq0 (rn_len rfl rfl Tryd.underlying66 r_n) ?_
        refine sel_of (fun hc => ?_) (fun hc => ?_)
        ·
          have q_1g := cond_t q_1g hc
          refine evq0 (rn_field rfl rfl FO113_0) ?_
          refine evq (fun w' hw => rn_load rfl rfl (run_loadVar1 T66 ((hp.ext hw).cell (i := 4) (off := 0) rfl rfl))) ?_
          refine evq0 (rn_field rfl rfl FO117_1) ?_
          refine evq (fun w' hw => rn_load rfl rfl (run_loadVar1 T3 ((hp.ext hw).cell (i := 0) (off := 1) rfl rfl))) ?_
          obtain ⟨x_1h, q_1i, q_1g⟩ := bind_some q_1g
          refine evq_index rfl rfl rfl Tryd.underlying66 T3 r_n q_1i ?_
          intro p_1j c_1k d_1l a_1m
          obtain rfl : c_1k = [(.int .i64 x_1h)] := d_1l
          refine evq (fun w' hw => rn_load rfl rfl (run_loadVar1 T3 ((a_1m.step (hp.stp hw)).2 0 _ rfl))) ?_
          refine sel_of (fun hc => ?_) (fun hc => ?_)
          ·
            have q_1g := cond_t q_1g hc
            refine evq0 (rn_field rfl rfl FO113_0) ?_
            refine evq (fun w' hw => rn_load rfl rfl (run_loadVar1 T66 ((hp.ext hw).cell (i := 4) (off := 0) rfl rfl))) ?_
            refine evq0 (rn_field rfl rfl FO117_1) ?_
            refine evq (fun w' hw => rn_load rfl rfl (run_loadVar1 T3 ((hp.ext hw).cell (i := 0) (off := 1) rfl rfl))) ?_
            obtain ⟨x_1n, q_1o, q_1g⟩ := bind_some q_1g
            refine evq_index rfl rfl rfl Tryd.underlying66 T3 r_n q_1o ?_
            intro p_1p c_1q d_1r a_1s
            obtain rfl : c_1q = [(.int .i64 x_1n)] := d_1r
            refine evq (fun w' hw => rn_load rfl rfl (run_loadVar1 T3 ((a_1s.step (hp.stp hw)).2 0 _ rfl))) ?_
            intro w_1t hc
            have hs := hp.stp hc
            replace hp := hp.ext hc
            replace r_y := r_y.step hs
            replace r_g := r_g.step hs
            replace o_e := o_e.step hs
            replace o_f := o_f.step hs
            replace r_n := r_n.step hs
            replace r_o := r_o.step hs
            replace o_p := o_p.step hs
            replace o_1d := o_1d.step hs
            obtain rfl := Option.some.inj q_1g
            have hp := hp.perm [5, 6, 4, 0, 2, 3, 1] (by decide)
            exact ⟨(decide (x_1n ≤ 3)), (.c rfl (.c rfl (.c rfl (.c rfl (.c rfl .n))))), rfl, hp, r_n, r_o, o_p, o_1d, r_y, r_g, o_e, o_f⟩
          ·
            have q_1g := cond_f q_1g hc
            intro w_1u hc
            have hs := hp.stp hc
            replace hp := hp.ext hc
            replace r_y := r_y.step hs
            replace r_g := r_g.step hs
            replace o_e := o_e.step hs
            replace o_f := o_f.step hs
            replace r_n := r_n.step hs
            replace r_o := r_o.step hs
            replace o_p := o_p.step hs
            replace o_1d := o_1d.step hs
            obtain rfl := Option.some.inj q_1g
            have hp := hp.perm [5, 6, 4, 0, 2, 3, 1] (by decide)
            exact ⟨false, (.c rfl (.c rfl (.c rfl (.c rfl (.c rfl .n))))), rfl, hp, r_n, r_o, o_p, o_1d, r_y, r_g, o_e, o_f⟩
        ·
          have q_1g := cond_f q_1g hc
          intro w_1v hc
          have hs := hp.stp hc
          replace hp := hp.ext hc
          replace r_y := r_y.step hs
          replace r_g := r_g.step hs
          replace o_e := o_e.step hs
          replace o_f := o_f.step hs
          replace r_n := r_n.step hs
          replace r_o := r_o.step hs
          replace o_p := o_p.step hs
          replace o_1d := o_1d.step hs
          obtain rfl := Option.some.inj q_1g
          have hp := hp.perm [5, 6, 4, 0, 2, 3, 1] (by decide)
          exact ⟨false, (.c rfl (.c rfl (.c rfl (.c rfl (.c rfl .n))))), rfl, hp, r_n, r_o, o_p, o_1d, r_y, r_g, o_e, o_f⟩
      ·
        rintro x_1w w_1x ⟨hy, hp, r_n, r_o, o_p, o_1d, r_y, r_g, o_e, o_f⟩
        replace hy := hy.symm
        subst hy
        apply go
        refine sel_of (fun hc => ?_) (fun hc => ?_)
        ·
          have q_13 := cond_t q_13 hc
          refine W.quiet (fun w' => Ch [] w_1x w') MX (by kernel_rfl) (Ch.drew [] w_1x) ?_
          refine evq0 (rn_field rfl rfl FO113_0) ?_
          refine evq (fun w' hw => rn_load rfl rfl (run_loadVar1 T66 ((hp.ext hw).cell (i := 2) (off := 0) rfl rfl))) ?_
          refine evq0 (rn_field rfl rfl FO117_1) ?_
          refine evq (fun w' hw => rn_load rfl rfl (run_loadVar1 T3 ((hp.ext hw).cell (i := 3) (off := 1) rfl rfl))) ?_
          obtain ⟨x_1y, q_1z, q_13⟩ := bind_some q_13
          refine evq_index rfl rfl rfl Tryd.underlying66 T3 r_n q_1z ?_
          intro p_20 c_21 d_22 a_23
          obtain rfl : c_21 = [(.int .i64 x_1y)] := d_22
          refine evq (fun w' hw => rn_load rfl rfl (run_loadVar1 T3 ((a_23.step (hp.stp hw)).2 0 _ rfl))) ?_
          intro w_24 hc
          have hs := hp.stp hc
          replace hp := hp.ext hc
          replace r_n := r_n.step hs
          replace r_o := r_o.step hs
          replace o_p := o_p.step hs
          replace o_1d := o_1d.step hs
          replace r_y := r_y.step hs
          replace r_g := r_g.step hs
          replace o_e := o_e.step hs
          replace o_f := o_f.step hs
          obtain rfl := Option.some.inj q_13
          have hp := hp.sel [0, 1, 2, 4, 5, 6] (by decide)
          exact ⟨(x_6.actions, x_6.tests, x_6.status, x_18, x_1y, x_0.counters, x_0.active, v_h, v_i, v_j, e_k, v_1a, e_1b, v_a, e_b, v_c, e_d, I_15), (.c rfl (.c rfl (.c rfl .n))), rfl, hp, r_n, r_o, o_p, o_1d, r_g, o_e, o_f⟩
        ·
          have q_13 := cond_f q_13 hc
          apply go
          obtain rfl := Option.some.inj q_13
          have hp := hp.sel [0, 1, 2, 4, 5, 6] (by decide)
          exact ⟨(x_6.actions, x_6.tests, x_6.status, x_18, 3, x_0.counters, x_0.active, v_h, v_i, v_j, e_k, v_1a, e_1b, v_a, e_b, v_c, e_d, I_15), (.c rfl (.c rfl (.c rfl .n))), rfl, hp, r_n, r_o, o_p, o_1d, r_g, o_e, o_f⟩
    ·
      have q_13 := cond_f q_13 hc
      apply go
      apply go
      apply go
      refine sel_of (fun hc => ?_) (fun hc => ?_)
      ·
        have q_13 := cond_t q_13 hc
        obtain ⟨y_25, q_26, q_13⟩ := bind_some q_13
        refine W.cut (γ := Bool) (fun g => [(1, (.int .i64 x_5)), (2, (.pointer (some ⟨g_7, 0, none⟩))), (7, (.int .i64 3)), (91, (.bool (g)))]) (fun g w' => y_25 = (g) ∧ Hp ⟨w0, I0, B⟩ I0 [e_k, e_m, some (g_7, [v_h, v_i, v_j, v_l], 113), e_b, e_d, some (g_1, [v_3, v_a, v_c], 108)] w' ∧ RepS (dI .i64) w' I0 v_h x_6.actions ∧ RepS dB w' I0 v_i x_6.tests ∧ OwnS (dI .i64) 3 w' I0 v_j e_k x_6.status ∧ OwnS (dI .i64) 3 w' I0 v_l e_m x_6.ticked ∧ RepS dNode_2 w' I0 v_3 x_0.nodes ∧ OwnS (dI .i64) 3 w' I0 v_a e_b x_0.counters ∧ OwnS dB 4 w' I0 v_c e_d x_0.active) ?_ ?_
        ·
          refine W.quiet (fun w' => Ch [] w_11 w') MX (by kernel_rfl) (Ch.drew [] w_11) ?_
          refine evq0 (rn_field rfl rfl FO117_1) ?_
          refine evq (fun w' hw => rn_load rfl rfl (run_loadVar1 T3 ((hp.ext hw).cell (i := 0) (off := 1) rfl rfl))) ?_
          refine evq0 (rn_field rfl rfl FO113_1) ?_
          refine evq (fun w' hw => rn_load rfl rfl (run_loadVar1 T65 ((hp.ext hw).cell (i := 4) (off := 1) rfl rfl))) ?_
          refine evq0 (rn_len rfl rfl Tryd.underlying65 r_o) ?_
          refine sel_of (fun hc => ?_) (fun hc => ?_)
          ·
            have q_26 := cond_t q_26 hc
            refine evq0 (rn_field rfl rfl FO113_1) ?_
            refine evq (fun w' hw => rn_load rfl rfl (run_loadVar1 T65 ((hp.ext hw).cell (i := 4) (off := 1) rfl rfl))) ?_
            refine evq0 (rn_field rfl rfl FO117_1) ?_
            refine evq (fun w' hw => rn_load rfl rfl (run_loadVar1 T3 ((hp.ext hw).cell (i := 0) (off := 1) rfl rfl))) ?_
            obtain ⟨x_27, q_28, q_26⟩ := bind_some q_26
            refine evq_index rfl rfl rfl Tryd.underlying65 T4 r_o q_28 ?_
            intro p_29 c_2a d_2b a_2c
            obtain rfl : c_2a = [(.bool x_27)] := d_2b
            refine evq (fun w' hw => rn_load rfl rfl (run_loadVar1 T4 ((a_2c.step (hp.stp hw)).2 0 _ rfl))) ?_
            intro w_2d hc
            have hs := hp.stp hc
            replace hp := hp.ext hc
            replace r_y := r_y.step hs
            replace r_g := r_g.step hs
            replace o_e := o_e.step hs
            replace o_f := o_f.step hs
            replace r_n := r_n.step hs
            replace r_o := r_o.step hs
            replace o_p := o_p.step hs
            replace o_q := o_q.step hs
            obtain rfl := Option.some.inj q_26
            have hp := hp.perm [5, 6, 4, 2, 3, 1] (by decide)
            exact ⟨x_27, (.c rfl (.c rfl (.c rfl (.c rfl .n)))), rfl, hp, r_n, r_o, o_p, o_q, r_g, o_e, o_f⟩
          ·
            have q_26 := cond_f q_26 hc
            intro w_2e hc
            have hs := hp.stp hc
            replace hp := hp.ext hc
            replace r_y := r_y.step hs
            replace r_g := r_g.step hs
            replace o_e := o_e.step hs
            replace o_f := o_f.step hs
            replace r_n := r_n.step hs
            replace r_o := r_o.step hs
            replace o_p := o_p.step hs
            replace o_q := o_q.step hs
            obtain rfl := Option.some.inj q_26
            have hp := hp.perm [5, 6, 4, 2, 3, 1] (by decide)
            exact ⟨false, (.c rfl (.c rfl (.c rfl (.c rfl .n)))), rfl, hp, r_n, r_o, o_p, o_q, r_g, o_e, o_f⟩
        ·
          rintro x_2f w_2g ⟨hy, hp, r_n, r_o, o_p, o_q, r_g, o_e, o_f⟩
          replace hy := hy.symm
          subst hy
          apply go
          refine sel_of (fun hc => ?_) (fun hc => ?_)
          ·
            have q_13 := cond_t q_13 hc
            apply go
            obtain rfl := Option.some.inj q_13
            exact ⟨(x_6.actions, x_6.tests, x_6.status, x_6.ticked, 2, x_0.counters, x_0.active, v_h, v_i, v_j, e_k, v_l, e_m, v_a, e_b, v_c, e_d, I0), (.c rfl (.c rfl (.c rfl .n))), rfl, hp, r_n, r_o, o_p, o_q, r_g, o_e, o_f⟩
          ·
            have q_13 := cond_f q_13 hc
            apply go
            obtain rfl := Option.some.inj q_13
            exact ⟨(x_6.actions, x_6.tests, x_6.status, x_6.ticked, 3, x_0.counters, x_0.active, v_h, v_i, v_j, e_k, v_l, e_m, v_a, e_b, v_c, e_d, I0), (.c rfl (.c rfl (.c rfl .n))), rfl, hp, r_n, r_o, o_p, o_q, r_g, o_e, o_f⟩
      ·
        have q_13 := cond_f q_13 hc
        apply go
        apply go
        apply go
        refine sel_of (fun hc => ?_) (fun hc => ?_)
        ·
          have q_13 := cond_t q_13 hc
          apply go
          refine ev0 (rn_field rfl rfl FO117_3) ?_
          refine ev (rn_load rfl rfl (run_loadVar1 T66 (hp.cell (i := 0) (off := 3) rfl rfl))) ?_
          obtain ⟨⟨x_2h, x_2i, x_2j⟩, q_2k, q_13⟩ := bind_some q_13
          refine ev_call rfl rfl C83 (((tree_Runner_chain_ok n _ ih) _ _  (Runner.mk x_0.nodes x_0.counters x_0.active) g_1 [some (g_1, [v_3, v_a, v_c], 108), e_b, e_d] v_3 ⟨v_a, e_b, v_c, e_d, rfl, o_e, o_f, r_g⟩ x_r.kids v_x r_y 2 (Tick.mk x_6.actions x_6.tests x_6.status x_6.ticked) g_7 [some (g_7, [v_h, v_i, v_j, v_l], 113), e_k, e_m] ⟨v_h, v_i, v_j, e_k, v_l, e_m, rfl, r_n, r_o, o_p, o_q⟩ (hp.lendL [1, 2, 3, 4, 5, 6] (by decide)) _ q_2k).mono ?_)
          rintro _ w_2l ⟨I_2m, F_2n, F_2o, hv, hq2809, q_2p, q_2q⟩
          replace hv := hv.symm
          subst hv
          obtain ⟨v_2r, e_2s, v_2t, e_2u, rfl, o_2v, o_2w⟩ := q_2p
          obtain ⟨v_2x, v_2y, v_2z, e_30, v_31, e_32, rfl, r_33, r_34, o_35, o_36⟩ := q_2q
          have hs := hq2809.st
          have hp := hp.backL [1, 2, 3, 4, 5, 6] [0] (by decide) hq2809
          replace r_g := r_g.step hs
          replace r_y := r_y.step hs
          obtain rfl := Option.some.inj q_13
          have hp := hp.perm [4, 5, 3, 1, 2, 0] (by decide)
          exact ⟨(x_2j.actions, x_2j.tests, x_2j.status, x_2j.ticked, x_2h, x_2i.counters, x_2i.active, v_2x, v_2y, v_2z, e_30, v_31, e_32, v_2r, e_2s, v_2t, e_2u, I_2m), (.c rfl (.c rfl (.c rfl .n))), rfl, hp, r_33, r_34, o_35, o_36, r_g, o_2v, o_2w⟩
        ·
          have q_13 := cond_f q_13 hc
          apply go
          apply go
          apply go
          refine sel_of (fun hc => ?_) (fun hc => ?_)
          ·
            have q_13 := cond_t q_13 hc
            apply go
            refine ev0 (rn_field rfl rfl FO117_3) ?_
            refine ev (rn_load rfl rfl (run_loadVar1 T66 (hp.cell (i := 0) (off := 3) rfl rfl))) ?_
            obtain ⟨⟨x_37, x_38, x_39⟩, q_3a, q_13⟩ := bind_some q_13
            refine ev_call rfl rfl C83 (((tree_Runner_chain_ok n _ ih) _ _  (Runner.mk x_0.nodes x_0.counters x_0.active) g_1 [some (g_1, [v_3, v_a, v_c], 108), e_b, e_d] v_3 ⟨v_a, e_b, v_c, e_d, rfl, o_e, o_f, r_g⟩ x_r.kids v_x r_y 3 (Tick.mk x_6.actions x_6.tests x_6.status x_6.ticked) g_7 [some (g_7, [v_h, v_i, v_j, v_l], 113), e_k, e_m] ⟨v_h, v_i, v_j, e_k, v_l, e_m, rfl, r_n, r_o, o_p, o_q⟩ (hp.lendL [1, 2, 3, 4, 5, 6] (by decide)) _ q_3a).mono ?_)
            rintro _ w_3b ⟨I_3c, F_3d, F_3e, hv, hq2837, q_3f, q_3g⟩
            replace hv := hv.symm
            subst hv
            obtain ⟨v_3h, e_3i, v_3j, e_3k, rfl, o_3l, o_3m⟩ := q_3f
            obtain ⟨v_3n, v_3o, v_3p, e_3q, v_3r, e_3s, rfl, r_3t, r_3u, o_3v, o_3w⟩ := q_3g
            have hs := hq2837.st
            have hp := hp.backL [1, 2, 3, 4, 5, 6] [0] (by decide) hq2837
            replace r_g := r_g.step hs
            replace r_y := r_y.step hs
            obtain rfl := Option.some.inj q_13
            have hp := hp.perm [4, 5, 3, 1, 2, 0] (by decide)
            exact ⟨(x_39.actions, x_39.tests, x_39.status, x_39.ticked, x_37, x_38.counters, x_38.active, v_3n, v_3o, v_3p, e_3q, v_3r, e_3s, v_3h, e_3i, v_3j, e_3k, I_3c), (.c rfl (.c rfl (.c rfl .n))), rfl, hp, r_3t, r_3u, o_3v, o_3w, r_g, o_3l, o_3m⟩
          ·
            have q_13 := cond_f q_13 hc
            apply go
            apply go
            apply go
            refine sel_of (fun hc => ?_) (fun hc => ?_)
            ·
              have q_13 := cond_t q_13 hc
              apply go
              refine ev (rn_load rfl rfl (run_loadVarA T117 rfl (hp.at_ (i := 0) rfl))) ?_
              obtain ⟨⟨x_3x, x_3y, x_3z⟩, q_40, q_13⟩ := bind_some q_13
              refine ev_call rfl rfl C84 (((tree_Runner_parallel_ok n _ ih) _ _  (Runner.mk x_0.nodes x_0.counters x_0.active) g_1 [some (g_1, [v_3, v_a, v_c], 108), e_b, e_d] v_3 ⟨v_a, e_b, v_c, e_d, rfl, o_e, o_f, r_g⟩ (Node_2.mk x_r.kind x_r.name x_r.count x_r.kids) v_x r_y (Tick.mk x_6.actions x_6.tests x_6.status x_6.ticked) g_7 [some (g_7, [v_h, v_i, v_j, v_l], 113), e_k, e_m] ⟨v_h, v_i, v_j, e_k, v_l, e_m, rfl, r_n, r_o, o_p, o_q⟩ (hp.lendL [1, 2, 3, 4, 5, 6] (by decide)) _ q_40).mono ?_)
              rintro _ w_41 ⟨I_42, F_43, F_44, hv, hq2865, q_45, q_46⟩
              replace hv := hv.symm
              subst hv
              obtain ⟨v_47, e_48, v_49, e_4a, rfl, o_4b, o_4c⟩ := q_45
              obtain ⟨v_4d, v_4e, v_4f, e_4g, v_4h, e_4i, rfl, r_4j, r_4k, o_4l, o_4m⟩ := q_46
              have hs := hq2865.st
              have hp := hp.backL [1, 2, 3, 4, 5, 6] [0] (by decide) hq2865
              replace r_g := r_g.step hs
              replace r_y := r_y.step hs
              obtain rfl := Option.some.inj q_13
              have hp := hp.perm [4, 5, 3, 1, 2, 0] (by decide)
              exact ⟨(x_3z.actions, x_3z.tests, x_3z.status, x_3z.ticked, x_3x, x_3y.counters, x_3y.active, v_4d, v_4e, v_4f, e_4g, v_4h, e_4i, v_47, e_48, v_49, e_4a, I_42), (.c rfl (.c rfl (.c rfl .n))), rfl, hp, r_4j, r_4k, o_4l, o_4m, r_g, o_4b, o_4c⟩
            ·
              have q_13 := cond_f q_13 hc
              apply go
              obtain ⟨⟨x_4n, x_4o, x_4p⟩, q_4q, q_13⟩ := bind_some q_13
              refine ev_call rfl rfl C85 (((tree_Runner_decorate_ok n _ ih) _ _  (Runner.mk x_0.nodes x_0.counters x_0.active) g_1 [some (g_1, [v_3, v_a, v_c], 108), e_b, e_d] v_3 ⟨v_a, e_b, v_c, e_d, rfl, o_e, o_f, r_g⟩ x_5 (Tick.mk x_6.actions x_6.tests x_6.status x_6.ticked) g_7 [some (g_7, [v_h, v_i, v_j, v_l], 113), e_k, e_m] ⟨v_h, v_i, v_j, e_k, v_l, e_m, rfl, r_n, r_o, o_p, o_q⟩ (hp.lendL [1, 2, 3, 4, 5, 6] (by decide)) _ q_4q).mono ?_)
              rintro _ w_4r ⟨I_4s, F_4t, F_4u, hv, hq2893, q_4v, q_4w⟩
              replace hv := hv.symm
              subst hv
              obtain ⟨v_4x, e_4y, v_4z, e_50, rfl, o_51, o_52⟩ := q_4v
              obtain ⟨v_53, v_54, v_55, e_56, v_57, e_58, rfl, r_59, r_5a, o_5b, o_5c⟩ := q_4w
              have hs := hq2893.st
              have hp := hp.backL [1, 2, 3, 4, 5, 6] [0] (by decide) hq2893
              replace r_g := r_g.step hs
              replace r_y := r_y.step hs
              obtain rfl := Option.some.inj q_13
              have hp := hp.perm [4, 5, 3, 1, 2, 0] (by decide)
              exact ⟨(x_4p.actions, x_4p.tests, x_4p.status, x_4p.ticked, x_4n, x_4o.counters, x_4o.active, v_53, v_54, v_55, e_56, v_57, e_58, v_4x, e_4y, v_4z, e_50, I_4s), (.c rfl (.c rfl (.c rfl .n))), rfl, hp, r_59, r_5a, o_5b, o_5c, r_g, o_51, o_52⟩
  ·
    rintro ⟨x_5d, x_5e, x_5f, x_5g, x_5h, x_5i, x_5j, v_5k, v_5l, v_5m, e_5n, v_5o, e_5p, v_5q, e_5r, v_5s, e_5t, I_5u⟩ w_5v ⟨hy, hp, r_5w, r_5x, o_5y, o_5z, r_g, o_60, o_61⟩
    replace hy := hy.symm
    subst hy
    apply go
    apply go
    refine ev0 (rn_field rfl rfl FO113_2) ?_
    refine ev (rn_load rfl rfl (run_loadVar1 T66 (hp.cell (i := 2) (off := 2) rfl rfl))) ?_
    obtain ⟨x_62, q_63, h⟩ := bind_some h
    refine ev_indexO rfl rfl rfl Tryd.underlying66 T3 o_5y q_63 ?_
    intro g_64 c_65 h_66 d_67 l_68
    refine ev_storeE hp (i := 0) rfl h_66 rfl rfl rfl T3 o_5y q_63 (x0 := x_5h) rfl ?_
    intro e_69 w_6a hp hs o_6b
    replace r_5w := r_5w.step hs
    replace r_5x := r_5x.step hs
    replace o_5z := o_5z.step hs
    replace r_g := r_g.step hs
    replace o_60 := o_60.step hs
    replace o_61 := o_61.step hs
    apply go
    apply go
    apply go
    obtain rfl := Option.some.inj h
    have hp := hp.perm [5, 3, 4, 2, 0, 1] (by decide)
    exact ⟨I_5u, [some (g_1, [v_3, v_5q, v_5s], 108), e_5r, e_5t], [some (g_7, [v_5k, v_5l, v_5m, v_5o], 113), e_69, e_5p], rfl, hp, ⟨v_5q, e_5r, v_5s, e_5t, rfl, o_60, o_61⟩, ⟨v_5k, v_5l, v_5m, e_69, v_5o, e_5p, rfl, r_5w, r_5x, o_6b, o_5z⟩⟩
theorem tree_Runner_run_ok : ∀ n, tree_Runner_run_S (tree_Runner_run n)
  | 0 => by intro w0 I0 x_0 g_1 E_2 v_3 q_4 x_5 x_6 g_7 E_8 q_9 hp r h; cases h
  | n + 1 => tree_Runner_run_F_ok n _ (tree_Runner_run_ok n)

end Go.Proofs.YtcdboppghnchpaaDoor

namespace Go.Proofs.YtcdboppghnchpaaDoor
open Go Go.Proofs.YtcdboppghnchpaaDoor.Gw Go.RowKit
set_option linter.unusedVariables false
attribute [local irreducible] Ev EvQ EvS EvH vch
def tree_Runner_settle_S (f : Runner → Int → Bool → Tick → Option (Runner × Tick)) : Prop := ∀ (w0 : World) (I0 : Nat → Prop) (x_0 : Runner) (g_1 : Nat) (E_2 : List Ent) (v_3 : Value) (q_4 : qR w0 I0 g_1 E_2 x_0 v_3) (x_5 : Int) (x_6 : Bool) (x_7 : Tick) (g_8 : Nat) (E_9 : List Ent) (q_a : qK w0 I0 g_8 E_9 x_7) (hp : Hp ⟨w0, I0, blks (E_2 ++ E_9)⟩ I0 (E_2 ++ E_9) w0) (r : (Runner × Tick)), f x_0 x_5 x_6 x_7 = some r →
    Ret Tryd.prog 52 #[(.pointer (some ⟨g_1, 0, none⟩)), (.int .i64 x_5), (.bool x_6), (.pointer (some ⟨g_8, 0, none⟩))] w0 fun v w1 => ∃ (I1 : Nat → Prop) (u_b : List Ent) (u_c : List Ent), v = (.tuple #[]) ∧ Hp ⟨w0, I0, blks (E_2 ++ E_9)⟩ I1 (u_b ++ u_c) w1 ∧ qRz w1 I1 g_1 u_b r.1 v_3 ∧ qK w1 I1 g_8 u_c r.2
theorem tree_Runner_settle_F_ok (n : Nat) (self : Runner → Int → Bool → Tick → Option (Runner × Tick)) (ih : tree_Runner_settle_S self) : tree_Runner_settle_S (tree_Runner_settle_F n self) := by
  intro w0 I0 x_0 g_1 E_2 v_3 q_4 x_5 x_6 x_7 g_8 E_9 q_a hp r h
  unfold tree_Runner_settle_F at h
  refine enter Tryd.func52 rfl (Nat.le_of_ble_eq_true rfl) ?_
  generalize blks (E_2 ++ E_9) = B at hp ⊢
  obtain ⟨v_b, e_c, v_d, e_e, rfl, o_f, o_g, r_h⟩ := q_4
  obtain ⟨v_i, v_j, v_k, e_l, v_m, e_n, rfl, r_o, r_p, o_q, o_r⟩ := q_a
  have hp : Hp ⟨w0, I0, B⟩ I0 [some (g_1, [v_3, v_b, v_d], 108), e_c, e_e, some (g_8, [v_i, v_j, v_k, v_m], 113), e_l, e_n] w0 := hp
  obtain ⟨y_s, q_t, h⟩ := bind_some h
  refine W.cut (γ := Bool) (fun g => [(0, (.pointer (some ⟨g_1, 0, none⟩))), (1, (.int .i64 x_5)), (2, (.bool (g))), (3, (.pointer (some ⟨g_8, 0, none⟩)))]) (fun g w' => y_s = (g) ∧ w0 = w') ?_ ?_
  ·
    apply go
    refine sel_of (fun hc => ?_) (fun hc => ?_)
    ·
      have q_t := cond_t q_t hc
      refine ev0 (rn_field rfl rfl FO113_2) ?_
      refine ev (rn_load rfl rfl (run_loadVar1 T66 (hp.cell (i := 3) (off := 2) rfl rfl))) ?_
      obtain ⟨x_u, q_v, q_t⟩ := bind_some q_t
      refine ev_indexO rfl rfl rfl Tryd.underlying66 T3 o_q q_v ?_
      intro g_w c_x h_y d_z l_10
      refine ev (rn_load rfl rfl (run_loadVar1 T3 (hp.cellE (i := 4) rfl h_y d_z (j := 0) rfl))) ?_
      obtain rfl := Option.some.inj q_t
      exact ⟨(x_u == 1), (.c rfl (.c rfl (.c rfl (.c rfl .n)))), rfl, rfl⟩
    ·
      have q_t := cond_f q_t hc
      obtain rfl := Option.some.inj q_t
      exact ⟨false, (.c rfl (.c rfl (.c rfl (.c rfl .n)))), rfl, rfl⟩
  ·
    rintro x_11 _ ⟨hy, rfl⟩
    replace hy := hy.symm
    subst hy
    obtain ⟨y_12, q_13, h⟩ := bind_some h
    refine W.cut (γ := ((List Int) × Ent)) (fun g => [(0, (.pointer (some ⟨g_1, 0, none⟩))), (1, (.int .i64 x_5)), (2, (.bool x_11)), (3, (.pointer (some ⟨g_8, 0, none⟩)))]) (fun g w' => y_12 = (g.1) ∧ Hp ⟨w0, I0, B⟩ I0 [(g.2), e_e, some (g_1, [v_3, v_b, v_d], 108), e_l, e_n, some (g_8, [v_i, v_j, v_k, v_m], 113)] w' ∧ RepS dNode_2 w' I0 v_3 x_0.nodes ∧ OwnS (dI .i64) 3 w' I0 v_b (g.2) (g.1) ∧ OwnS dB 4 w' I0 v_d e_e x_0.active ∧ RepS (dI .i64) w' I0 v_i x_7.actions ∧ RepS dB w' I0 v_j x_7.tests ∧ OwnS (dI .i64) 3 w' I0 v_k e_l x_7.status ∧ OwnS (dI .i64) 3 w' I0 v_m e_n x_7.ticked) ?_ ?_
    ·
      apply go
      apply go
      apply go
      refine sel_of (fun hc => ?_) (fun hc => ?_)
      ·
        have q_13 := cond_t q_13 hc
        apply go
        refine ev0 (rn_field rfl rfl FO108_1) ?_
        refine ev (rn_load rfl rfl (run_loadVar1 T66 (hp.cell (i := 0) (off := 1) rfl rfl))) ?_
        obtain ⟨x_14, q_15, q_13⟩ := bind_some q_13
        refine ev_indexO rfl rfl rfl Tryd.underlying66 T3 o_f q_15 ?_
        intro g_16 c_17 h_18 d_19 l_1a
        refine ev_storeE hp (i := 1) rfl h_18 rfl rfl rfl T3 o_f q_15 (x0 := 0) rfl ?_
        intro e_1b w_1c hp hs o_1d
        replace r_h := r_h.step hs
        replace o_g := o_g.step hs
        replace r_o := r_o.step hs
        replace r_p := r_p.step hs
        replace o_q := o_q.step hs
        replace o_r := o_r.step hs
        obtain rfl := Option.some.inj q_13
        have hp := hp.perm [1, 2, 0, 4, 5, 3] (by decide)
        exact ⟨((upd x_0.counters x_5 0), e_1b), (.c rfl (.c rfl (.c rfl (.c rfl .n)))), rfl, hp, r_h, o_1d, o_g, r_o, r_p, o_q, o_r⟩
      ·
        have q_13 := cond_f q_13 hc
        apply go
        obtain rfl := Option.some.inj q_13
        have hp := hp.perm [1, 2, 0, 4, 5, 3] (by decide)
        exact ⟨(x_0.counters, e_c), (.c rfl (.c rfl (.c rfl (.c rfl .n)))), rfl, hp, r_h, o_f, o_g, r_o, r_p, o_q, o_r⟩
    ·
      rintro ⟨x_1e, e_1f⟩ w_1g ⟨hy, hp, r_h, o_1h, o_g, r_o, r_p, o_q, o_r⟩
      replace hy := hy.symm
      subst hy
      obtain ⟨y_1i, q_1j, h⟩ := bind_some h
      refine W.cut (γ := ((List Bool) × Ent)) (fun g => [(0, (.pointer (some ⟨g_1, 0, none⟩))), (1, (.int .i64 x_5)), (2, (.bool x_11)), (3, (.pointer (some ⟨g_8, 0, none⟩)))]) (fun g w' => y_1i = (g.1) ∧ Hp ⟨w0, I0, B⟩ I0 [e_1f, (g.2), some (g_1, [v_3, v_b, v_d], 108), e_l, e_n, some (g_8, [v_i, v_j, v_k, v_m], 113)] w' ∧ RepS dNode_2 w' I0 v_3 x_0.nodes ∧ OwnS (dI .i64) 3 w' I0 v_b e_1f x_1e ∧ OwnS dB 4 w' I0 v_d (g.2) (g.1) ∧ RepS (dI .i64) w' I0 v_i x_7.actions ∧ RepS dB w' I0 v_j x_7.tests ∧ OwnS (dI .i64) 3 w' I0 v_k e_l x_7.status ∧ OwnS (dI .i64) 3 w' I0 v_m e_n x_7.ticked) ?_ ?_
      ·
        have hs := hp.stp (Ch.drew [] w_1g)
        have hp := hp.drew
        replace r_h := r_h.step hs
        replace o_1h := o_1h.step hs
        replace o_g := o_g.step hs
        replace r_o := r_o.step hs
        replace r_p := r_p.step hs
        replace o_q := o_q.step hs
        replace o_r := o_r.step hs
        refine W.heldT [(0, true), (1, true), (2, true), (3, true), (4, true), (5, true), (6, true), (7, true), (8, true), (9, true), (10, true), (11, true), (12, true), (13, true), (14, true), (15, true), (16, true), (17, true), (18, false)] (fun x => Stp I0 w_1g.drew I0 x ∧ OwnK [(g_1, [v_3, v_b, v_d], 108)] x) MX (by kernel_rfl) ⟨Stp.refl _ _, (OwnK.cons (hp.own 2 _ _ _ rfl).1 OwnK.nil)⟩ ?_
        have hz := Stp.refl I0 w_1g.drew
        intro ops hops
        have e0 : nthO ops 0 = some _ := (hops 0).trans rfl
        have e1 : nthO ops 1 = some _ := (hops 1).trans rfl
        have e2 : nthO ops 2 = some _ := (hops 2).trans rfl
        have e3 : nthO ops 3 = some _ := (hops 3).trans rfl
        have e4 : nthO ops 4 = some _ := (hops 4).trans rfl
        have e5 : nthO ops 5 = some _ := (hops 5).trans rfl
        have e6 : nthO ops 6 = some _ := (hops 6).trans rfl
        have e7 : nthO ops 7 = some _ := (hops 7).trans rfl
        have e8 : nthO ops 8 = some _ := (hops 8).trans rfl
        have e9 : nthO ops 9 = some _ := (hops 9).trans rfl
        have e10 : nthO ops 10 = some _ := (hops 10).trans rfl
        have e11 : nthO ops 11 = some _ := (hops 11).trans rfl
        have e12 : nthO ops 12 = some _ := (hops 12).trans rfl
        have e13 : nthO ops 13 = some _ := (hops 13).trans rfl
        have e14 : nthO ops 14 = some _ := (hops 14).trans rfl
        have e15 : nthO ops 15 = some _ := (hops 15).trans rfl
        have e16 : nthO ops 16 = some _ := (hops 16).trans rfl
        have e17 : nthO ops 17 = some _ := (hops 17).trans rfl
        have e18 : nthO ops 18 = some _ := (hops 18).trans rfl
        clear hops
        refine vch_q e0 rfl ?_
        refine vch_q e1 rfl ?_
        refine vch_q e2 rfl ?_
        refine evh0 (rn_field rfl rfl FO108_2) ?_
        refine vch_q e3 rfl ?_
        refine evh (fun w' hw => rn_load rfl rfl (run_loadVar1 T65 (hw.2.cell (i := 0) (off := 2) rfl rfl))) ?_
        refine vch_q e4 rfl ?_
        refine vch_q e5 rfl ?_
        refine vch_q e6 rfl ?_
        rcases Bool.eq_false_or_eq_true x_11 with hc | hc
        ·
          have q_1j := cond_t q_1j hc
          refine vch_qt e7 rfl e6 rfl rfl hc ?_
          refine vch_qt e8 rfl e6 rfl rfl rfl ?_
          refine vch_qt e9 rfl e6 rfl rfl rfl ?_
          refine evh0 (rn_field rfl rfl FO108_0) ?_
          refine vch_qt e10 rfl e6 rfl rfl rfl ?_
          refine evh (fun w' hw => rn_load rfl rfl (run_loadVar1 T106 (hw.2.cell (i := 0) (off := 0) rfl rfl))) ?_
          refine vch_qt e11 rfl e6 rfl rfl rfl ?_
          refine vch_qt e12 rfl e6 rfl rfl rfl ?_
          obtain ⟨x_1k, q_1l, q_1j⟩ := bind_some q_1j
          refine evh_index rfl rfl rfl Tryd.underlying106 T117 r_h q_1l ?_
          intro p_1m c_1n d_1o a_1p
          obtain ⟨v_1q, rfl, r_1r⟩ := dNode_2_o d_1o
          refine vch_qt e13 rfl e6 rfl rfl rfl ?_
          refine evh0 (rn_field rfl rfl FO117_0) ?_
          refine vch_qt e14 rfl e6 rfl rfl rfl ?_
          refine evh (fun w' hw => rn_load rfl rfl (run_loadVar1 T3 ((a_1p.step hw.1).2 0 _ rfl))) ?_
          refine vch_qt e15 rfl e6 rfl rfl rfl ?_
          refine vch_q e16 rfl ?_
          refine vch_q e17 rfl ?_
          obtain ⟨x_1s, q_1t, q_1j⟩ := bind_some q_1j
          refine evh_indexO rfl rfl rfl Tryd.underlying65 T4 o_g q_1t ?_
          intro g_1u c_1v h_1w d_1x l_1y
          refine vch_l e18 rfl ?_
          refine ev_storeE hp (i := 1) rfl h_1w rfl rfl rfl T4 o_g q_1t (x0 := (x_1k.kind == 1)) rfl ?_
          intro e_1z w_20 hp hs o_21
          replace hz := hz.trans hs
          replace r_h := r_h.step hs
          replace o_1h := o_1h.step hs
          replace r_o := r_o.step hs
          replace r_p := r_p.step hs
          replace o_q := o_q.step hs
          replace o_r := o_r.step hs
          refine ⟨fun x => Stp I0 w_20 I0 x ∧ OwnK [(g_1, [v_3, v_b, v_d], 108)] x, ⟨Stp.refl _ _, (OwnK.cons (hp.own 2 _ _ _ rfl).1 OwnK.nil)⟩, fun x hx => ⟨hz.held hx.1, hx.2⟩, ?_⟩
          have hz := Stp.refl I0 w_20
          refine vch_end ?_
          obtain rfl := Option.some.inj q_1j
          exact ⟨((upd x_0.active x_5 (x_1k.kind == 1)), e_1z), (.c rfl (.c rfl (.c rfl (.c rfl .n)))), rfl, hp, r_h, o_1h, o_21, r_o, r_p, o_q, o_r⟩
        ·
          have q_1j := cond_f q_1j hc
          refine vch_qf e7 rfl e6 rfl rfl hc ?_
          refine vch_qf e8 rfl e6 rfl rfl rfl ?_
          refine vch_qf e9 rfl e6 rfl rfl rfl ?_
          refine vch_qf e10 rfl e6 rfl rfl rfl ?_
          refine vch_qf e11 rfl e6 rfl rfl rfl ?_
          refine vch_qf e12 rfl e6 rfl rfl rfl ?_
          refine vch_qf e13 rfl e6 rfl rfl rfl ?_
          refine vch_qf e14 rfl e6 rfl rfl rfl ?_
          refine vch_qf e15 rfl e6 rfl rfl rfl ?_
          refine vch_q e16 rfl ?_
          refine vch_q e17 rfl ?_
          obtain ⟨x_22, q_23, q_1j⟩ := bind_some q_1j
          refine evh_indexO rfl rfl rfl Tryd.underlying65 T4 o_g q_23 ?_
          intro g_24 c_25 h_26 d_27 l_28
          refine vch_l e18 rfl ?_
          refine ev_storeE hp (i := 1) rfl h_26 rfl rfl rfl T4 o_g q_23 (x0 := false) rfl ?_
          intro e_29 w_2a hp hs o_2b
          replace hz := hz.trans hs
          replace r_h := r_h.step hs
          replace o_1h := o_1h.step hs
          replace r_o := r_o.step hs
          replace r_p := r_p.step hs
          replace o_q := o_q.step hs
          replace o_r := o_r.step hs
          refine ⟨fun x => Stp I0 w_2a I0 x ∧ OwnK [(g_1, [v_3, v_b, v_d], 108)] x, ⟨Stp.refl _ _, (OwnK.cons (hp.own 2 _ _ _ rfl).1 OwnK.nil)⟩, fun x hx => ⟨hz.held hx.1, hx.2⟩, ?_⟩
          have hz := Stp.refl I0 w_2a
          refine vch_end ?_
          obtain rfl := Option.some.inj q_1j
          exact ⟨((upd x_0.active x_5 false), e_29), (.c rfl (.c rfl (.c rfl (.c rfl .n)))), rfl, hp, r_h, o_1h, o_2b, r_o, r_p, o_q, o_r⟩
      ·
        rintro ⟨x_2c, e_2d⟩ w_2e ⟨hy, hp, r_h, o_1h, o_2f, r_o, r_p, o_q, o_r⟩
        replace hy := hy.symm
        subst hy
        apply go
        apply go
        refine ev0 (rn_field rfl rfl FO108_0) ?_
        refine ev (rn_load rfl rfl (run_loadVar1 T106 (hp.cell (i := 2) (off := 0) rfl rfl))) ?_
        obtain ⟨x_2g, q_2h, h⟩ := bind_some h
        refine ev_index rfl rfl rfl Tryd.underlying106 T117 r_h q_2h ?_
        intro p_2i c_2j d_2k a_2l
        obtain ⟨v_2m, rfl, r_2n⟩ := dNode_2_o d_2k
        refine ev0 (rn_field rfl rfl FO117_3) ?_
        refine ev (rn_load rfl rfl (run_loadVar1 T66 (a_2l.2 3 _ rfl))) ?_
        refine ev0 (rn_len rfl rfl Tryd.underlying66 r_2n) ?_
        apply go
        refine W.loop h (γ := (Value × Ent × Value × Ent × Value × Value × Value × Ent × Value × Ent × (Nat → Prop))) (fun s g => [(0, (.pointer (some ⟨g_1, 0, none⟩))), (2, (.bool x_11)), (3, (.pointer (some ⟨g_8, 0, none⟩))), (54, v_2m), (55, (.int .i64 (x_2g.kids.length : Int))), (56, (.int .i64 (s.2.2.2.2.2.2)))]) (fun s g w' => Hp ⟨w0, I0, B⟩ (g.2.2.2.2.2.2.2.2.2.2) [(g.2.1), (g.2.2.2.1), some (g_1, [v_3, (g.1), (g.2.2.1)], 108), (g.2.2.2.2.2.2.2.1), (g.2.2.2.2.2.2.2.2.2.1), some (g_8, [(g.2.2.2.2.1), (g.2.2.2.2.2.1), (g.2.2.2.2.2.2.1), (g.2.2.2.2.2.2.2.2.1)], 113)] w' ∧ RepS dNode_2 w' (g.2.2.2.2.2.2.2.2.2.2) v_3 x_0.nodes ∧ OwnS (dI .i64) 3 w' (g.2.2.2.2.2.2.2.2.2.2) (g.1) (g.2.1) (s.1) ∧ OwnS dB 4 w' (g.2.2.2.2.2.2.2.2.2.2) (g.2.2.1) (g.2.2.2.1) (s.2.1) ∧ RepS (dI .i64) w' (g.2.2.2.2.2.2.2.2.2.2) (g.2.2.2.2.1) (s.2.2.1) ∧ RepS dB w' (g.2.2.2.2.2.2.2.2.2.2) (g.2.2.2.2.2.1) (s.2.2.2.1) ∧ OwnS (dI .i64) 3 w' (g.2.2.2.2.2.2.2.2.2.2) (g.2.2.2.2.2.2.1) (g.2.2.2.2.2.2.2.1) (s.2.2.2.2.1) ∧ OwnS (dI .i64) 3 w' (g.2.2.2.2.2.2.2.2.2.2) (g.2.2.2.2.2.2.2.2.1) (g.2.2.2.2.2.2.2.2.2.1) (s.2.2.2.2.2.1) ∧ RepS (dI .i64) w' (g.2.2.2.2.2.2.2.2.2.2) v_2m x_2g.kids) (v_b, e_1f, v_d, e_2d, v_i, v_j, v_k, e_l, v_m, e_n, I0) (.c rfl (.c rfl (.c rfl (.c rfl (.c rfl (.c rfl .n)))))) ⟨hp, r_h, o_1h, o_2f, r_o, r_p, o_q, o_r, r_2n⟩ ?_
        rintro ⟨x_2o, x_2p, x_2q, x_2r, x_2s, x_2t, x_2u⟩ ⟨v_2v, e_2w, v_2x, e_2y, v_2z, v_30, v_31, e_32, v_33, e_34, I_35⟩ w_36 y_37 ⟨hp, r_h, o_38, o_39, r_3a, r_3b, o_3c, o_3d, r_2n⟩ q_3e q_3f
        unfold tree_Runner_settle_L0 at q_3e
        apply go
        apply go
        apply go
        apply go
        refine sel_of (fun hc => ?_) (fun hc => ?_)
        ·
          have q_3e := cond_t q_3e hc
          apply go
          apply go
          apply go
          apply go
          apply go
          obtain ⟨x_3g, q_3h, q_3e⟩ := bind_some q_3e
          refine ev_index rfl rfl rfl Tryd.underlying66 T3 r_2n q_3h ?_
          intro p_3i c_3j d_3k a_3l
          obtain rfl : c_3j = [(.int .i64 x_3g)] := d_3k
          refine ev (rn_load rfl rfl (run_loadVar1 T3 (a_3l.2 0 _ rfl))) ?_
          apply go
          obtain ⟨⟨x_3m, x_3n⟩, q_3o, q_3e⟩ := bind_some q_3e
          refine ev_call rfl rfl C52 ((ih _ _  (Runner.mk x_0.nodes x_2o x_2p) g_1 [some (g_1, [v_3, v_2v, v_2x], 108), e_2w, e_2y] v_3 ⟨v_2v, e_2w, v_2x, e_2y, rfl, o_38, o_39, r_h⟩ x_3g x_11 (Tick.mk x_2q x_2r x_2s x_2t) g_8 [some (g_8, [v_2z, v_30, v_31, v_33], 113), e_32, e_34] ⟨v_2z, v_30, v_31, e_32, v_33, e_34, rfl, r_3a, r_3b, o_3c, o_3d⟩ (hp.lendL [2, 0, 1, 5, 3, 4] (by decide)) _ q_3o).mono ?_)
          rintro _ w_3p ⟨I_3q, F_3r, F_3s, hv, hq3290, q_3t, q_3u⟩
          replace hv := hv.symm
          subst hv
          obtain ⟨v_3v, e_3w, v_3x, e_3y, rfl, o_3z, o_40⟩ := q_3t
          obtain ⟨v_41, v_42, v_43, e_44, v_45, e_46, rfl, r_47, r_48, o_49, o_4a⟩ := q_3u
          have hs := hq3290.st
          have hp := hp.backL [2, 0, 1, 5, 3, 4] [] (by decide) hq3290
          replace r_2n := r_2n.step hs
          replace r_h := r_h.step hs
          apply go
          have hp := hp.perm [1, 2, 0, 4, 5, 3] (by decide)
          exact ⟨_, (Option.some.inj q_3e).symm, (v_3v, e_3w, v_3x, e_3y, v_41, v_42, v_43, e_44, v_45, e_46, I_3q), (.c rfl (.c rfl (.c rfl (.c rfl (.c rfl (.c rfl .n)))))), ⟨hp, r_h, o_3z, o_40, r_47, r_48, o_49, o_4a, r_2n⟩⟩
        ·
          have q_3e := cond_f q_3e hc
          apply go
          have q_4b := congrArg some (q_3f _ (Option.some.inj q_3e).symm)
          obtain rfl := Option.some.inj q_4b
          have hp := hp.perm [2, 0, 1, 5, 3, 4] (by decide)
          exact ⟨I_35, [some (g_1, [v_3, v_2v, v_2x], 108), e_2w, e_2y], [some (g_8, [v_2z, v_30, v_31, v_33], 113), e_32, e_34], rfl, hp, ⟨v_2v, e_2w, v_2x, e_2y, rfl, o_38, o_39⟩, ⟨v_2z, v_30, v_31, e_32, v_33, e_34, rfl, r_3a, r_3b, o_3c, o_3d⟩⟩
theorem tree_Runner_settle_ok : ∀ n, tree_Runner_settle_S (tree_Runner_settle n)
  | 0 => by intro w0 I0 x_0 g_1 E_2 v_3 q_4 x_5 x_6 x_7 g_8 E_9 q_a hp r h; cases h
  | n + 1 => tree_Runner_settle_F_ok n _ (tree_Runner_settle_ok n)

end Go.Proofs.YtcdboppghnchpaaDoor

namespace Go.Proofs.YtcdboppghnchpaaDoor
open Go Go.Proofs.YtcdboppghnchpaaDoor.Gw Go.RowKit
set_option linter.unusedVariables false
attribute [local irreducible] Ev EvQ EvS EvH
def tree_Runner_Tick_S (f : Runner → (List Int) → (List Bool) → Option (Int × (List Int) × (List Int) × Runner)) : Prop := ∀ (w0 : World) (I0 : Nat → Prop) (x_0 : Runner) (g_1 : Nat) (E_2 : List Ent) (v_3 : Value) (q_4 : qR w0 I0 g_1 E_2 x_0 v_3) (x_5 : (List Int)) (v_6 : Value) (r_7 : RepS (dI .i64) w0 I0 v_6 x_5) (x_8 : (List Bool)) (v_9 : Value) (r_a : RepS dB w0 I0 v_9 x_8) (hp : Hp ⟨w0, I0, blks E_2⟩ I0 E_2 w0) (r : (Int × (List Int) × (List Int) × Runner)), f x_0 x_5 x_8 = some r →
    Ret Tryd.prog 24 #[(.pointer (some ⟨g_1, 0, none⟩)), v_6, v_9] w0 fun v w1 => ∃ (I1 : Nat → Prop) (u_b : Value) (u_c : Value) (u_d : List Ent) (u_e : Ent) (u_f : Ent), v = (.tuple #[(.int .i64 r.1), u_b, u_c]) ∧ Hp ⟨w0, I0, blks E_2⟩ I1 ([u_e] ++ ([u_f] ++ u_d)) w1 ∧ OwnS (dI .i64) 3 w1 I1 u_b u_e r.2.1 ∧ OwnS (dI .i64) 3 w1 I1 u_c u_f r.2.2.1 ∧ qRz w1 I1 g_1 u_d r.2.2.2 v_3
theorem tree_Runner_Tick_ok (n : Nat) : tree_Runner_Tick_S (tree_Runner_Tick n) := by
  intro w0 I0 x_0 g_1 E_2 v_3 q_4 x_5 v_6 r_7 x_8 v_9 r_a hp r h
  unfold tree_Runner_Tick at h
  refine enter Tryd.func24 rfl (Nat.le_of_ble_eq_true rfl) ?_
  generalize blks E_2 = B at hp ⊢
  obtain ⟨v_b, e_c, v_d, e_e, rfl, o_f, o_g, r_h⟩ := q_4
  have hp : Hp ⟨w0, I0, B⟩ I0 [some (g_1, [v_3, v_b, v_d], 108), e_c, e_e] w0 := hp
  apply go
  apply go
  apply go
  apply go
  apply go
  refine ev0 (rn_eqNilP rfl rfl rfl Tryd.underlying62 (b := false) rfl) ?_
  apply go
  apply go
  apply go
  apply go
  refine ev0 (rn_field rfl rfl FO108_0) ?_
  refine ev (rn_load rfl rfl (run_loadVar1 T106 (hp.cell (i := 0) (off := 0) rfl rfl))) ?_
  refine ev0 (rn_len rfl rfl Tryd.underlying106 r_h) ?_
  obtain ⟨x_i, q_j, h⟩ := bind_some h
  refine ev_make (d := (dI .i64)) (x0 := 0) hp rfl rfl rfl Tryd.underlying66 T3 (fun _ _ => rfl) (Nat.le_of_ble_eq_true rfl) q_j ?_
  intro v_k e_l w_m hp hs o_n
  replace r_7 := r_7.step hs
  replace r_a := r_a.step hs
  replace r_h := r_h.step hs
  replace o_f := o_f.step hs
  replace o_g := o_g.step hs
  obtain ⟨A_o, m_p, m_q, rfl⟩ := r_7.isSl
  obtain ⟨A_r, m_s, m_t, rfl⟩ := r_a.isSl
  obtain ⟨A_u, m_v, m_w, rfl⟩ := o_n.isSl
  refine ev0 (fun w => rn_build (cs := [(.slice A_o m_p m_q), (.slice A_r m_s m_t), (.slice A_u m_v m_w), (.slice none 0 0)]) rfl rfl T113 PL113 rfl) ?_
  refine ev_box hp rfl rfl ?_
  intro g_x w_y hp hs
  replace r_7 := r_7.step hs
  replace r_a := r_a.step hs
  replace o_n := o_n.step hs
  replace r_h := r_h.step hs
  replace o_f := o_f.step hs
  replace o_g := o_g.step hs
  apply go
  apply go
  have hp := hp.none_
  have o_z := OwnS.nil (dI .i64) 3 w_y I0
  obtain ⟨⟨x_10, x_11, x_12⟩, q_13, h⟩ := bind_some h
  refine ev_call rfl rfl C51 (((tree_Runner_run_ok n) _ _  (Runner.mk x_0.nodes x_0.counters x_0.active) g_1 [some (g_1, [v_3, v_b, v_d], 108), e_c, e_e] v_3 ⟨v_b, e_c, v_d, e_e, rfl, o_f, o_g, r_h⟩ 0 (Tick.mk x_5 x_8 x_i []) g_x [some (g_x, [(.slice A_o m_p m_q), (.slice A_r m_s m_t), (.slice A_u m_v m_w), (.slice none 0 0)], 113), e_l, none] ⟨(.slice A_o m_p m_q), (.slice A_r m_s m_t), (.slice A_u m_v m_w), e_l, (.slice none 0 0), none, rfl, r_7, r_a, o_n, o_z⟩ (hp.lendL [3, 4, 5, 1, 2, 0] (by decide)) _ q_13).mono ?_)
  rintro _ w_14 ⟨I_15, F_16, F_17, hv, hq3363, q_18, q_19⟩
  replace hv := hv.symm
  subst hv
  obtain ⟨v_1a, e_1b, v_1c, e_1d, rfl, o_1e, o_1f⟩ := q_18
  obtain ⟨v_1g, v_1h, v_1i, e_1j, v_1k, e_1l, rfl, r_1m, r_1n, o_1o, o_1p⟩ := q_19
  have hs := hq3363.st
  have hp := hp.backL [3, 4, 5, 1, 2, 0] [] (by decide) hq3363
  replace r_h := r_h.step hs
  apply go
  apply go
  refine ev0 (rn_field rfl rfl FO108_2) ?_
  refine ev (rn_load rfl rfl (run_loadVar1 T65 (hp.cell (i := 0) (off := 2) rfl rfl))) ?_
  obtain ⟨⟨x_1q, x_1r⟩, q_1s, h⟩ := bind_some h
  refine ev_call rfl rfl C50 (((slices_Clonebool_bool__ok n) _ _  x_11.active v_1c e_1d o_1f (hp.lendL [2] (by decide)) _ q_1s).mono ?_)
  rintro _ w_1t ⟨I_1u, v_1v, e_1w, e_1x, hv, hq3391, o_1y, o_1z⟩
  replace hv := hv.symm
  subst hv
  have hs := hq3391.st
  have hp := hp.backL [2] [0, 1, 3, 4, 5] (by decide) hq3391
  replace r_h := r_h.step hs
  replace o_1e := o_1e.step hs
  replace r_1m := r_1m.step hs
  replace r_1n := r_1n.step hs
  replace o_1o := o_1o.step hs
  replace o_1p := o_1p.step hs
  apply go
  apply go
  obtain ⟨⟨x_20, x_21⟩, q_22, h⟩ := bind_some h
  refine ev_call rfl rfl C52 (((tree_Runner_settle_ok n) _ _  (Runner.mk x_0.nodes x_11.counters x_1r) g_1 [some (g_1, [v_3, v_1a, v_1c], 108), e_1b, e_1x] v_3 ⟨v_1a, e_1b, v_1c, e_1x, rfl, o_1e, o_1z, r_h⟩ 0 true (Tick.mk x_12.actions x_12.tests x_12.status x_12.ticked) g_x [some (g_x, [v_1g, v_1h, v_1i, v_1k], 113), e_1j, e_1l] ⟨v_1g, v_1h, v_1i, e_1j, v_1k, e_1l, rfl, r_1m, r_1n, o_1o, o_1p⟩ (hp.lendL [2, 3, 1, 4, 5, 6] (by decide)) _ q_22).mono ?_)
  rintro _ w_23 ⟨I_24, F_25, F_26, hv, hq3401, q_27, q_28⟩
  replace hv := hv.symm
  subst hv
  obtain ⟨v_29, e_2a, v_2b, e_2c, rfl, o_2d, o_2e⟩ := q_27
  obtain ⟨v_2f, v_2g, v_2h, e_2i, v_2j, e_2k, rfl, r_2l, r_2m, o_2n, o_2o⟩ := q_28
  have hs := hq3401.st
  have hp := hp.backL [2, 3, 1, 4, 5, 6] [0] (by decide) hq3401
  replace o_1y := o_1y.step hs
  replace r_h := r_h.step hs
  apply go
  apply go
  obtain ⟨y_2p, q_2q, h⟩ := bind_some h
  refine W.cut (γ := ((List Int) × Value × Ent × (Nat → Prop))) (fun g => [(9, (.pointer (some ⟨g_x, 0, none⟩))), (10, (.int .i64 x_10)), (12, (g.2.1))]) (fun g w' => y_2p = (g.1) ∧ Hp ⟨w0, I0, B⟩ (g.2.2.2) [e_2i, e_2k, some (g_x, [v_2f, v_2g, v_2h, v_2j], 113), (g.2.2.1), e_2a, e_2c, some (g_1, [v_3, v_29, v_2b], 108)] w' ∧ RepS (dI .i64) w' (g.2.2.2) v_2f x_21.actions ∧ RepS dB w' (g.2.2.2) v_2g x_21.tests ∧ OwnS (dI .i64) 3 w' (g.2.2.2) v_2h e_2i x_21.status ∧ OwnS (dI .i64) 3 w' (g.2.2.2) v_2j e_2k x_21.ticked ∧ OwnS (dI .i64) 3 w' (g.2.2.2) (g.2.1) (g.2.2.1) (g.1) ∧ RepS dNode_2 w' (g.2.2.2) v_3 x_0.nodes ∧ OwnS (dI .i64) 3 w' (g.2.2.2) v_29 e_2a x_20.counters ∧ OwnS dB 4 w' (g.2.2.2) v_2b e_2c x_20.active) ?_ ?_
  ·
    apply go
    apply go
    refine ev0 (rn_field rfl rfl FO108_0) ?_
    refine ev (rn_load rfl rfl (run_loadVar1 T106 (hp.cell (i := 0) (off := 0) rfl rfl))) ?_
    refine ev0 (rn_len rfl rfl Tryd.underlying106 r_h) ?_
    apply go
    have hp := hp.none_
    have o_2r := OwnS.nil (dI .i64) 3 w_23 I_24
    have hp := hp.perm [2, 3, 1, 5, 6, 4, 7, 0] (by decide)
    refine W.loop q_2q (γ := (Value × Ent × (Nat → Prop))) (fun s g => [(0, (.pointer (some ⟨g_1, 0, none⟩))), (9, (.pointer (some ⟨g_x, 0, none⟩))), (10, (.int .i64 x_10)), (11, v_1v), (12, (g.1)), (41, v_3), (42, (.int .i64 (x_0.nodes.length : Int))), (43, (.int .i64 (s.2)))]) (fun s g w' => Hp ⟨w0, I0, B⟩ (g.2.2) [e_2a, e_2c, some (g_1, [v_3, v_29, v_2b], 108), e_2i, e_2k, some (g_x, [v_2f, v_2g, v_2h, v_2j], 113), e_1w, (g.2.1)] w' ∧ RepS dNode_2 w' (g.2.2) v_3 x_0.nodes ∧ OwnS (dI .i64) 3 w' (g.2.2) v_29 e_2a x_20.counters ∧ OwnS dB 4 w' (g.2.2) v_2b e_2c x_20.active ∧ RepS (dI .i64) w' (g.2.2) v_2f x_21.actions ∧ RepS dB w' (g.2.2) v_2g x_21.tests ∧ OwnS (dI .i64) 3 w' (g.2.2) v_2h e_2i x_21.status ∧ OwnS (dI .i64) 3 w' (g.2.2) v_2j e_2k x_21.ticked ∧ OwnS dB 4 w' (g.2.2) v_1v e_1w x_1q ∧ OwnS (dI .i64) 3 w' (g.2.2) (g.1) (g.2.1) (s.1)) ((.slice none 0 0), none, I_24) (.c rfl (.c rfl (.c rfl (.c rfl (.c rfl (.c rfl (.c rfl (.c rfl .n)))))))) ⟨hp, r_h, o_2d, o_2e, r_2l, r_2m, o_2n, o_2o, o_1y, o_2r⟩ ?_
    rintro ⟨x_2s, x_2t⟩ ⟨v_2u, e_2v, I_2w⟩ w_2x y_2y ⟨hp, r_h, o_2d, o_2e, r_2l, r_2m, o_2n, o_2o, o_1y, o_2z⟩ q_30 q_31
    unfold tree_Runner_Tick_L1 at q_30
    apply go
    apply go
    apply go
    apply go
    refine sel_of (fun hc => ?_) (fun hc => ?_)
    ·
      have q_30 := cond_t q_30 hc
      apply go
      obtain ⟨y_32, q_33, q_30⟩ := bind_some q_30
      refine W.cut (γ := ((List Int) × Value × Ent × (Nat → Prop))) (fun g => [(0, (.pointer (some ⟨g_1, 0, none⟩))), (9, (.pointer (some ⟨g_x, 0, none⟩))), (10, (.int .i64 x_10)), (11, v_1v), (12, (g.2.1)), (41, v_3), (42, (.int .i64 (x_0.nodes.length : Int))), (43, (.int .i64 x_2t))]) (fun g w' => y_32 = (g.1) ∧ Hp ⟨w0, I0, B⟩ (g.2.2.2) [e_2a, e_2c, some (g_1, [v_3, v_29, v_2b], 108), e_2i, e_2k, some (g_x, [v_2f, v_2g, v_2h, v_2j], 113), e_1w, (g.2.2.1)] w' ∧ RepS dNode_2 w' (g.2.2.2) v_3 x_0.nodes ∧ OwnS (dI .i64) 3 w' (g.2.2.2) v_29 e_2a x_20.counters ∧ OwnS dB 4 w' (g.2.2.2) v_2b e_2c x_20.active ∧ RepS (dI .i64) w' (g.2.2.2) v_2f x_21.actions ∧ RepS dB w' (g.2.2.2) v_2g x_21.tests ∧ OwnS (dI .i64) 3 w' (g.2.2.2) v_2h e_2i x_21.status ∧ OwnS (dI .i64) 3 w' (g.2.2.2) v_2j e_2k x_21.ticked ∧ OwnS dB 4 w' (g.2.2.2) v_1v e_1w x_1q ∧ OwnS (dI .i64) 3 w' (g.2.2.2) (g.2.1) (g.2.2.1) (g.1)) ?_ ?_
      ·
        apply go
        apply go
        apply go
        obtain ⟨x_34, q_35, q_33⟩ := bind_some q_33
        refine ev_index rfl rfl rfl Tryd.underlying106 T117 r_h q_35 ?_
        intro p_36 c_37 d_38 a_39
        obtain ⟨v_3a, rfl, r_3b⟩ := dNode_2_o d_38
        refine ev (rn_load rfl rfl (run_loadVarA T117 rfl a_39)) ?_
        refine ev_alloc hp rfl T117 ?_
        intro g_3c w_3d hp hs
        replace o_1y := o_1y.step hs
        replace o_2z := o_2z.step hs
        replace r_h := r_h.step hs
        replace r_3b := r_3b.step hs
        replace o_2d := o_2d.step hs
        replace o_2e := o_2e.step hs
        replace r_2l := r_2l.step hs
        replace r_2m := r_2m.step hs
        replace o_2n := o_2n.step hs
        replace o_2o := o_2o.step hs
        refine ev_storeA hp (i := 0) (off := 0) (vs := [(.int .i64 x_34.kind), (.int .i64 x_34.name), (.int .i64 x_34.count), v_3a]) rfl rfl rfl rfl T117 rfl (Nat.le_of_ble_eq_true rfl) (ones_cons rfl (ones_cons rfl (ones_cons rfl (ones_cons r_3b.one ones_nil)))) ?_
        intro w_3e hp hs
        replace o_1y := o_1y.step hs
        replace o_2z := o_2z.step hs
        replace r_h := r_h.step hs
        replace r_3b := r_3b.step hs
        replace o_2d := o_2d.step hs
        replace o_2e := o_2e.step hs
        replace r_2l := r_2l.step hs
        replace r_2m := r_2m.step hs
        replace o_2n := o_2n.step hs
        replace o_2o := o_2o.step hs
        apply go
        apply go
        apply go
        refine ev0 (rn_field rfl rfl FO117_0) ?_
        refine ev (rn_load rfl rfl (run_loadVar1 T3 (hp.cell (i := 0) (off := 0) rfl rfl))) ?_
        apply go
        refine sel_of (fun hc => ?_) (fun hc => ?_)
        ·
          have q_33 := cond_t q_33 hc
          apply go
          obtain rfl := Option.some.inj q_33
          have hp := hp.sel [1, 2, 3, 4, 5, 6, 7, 8] (by decide)
          exact ⟨(x_2s, v_2u, e_2v, I_2w), (.c rfl (.c rfl (.c rfl (.c rfl (.c rfl (.c rfl (.c rfl (.c rfl .n)))))))), rfl, hp, r_h, o_2d, o_2e, r_2l, r_2m, o_2n, o_2o, o_1y, o_2z⟩
        ·
          have q_33 := cond_f q_33 hc
          apply go
          obtain ⟨y_3f, q_3g, q_33⟩ := bind_some q_33
          refine W.cut (γ := Bool) (fun g => [(0, (.pointer (some ⟨g_1, 0, none⟩))), (9, (.pointer (some ⟨g_x, 0, none⟩))), (10, (.int .i64 x_10)), (11, v_1v), (12, v_2u), (13, (.int .i64 x_2t)), (41, v_3), (42, (.int .i64 (x_0.nodes.length : Int))), (43, (.int .i64 x_2t)), (84, (.bool (g)))]) (fun g w' => y_3f = (g) ∧ w_3e = w') ?_ ?_
          ·
            apply go
            obtain ⟨x_3h, q_3i, q_3g⟩ := bind_some q_3g
            refine ev_indexO rfl rfl rfl Tryd.underlying65 T4 o_1y q_3i ?_
            intro g_3j c_3k h_3l d_3m l_3n
            refine ev (rn_load rfl rfl (run_loadVar1 T4 (hp.cellE (i := 7) rfl h_3l d_3m (j := 0) rfl))) ?_
            refine sel_of (fun hc => ?_) (fun hc => ?_)
            ·
              have q_3g := cond_t q_3g hc
              refine ev0 (rn_field rfl rfl FO113_2) ?_
              refine ev (rn_load rfl rfl (run_loadVar1 T66 (hp.cell (i := 6) (off := 2) rfl rfl))) ?_
              obtain ⟨x_3o, q_3p, q_3g⟩ := bind_some q_3g
              refine ev_indexO rfl rfl rfl Tryd.underlying66 T3 o_2n q_3p ?_
              intro g_3q c_3r h_3s d_3t l_3u
              refine ev (rn_load rfl rfl (run_loadVar1 T3 (hp.cellE (i := 4) rfl h_3s d_3t (j := 0) rfl))) ?_
              refine sel_of (fun hc => ?_) (fun hc => ?_)
              ·
                have q_3g := cond_t q_3g hc
                obtain rfl := Option.some.inj q_3g
                exact ⟨true, (.c rfl (.c rfl (.c rfl (.c rfl (.c rfl (.c rfl (.c rfl (.c rfl (.c rfl (.c rfl .n)))))))))), rfl, rfl⟩
              ·
                have q_3g := cond_f q_3g hc
                refine ev0 (rn_field rfl rfl FO113_2) ?_
                refine ev (rn_load rfl rfl (run_loadVar1 T66 (hp.cell (i := 6) (off := 2) rfl rfl))) ?_
                obtain ⟨x_3v, q_3w, q_3g⟩ := bind_some q_3g
                refine ev_indexO rfl rfl rfl Tryd.underlying66 T3 o_2n q_3w ?_
                intro g_3x c_3y h_3z d_40 l_41
                refine ev (rn_load rfl rfl (run_loadVar1 T3 (hp.cellE (i := 4) rfl h_3z d_40 (j := 0) rfl))) ?_
                refine sel_of (fun hc => ?_) (fun hc => ?_)
                ·
                  have q_3g := cond_t q_3g hc
                  refine ev0 (rn_field rfl rfl FO108_2) ?_
                  refine ev (rn_load rfl rfl (run_loadVar1 T65 (hp.cell (i := 3) (off := 2) rfl rfl))) ?_
                  obtain ⟨x_42, q_43, q_3g⟩ := bind_some q_3g
                  refine ev_indexO rfl rfl rfl Tryd.underlying65 T4 o_2e q_43 ?_
                  intro g_44 c_45 h_46 d_47 l_48
                  refine ev (rn_load rfl rfl (run_loadVar1 T4 (hp.cellE (i := 2) rfl h_46 d_47 (j := 0) rfl))) ?_
                  obtain rfl := Option.some.inj q_3g
                  exact ⟨(!x_42), (.c rfl (.c rfl (.c rfl (.c rfl (.c rfl (.c rfl (.c rfl (.c rfl (.c rfl (.c rfl .n)))))))))), rfl, rfl⟩
                ·
                  have q_3g := cond_f q_3g hc
                  obtain rfl := Option.some.inj q_3g
                  exact ⟨false, (.c rfl (.c rfl (.c rfl (.c rfl (.c rfl (.c rfl (.c rfl (.c rfl (.c rfl (.c rfl .n)))))))))), rfl, rfl⟩
            ·
              have q_3g := cond_f q_3g hc
              refine ev0 (rn_field rfl rfl FO113_2) ?_
              refine ev (rn_load rfl rfl (run_loadVar1 T66 (hp.cell (i := 6) (off := 2) rfl rfl))) ?_
              obtain ⟨x_49, q_4a, q_3g⟩ := bind_some q_3g
              refine ev_indexO rfl rfl rfl Tryd.underlying66 T3 o_2n q_4a ?_
              intro g_4b c_4c h_4d d_4e l_4f
              refine ev (rn_load rfl rfl (run_loadVar1 T3 (hp.cellE (i := 4) rfl h_4d d_4e (j := 0) rfl))) ?_
              refine sel_of (fun hc => ?_) (fun hc => ?_)
              ·
                have q_3g := cond_t q_3g hc
                refine ev0 (rn_field rfl rfl FO108_2) ?_
                refine ev (rn_load rfl rfl (run_loadVar1 T65 (hp.cell (i := 3) (off := 2) rfl rfl))) ?_
                obtain ⟨x_4g, q_4h, q_3g⟩ := bind_some q_3g
                refine ev_indexO rfl rfl rfl Tryd.underlying65 T4 o_2e q_4h ?_
                intro g_4i c_4j h_4k d_4l l_4m
                refine ev (rn_load rfl rfl (run_loadVar1 T4 (hp.cellE (i := 2) rfl h_4k d_4l (j := 0) rfl))) ?_
                obtain rfl := Option.some.inj q_3g
                exact ⟨(!x_4g), (.c rfl (.c rfl (.c rfl (.c rfl (.c rfl (.c rfl (.c rfl (.c rfl (.c rfl (.c rfl .n)))))))))), rfl, rfl⟩
              ·
                have q_3g := cond_f q_3g hc
                obtain rfl := Option.some.inj q_3g
                exact ⟨false, (.c rfl (.c rfl (.c rfl (.c rfl (.c rfl (.c rfl (.c rfl (.c rfl (.c rfl (.c rfl .n)))))))))), rfl, rfl⟩
          ·
            rintro x_4n _ ⟨hy, rfl⟩
            replace hy := hy.symm
            subst hy
            apply go
            refine sel_of (fun hc => ?_) (fun hc => ?_)
            ·
              have q_33 := cond_t q_33 hc
              apply go
              refine ev_litN (d := (dI .i64)) (xs := [x_2t]) (cs := [(.int .i64 x_2t)]) hp rfl rfl Tryd.underlying66 T3 (by decide) rfl rfl (Elems.cons (d := (dI .i64)) (xs := _) rfl (Elems.nil _ _ _ _)) ?_
              intro v_4o I_4p w_4q hp hs r_4r
              replace o_1y := o_1y.step hs
              replace r_h := r_h.step hs
              replace o_2z := o_2z.step hs
              replace r_3b := r_3b.step hs
              replace o_2d := o_2d.step hs
              replace o_2e := o_2e.step hs
              replace r_2l := r_2l.step hs
              replace r_2m := r_2m.step hs
              replace o_2n := o_2n.step hs
              replace o_2o := o_2o.step hs
              obtain ⟨x_4s, q_4t, q_33⟩ := bind_some q_33
              refine ev_append hp (i := 8) rfl rfl rfl rfl Tryd.underlying66 T3 rfl rfl o_2z r_4r q_4t ?_
              rintro v_4u e_4v w_4w hp hs o_4x
              replace o_1y := o_1y.step hs
              replace r_h := r_h.step hs
              replace r_3b := r_3b.step hs
              replace o_2d := o_2d.step hs
              replace o_2e := o_2e.step hs
              replace r_2l := r_2l.step hs
              replace r_2m := r_2m.step hs
              replace o_2n := o_2n.step hs
              replace o_2o := o_2o.step hs
              obtain rfl := Option.some.inj q_33
              have hp := hp.sel [1, 2, 3, 4, 5, 6, 7, 8] (by decide)
              exact ⟨(x_4s, v_4u, e_4v, I_4p), (.c rfl (.c rfl (.c rfl (.c rfl (.c rfl (.c rfl (.c rfl (.c rfl .n)))))))), rfl, hp, r_h, o_2d, o_2e, r_2l, r_2m, o_2n, o_2o, o_1y, o_4x⟩
            ·
              have q_33 := cond_f q_33 hc
              apply go
              obtain rfl := Option.some.inj q_33
              have hp := hp.sel [1, 2, 3, 4, 5, 6, 7, 8] (by decide)
              exact ⟨(x_2s, v_2u, e_2v, I_2w), (.c rfl (.c rfl (.c rfl (.c rfl (.c rfl (.c rfl (.c rfl (.c rfl .n)))))))), rfl, hp, r_h, o_2d, o_2e, r_2l, r_2m, o_2n, o_2o, o_1y, o_2z⟩
      ·
        rintro ⟨x_4y, v_4z, e_50, I_51⟩ w_52 ⟨hy, hp, r_h, o_2d, o_2e, r_2l, r_2m, o_2n, o_2o, o_1y, o_53⟩
        replace hy := hy.symm
        subst hy
        apply go
        exact ⟨_, (Option.some.inj q_30).symm, (v_4z, e_50, I_51), (.c rfl (.c rfl (.c rfl (.c rfl (.c rfl (.c rfl (.c rfl (.c rfl .n)))))))), ⟨hp, r_h, o_2d, o_2e, r_2l, r_2m, o_2n, o_2o, o_1y, o_53⟩⟩
    ·
      have q_30 := cond_f q_30 hc
      apply go
      have q_54 := congrArg some (q_31 _ (Option.some.inj q_30).symm)
      obtain rfl := Option.some.inj q_54
      have hp := hp.perm [3, 4, 5, 7, 0, 1, 2] (by decide)
      exact ⟨(x_2s, v_2u, e_2v, I_2w), (.c rfl (.c rfl (.c rfl .n))), rfl, hp, r_2l, r_2m, o_2n, o_2o, o_2z, r_h, o_2d, o_2e⟩
  ·
    rintro ⟨x_55, v_56, e_57, I_58⟩ w_59 ⟨hy, hp, r_2l, r_2m, o_2n, o_2o, o_5a, r_h, o_2d, o_2e⟩
    replace hy := hy.symm
    subst hy
    apply go
    refine W.quiet (fun w' => Ch [] w_59 w') MX (by kernel_rfl) (Ch.drew [] w_59) ?_
    refine evq0 (rn_field rfl rfl FO113_3) ?_
    refine evq (fun w' hw => rn_load rfl rfl (run_loadVar1 T66 ((hp.ext hw).cell (i := 2) (off := 3) rfl rfl))) ?_
    intro w_5b hc
    have hs := hp.stp hc
    replace hp := hp.ext hc
    replace o_2o := o_2o.step hs
    replace o_5a := o_5a.step hs
    replace r_2l := r_2l.step hs
    replace r_2m := r_2m.step hs
    replace o_2n := o_2n.step hs
    replace r_h := r_h.step hs
    replace o_2d := o_2d.step hs
    replace o_2e := o_2e.step hs
    apply go
    obtain rfl := Option.some.inj h
    have hp := hp.perm [1, 3, 6, 4, 5] (by decide)
    exact ⟨I_58, v_2j, v_56, [some (g_1, [v_3, v_29, v_2b], 108), e_2a, e_2c], e_2k, e_57, rfl, hp, o_2o, o_5a, ⟨v_29, e_2a, v_2b, e_2c, rfl, o_2d, o_2e⟩⟩

end Go.Proofs.YtcdboppghnchpaaDoor

namespace Go.Proofs.YtcdboppghnchpaaDoor
open Go Go.Proofs.YtcdboppghnchpaaDoor.Gw Go.RowKit
set_option linter.unusedVariables false
attribute [local irreducible] Ev EvQ EvS EvH vch
def mission_Mission_Tick_S (f : Mission → (List Int) → Option (Int × Int × Int × Mission)) : Prop := ∀ (w0 : World) (I0 : Nat → Prop) (x_0 : Mission) (g_1 : Nat) (E_2 : List Ent) (q_3 : qM w0 I0 g_1 E_2 x_0) (x_4 : (List Int)) (v_5 : Value) (r_6 : RepS (dI .i64) w0 I0 v_5 x_4) (hp : Hp ⟨w0, I0, blks E_2⟩ I0 E_2 w0) (r : (Int × Int × Int × Mission)), f x_0 x_4 = some r →
    Ret Tryd.prog 23 #[(.pointer (some ⟨g_1, 0, none⟩)), v_5] w0 fun v w1 => ∃ (I1 : Nat → Prop) (u_7 : List Ent), v = (.tuple #[(.int .i64 r.1), (.int .i64 r.2.1), (.int .i64 r.2.2.1)]) ∧ Hp ⟨w0, I0, blks E_2⟩ I1 u_7 w1 ∧ qM w1 I1 g_1 u_7 r.2.2.2
theorem mission_Mission_Tick_ok (n : Nat) : mission_Mission_Tick_S (mission_Mission_Tick n) := by
  intro w0 I0 x_0 g_1 E_2 q_3 x_4 v_5 r_6 hp r h
  unfold mission_Mission_Tick at h
  refine enter Tryd.func23 rfl (Nat.le_of_ble_eq_true rfl) ?_
  generalize blks E_2 = B at hp ⊢
  obtain ⟨g_7, E_8, v_9, e_a, rfl, q_b, o_c⟩ := q_3
  obtain ⟨v_d, v_e, e_f, v_g, e_h, rfl, r_i, o_j, o_k⟩ := q_b
  have hp : Hp ⟨w0, I0, B⟩ I0 [some (g_1, [(.pointer (some ⟨g_7, 0, none⟩)), v_9, (.int .i64 x_0.status), (.int .i64 x_0.ticks)], 91), some (g_7, [v_d, v_e, v_g], 108), e_f, e_h, e_a] w0 := hp
  apply go
  apply go
  apply go
  apply go
  apply go
  apply go
  refine ev0 (rn_eqNilP rfl rfl rfl Tryd.underlying51 (b := false) rfl) ?_
  apply go
  apply go
  apply go
  refine ev0 (rn_field rfl rfl FO91_2) ?_
  refine ev (rn_load rfl rfl (run_loadVar1 T3 (hp.cell (i := 0) (off := 2) rfl rfl))) ?_
  apply go
  refine sel_of (fun hc => ?_) (fun hc => ?_)
  ·
    have h := cond_t h hc
    apply go
    apply go
    apply go
    obtain rfl := Option.some.inj h
    exact ⟨I0, [some (g_1, [(.pointer (some ⟨g_7, 0, none⟩)), v_9, (.int .i64 x_0.status), (.int .i64 x_0.ticks)], 91), some (g_7, [v_d, v_e, v_g], 108), e_f, e_h, e_a], rfl, hp, ⟨g_7, [some (g_7, [v_d, v_e, v_g], 108), e_f, e_h], v_9, e_a, rfl, ⟨v_d, v_e, e_f, v_g, e_h, rfl, r_i, o_j, o_k⟩, o_c⟩⟩
  ·
    have h := cond_f h hc
    apply go
    apply go
    have hs := hp.stp (Ch.drew [] w0)
    have hp := hp.drew
    replace r_6 := r_6.step hs
    replace o_c := o_c.step hs
    replace r_i := r_i.step hs
    replace o_j := o_j.step hs
    replace o_k := o_k.step hs
    refine W.heldT [(0, true), (1, true), (2, true), (3, true), (4, true), (5, true), (6, true), (7, true), (8, true), (9, false), (10, false), (11, true), (12, true), (13, true), (14, true), (15, true), (16, true), (17, true)] (fun x => Stp I0 w0.drew I0 x ∧ OwnK [(g_1, [(.pointer (some ⟨g_7, 0, none⟩)), v_9, (.int .i64 x_0.status), (.int .i64 x_0.ticks)], 91)] x) MX (by kernel_rfl) ⟨Stp.refl _ _, (OwnK.cons (hp.own 0 _ _ _ rfl).1 OwnK.nil)⟩ ?_
    have hz := Stp.refl I0 w0.drew
    intro ops hops
    have e0 : nthO ops 0 = some _ := (hops 0).trans rfl
    have e1 : nthO ops 1 = some _ := (hops 1).trans rfl
    have e2 : nthO ops 2 = some _ := (hops 2).trans rfl
    have e3 : nthO ops 3 = some _ := (hops 3).trans rfl
    have e4 : nthO ops 4 = some _ := (hops 4).trans rfl
    have e5 : nthO ops 5 = some _ := (hops 5).trans rfl
    have e6 : nthO ops 6 = some _ := (hops 6).trans rfl
    have e7 : nthO ops 7 = some _ := (hops 7).trans rfl
    have e8 : nthO ops 8 = some _ := (hops 8).trans rfl
    have e9 : nthO ops 9 = some _ := (hops 9).trans rfl
    have e10 : nthO ops 10 = some _ := (hops 10).trans rfl
    have e11 : nthO ops 11 = some _ := (hops 11).trans rfl
    have e12 : nthO ops 12 = some _ := (hops 12).trans rfl
    have e13 : nthO ops 13 = some _ := (hops 13).trans rfl
    have e14 : nthO ops 14 = some _ := (hops 14).trans rfl
    have e15 : nthO ops 15 = some _ := (hops 15).trans rfl
    have e16 : nthO ops 16 = some _ := (hops 16).trans rfl
    have e17 : nthO ops 17 = some _ := (hops 17).trans rfl
    clear hops
    refine vch_q e0 rfl ?_
    refine vch_q e1 rfl ?_
    refine vch_q e2 rfl ?_
    refine evh0 (rn_field rfl rfl FO91_0) ?_
    refine vch_q e3 rfl ?_
    refine evh (fun w' hw => rn_load rfl rfl (run_loadVar1 T62 (hw.2.cell (i := 0) (off := 0) rfl rfl))) ?_
    refine vch_q e4 rfl ?_
    refine vch_q e5 rfl ?_
    refine vch_q e6 rfl ?_
    refine vch_q e7 rfl ?_
    refine evh0 (rn_field rfl rfl FO91_1) ?_
    refine vch_q e8 rfl ?_
    refine evh (fun w' hw => rn_load rfl rfl (run_loadVar1 T65 (hw.2.cell (i := 0) (off := 1) rfl rfl))) ?_
    refine vch_l e9 rfl ?_
    obtain ⟨⟨x_l, x_m⟩, q_n, h⟩ := bind_some h
    refine ev_call rfl rfl C50 (((slices_Clonebool_bool__ok n) _ _  x_0.done v_9 e_a o_c (hp.lendL [4] (by decide)) _ q_n).mono ?_)
    rintro _ w_o ⟨I_p, v_q, e_r, e_s, hv, hq5027, o_t, o_u⟩
    replace hv := hv.symm
    subst hv
    have hs := hq5027.st
    have hp := hp.backL [4] [0, 1, 2, 3] (by decide) hq5027
    replace hz := hz.trans hs
    replace r_6 := r_6.step hs
    replace r_i := r_i.step hs
    replace o_j := o_j.step hs
    replace o_k := o_k.step hs
    refine ⟨fun x => Stp I_p w_o I_p x ∧ OwnK [(g_1, [(.pointer (some ⟨g_7, 0, none⟩)), v_9, (.int .i64 x_0.status), (.int .i64 x_0.ticks)], 91)] x, ⟨Stp.refl _ _, (OwnK.cons (hp.own 2 _ _ _ rfl).1 OwnK.nil)⟩, fun x hx => ⟨hz.held hx.1, hx.2⟩, ?_⟩
    have hz := Stp.refl I_p w_o
    refine vch_l e10 rfl ?_
    have r_v := o_t.frz hp (i := 0) rfl
    obtain ⟨hp, hs⟩ := freeze_hp hp (i := 0) rfl
    replace hz := hz.trans hs
    replace r_6 := r_6.step hs
    replace o_u := o_u.step hs
    replace r_i := r_i.step hs
    replace o_j := o_j.step hs
    replace o_k := o_k.step hs
    have hp := hp.sel [1, 2, 3, 4, 5] (by decide)
    obtain ⟨⟨x_w, x_x, x_y, x_z⟩, q_10, h⟩ := bind_some h
    refine ev_call rfl rfl C24 (((tree_Runner_Tick_ok n) _ _  (Runner.mk x_0.run.nodes x_0.run.counters x_0.run.active) g_7 [some (g_7, [v_d, v_e, v_g], 108), e_f, e_h] v_d ⟨v_e, e_f, v_g, e_h, rfl, o_j, o_k, r_i⟩ x_4 v_5 r_6 x_l v_q r_v (hp.lendL [2, 3, 4] (by decide)) _ q_10).mono ?_)
    rintro _ w_11 ⟨I_12, v_13, v_14, F_15, e_16, e_17, hv, hq5044, o_18, o_19, q_1a⟩
    replace hv := hv.symm
    subst hv
    obtain ⟨v_1b, e_1c, v_1d, e_1e, rfl, o_1f, o_1g⟩ := q_1a
    have hs := hq5044.st
    have hp := hp.backL [2, 3, 4] [0, 1] (by decide) hq5044
    replace hz := hz.trans hs
    replace r_6 := r_6.step hs
    replace r_i := r_i.step hs
    replace o_u := o_u.step hs
    refine ⟨fun x => Stp I_12 w_11 I_12 x ∧ OwnK [(g_1, [(.pointer (some ⟨g_7, 0, none⟩)), v_9, (.int .i64 x_0.status), (.int .i64 x_0.ticks)], 91)] x, ⟨Stp.refl _ _, (OwnK.cons (hp.own 6 _ _ _ rfl).1 OwnK.nil)⟩, fun x hx => ⟨hz.held hx.1, hx.2⟩, ?_⟩
    have hz := Stp.refl I_12 w_11
    refine vch_q e11 rfl ?_
    refine vch_q e12 rfl ?_
    refine vch_q e13 rfl ?_
    refine vch_q e14 rfl ?_
    refine vch_q e15 rfl ?_
    refine vch_q e16 rfl ?_
    refine vch_q e17 rfl ?_
    refine vch_end ?_
    apply go
    apply go
    obtain ⟨y_1h, q_1i, h⟩ := bind_some h
    refine W.cut (γ := ((List Bool) × Int × Ent)) (fun g => [(0, (.pointer (some ⟨g_1, 0, none⟩))), (7, (.int .i64 x_w)), (10, (.int .i64 (g.2.1)))]) (fun g w' => y_1h = ((g.1), (g.2.1)) ∧ Hp ⟨w0, I0, B⟩ I_12 [e_1c, e_1e, some (g_7, [v_d, v_1b, v_1d], 108), (g.2.2), some (g_1, [(.pointer (some ⟨g_7, 0, none⟩)), v_9, (.int .i64 x_0.status), (.int .i64 x_0.ticks)], 91)] w' ∧ RepS dNode_2 w' I_12 v_d x_0.run.nodes ∧ OwnS (dI .i64) 3 w' I_12 v_1b e_1c x_z.counters ∧ OwnS dB 4 w' I_12 v_1d e_1e x_z.active ∧ OwnS dB 4 w' I_12 v_9 (g.2.2) (g.1)) ?_ ?_
    ·
      apply go
      apply go
      refine ev0 (x_lenO rfl rfl Tryd.underlying66 o_18) ?_
      apply go
      have hp := hp.perm [3, 4, 2, 5, 6, 0] (by decide)
      refine W.loop q_1i (γ := Ent) (fun s g => [(0, (.pointer (some ⟨g_1, 0, none⟩))), (1, v_5), (7, (.int .i64 x_w)), (10, (.int .i64 (s.2.1))), (38, v_13), (39, (.int .i64 (x_x.length : Int))), (40, (.int .i64 (s.2.2)))]) (fun s g w' => Hp ⟨w0, I0, B⟩ I_12 [e_1c, e_1e, some (g_7, [v_d, v_1b, v_1d], 108), (g), some (g_1, [(.pointer (some ⟨g_7, 0, none⟩)), v_9, (.int .i64 x_0.status), (.int .i64 x_0.ticks)], 91), e_16] w' ∧ RepS dNode_2 w' I_12 v_d x_0.run.nodes ∧ OwnS (dI .i64) 3 w' I_12 v_1b e_1c x_z.counters ∧ OwnS dB 4 w' I_12 v_1d e_1e x_z.active ∧ OwnS dB 4 w' I_12 v_9 (g) (s.1) ∧ RepS (dI .i64) w' I_12 v_5 x_4 ∧ OwnS (dI .i64) 3 w' I_12 v_13 e_16 x_x) e_s (.c rfl (.c rfl (.c rfl (.c rfl (.c rfl (.c rfl (.c rfl .n))))))) ⟨hp, r_i, o_1f, o_1g, o_u, r_6, o_18⟩ ?_
      rintro ⟨x_1j, x_1k, x_1l⟩ e_1m w_1n y_1o ⟨hp, r_i, o_1f, o_1g, o_1p, r_6, o_18⟩ q_1q q_1r
      unfold mission_Mission_Tick_L1 at q_1q
      apply go
      apply go
      apply go
      apply go
      refine sel_of (fun hc => ?_) (fun hc => ?_)
      ·
        have q_1q := cond_t q_1q hc
        apply go
        obtain ⟨y_1s, q_1t, q_1q⟩ := bind_some q_1q
        refine W.cut (γ := ((List Bool) × Int × Ent)) (fun g => [(0, (.pointer (some ⟨g_1, 0, none⟩))), (1, v_5), (7, (.int .i64 x_w)), (10, (.int .i64 (g.2.1))), (38, v_13), (39, (.int .i64 (x_x.length : Int))), (40, (.int .i64 x_1l))]) (fun g w' => y_1s = ((g.1), (g.2.1)) ∧ Hp ⟨w0, I0, B⟩ I_12 [e_1c, e_1e, some (g_7, [v_d, v_1b, v_1d], 108), (g.2.2), some (g_1, [(.pointer (some ⟨g_7, 0, none⟩)), v_9, (.int .i64 x_0.status), (.int .i64 x_0.ticks)], 91), e_16] w' ∧ RepS dNode_2 w' I_12 v_d x_0.run.nodes ∧ OwnS (dI .i64) 3 w' I_12 v_1b e_1c x_z.counters ∧ OwnS dB 4 w' I_12 v_1d e_1e x_z.active ∧ OwnS dB 4 w' I_12 v_9 (g.2.2) (g.1) ∧ RepS (dI .i64) w' I_12 v_5 x_4 ∧ OwnS (dI .i64) 3 w' I_12 v_13 e_16 x_x) ?_ ?_
        ·
          apply go
          apply go
          apply go
          obtain ⟨x_1u, q_1v, q_1t⟩ := bind_some q_1t
          refine ev_indexO rfl rfl rfl Tryd.underlying66 T3 o_18 q_1v ?_
          intro g_1w c_1x h_1y d_1z l_20
          refine ev (rn_load rfl rfl (run_loadVar1 T3 (hp.cellE (i := 5) rfl h_1y d_1z (j := 0) rfl))) ?_
          apply go
          apply go
          refine ⟨by decide, ?_⟩
          apply go
          apply go
          refine ⟨by decide, ?_⟩
          apply go
          apply go
          apply go
          apply go
          refine sel_of (fun hc => ?_) (fun hc => ?_)
          ·
            have q_1t := cond_t q_1t hc
            apply go
            apply go
            obtain ⟨y_21, q_22, q_1t⟩ := bind_some q_1t
            refine W.cut (γ := Bool) (fun g => [(0, (.pointer (some ⟨g_1, 0, none⟩))), (1, v_5), (7, (.int .i64 x_w)), (10, (.int .i64 (IntKind.i64.wrap ((IntKind.i64.wrap (x_1u - 1)).tdiv 8)))), (13, (.int .i64 (IntKind.i64.wrap ((IntKind.i64.wrap (x_1u - 1)).tdiv 8)))), (38, v_13), (39, (.int .i64 (x_x.length : Int))), (40, (.int .i64 x_1l)), (63, (.bool (g)))]) (fun g w' => y_21 = (g) ∧ w_1n = w') ?_ ?_
            ·
              apply go
              refine ev0 (rn_len rfl rfl Tryd.underlying66 r_6) ?_
              refine sel_of (fun hc => ?_) (fun hc => ?_)
              ·
                have q_22 := cond_t q_22 hc
                obtain ⟨x_23, q_24, q_22⟩ := bind_some q_22
                refine ev_index rfl rfl rfl Tryd.underlying66 T3 r_6 q_24 ?_
                intro p_25 c_26 d_27 a_28
                obtain rfl : c_26 = [(.int .i64 x_23)] := d_27
                refine ev (rn_load rfl rfl (run_loadVar1 T3 (a_28.2 0 _ rfl))) ?_
                obtain rfl := Option.some.inj q_22
                exact ⟨(x_23 == 2), (.c rfl (.c rfl (.c rfl (.c rfl (.c rfl (.c rfl (.c rfl (.c rfl (.c rfl .n))))))))), rfl, rfl⟩
              ·
                have q_22 := cond_f q_22 hc
                obtain rfl := Option.some.inj q_22
                exact ⟨false, (.c rfl (.c rfl (.c rfl (.c rfl (.c rfl (.c rfl (.c rfl (.c rfl (.c rfl .n))))))))), rfl, rfl⟩
            ·
              rintro x_29 _ ⟨hy, rfl⟩
              replace hy := hy.symm
              subst hy
              apply go
              refine sel_of (fun hc => ?_) (fun hc => ?_)
              ·
                have q_1t := cond_t q_1t hc
                apply go
                refine ev0 (rn_field rfl rfl FO91_1) ?_
                refine ev (rn_load rfl rfl (run_loadVar1 T65 (hp.cell (i := 4) (off := 1) rfl rfl))) ?_
                obtain ⟨x_2a, q_2b, q_1t⟩ := bind_some q_1t
                refine ev_indexO rfl rfl rfl Tryd.underlying65 T4 o_1p q_2b ?_
                intro g_2c c_2d h_2e d_2f l_2g
                refine ev_storeE hp (i := 3) rfl h_2e rfl rfl rfl T4 o_1p q_2b (x0 := true) rfl ?_
                intro e_2h w_2i hp hs o_2j
                replace r_6 := r_6.step hs
                replace o_18 := o_18.step hs
                replace r_i := r_i.step hs
                replace o_1f := o_1f.step hs
                replace o_1g := o_1g.step hs
                obtain rfl := Option.some.inj q_1t
                exact ⟨((upd x_1j (IntKind.i64.wrap ((IntKind.i64.wrap (x_1u - 1)).tdiv 8)) true), (IntKind.i64.wrap ((IntKind.i64.wrap (x_1u - 1)).tdiv 8)), e_2h), (.c rfl (.c rfl (.c rfl (.c rfl (.c rfl (.c rfl (.c rfl .n))))))), rfl, hp, r_i, o_1f, o_1g, o_2j, r_6, o_18⟩
              ·
                have q_1t := cond_f q_1t hc
                apply go
                obtain rfl := Option.some.inj q_1t
                exact ⟨(x_1j, (IntKind.i64.wrap ((IntKind.i64.wrap (x_1u - 1)).tdiv 8)), e_1m), (.c rfl (.c rfl (.c rfl (.c rfl (.c rfl (.c rfl (.c rfl .n))))))), rfl, hp, r_i, o_1f, o_1g, o_1p, r_6, o_18⟩
          ·
            have q_1t := cond_f q_1t hc
            apply go
            apply go
            apply go
            refine sel_of (fun hc => ?_) (fun hc => ?_)
            ·
              have q_1t := cond_t q_1t hc
              apply go
              obtain rfl := Option.some.inj q_1t
              exact ⟨(x_1j, (IntKind.i64.wrap (32 + (IntKind.i64.wrap ((IntKind.i64.wrap (x_1u - 1)).tdiv 8)))), e_1m), (.c rfl (.c rfl (.c rfl (.c rfl (.c rfl (.c rfl (.c rfl .n))))))), rfl, hp, r_i, o_1f, o_1g, o_1p, r_6, o_18⟩
            ·
              have q_1t := cond_f q_1t hc
              apply go
              obtain rfl := Option.some.inj q_1t
              exact ⟨(x_1j, x_1k, e_1m), (.c rfl (.c rfl (.c rfl (.c rfl (.c rfl (.c rfl (.c rfl .n))))))), rfl, hp, r_i, o_1f, o_1g, o_1p, r_6, o_18⟩
        ·
          rintro ⟨x_2k, x_2l, e_2m⟩ w_2n ⟨hy, hp, r_i, o_1f, o_1g, o_2o, r_6, o_18⟩
          replace hy := hy.symm
          subst hy
          apply go
          exact ⟨_, (Option.some.inj q_1q).symm, e_2m, (.c rfl (.c rfl (.c rfl (.c rfl (.c rfl (.c rfl (.c rfl .n))))))), ⟨hp, r_i, o_1f, o_1g, o_2o, r_6, o_18⟩⟩
      ·
        have q_1q := cond_f q_1q hc
        apply go
        have q_2p := congrArg some (q_1r _ (Option.some.inj q_1q).symm)
        obtain rfl := Option.some.inj q_2p
        have hp := hp.sel [0, 1, 2, 3, 4] (by decide)
        exact ⟨(x_1j, x_1k, e_1m), (.c rfl (.c rfl (.c rfl .n))), rfl, hp, r_i, o_1f, o_1g, o_1p⟩
    ·
      rintro ⟨x_2q, x_2r, e_2s⟩ w_2t ⟨hy, hp, r_i, o_1f, o_1g, o_2u⟩
      replace hy := hy.symm
      subst hy
      apply go
      apply go
      refine ev0 (rn_field rfl rfl FO91_2) ?_
      refine ev_store1 hp (i := 4) (off := 2) rfl rfl rfl rfl T3 rfl (Nat.le_of_ble_eq_true rfl) ?_
      intro w_2v hp hs
      replace r_i := r_i.step hs
      replace o_1f := o_1f.step hs
      replace o_1g := o_1g.step hs
      replace o_2u := o_2u.step hs
      apply go
      apply go
      refine ev0 (rn_field rfl rfl FO91_3) ?_
      refine ev (rn_load rfl rfl (run_loadVar1 T3 (hp.cell (i := 4) (off := 3) rfl rfl))) ?_
      refine ev0 (rn_field rfl rfl FO91_3) ?_
      refine ev_store1 hp (i := 4) (off := 3) rfl rfl rfl rfl T3 rfl (Nat.le_of_ble_eq_true rfl) ?_
      intro w_2w hp hs
      replace r_i := r_i.step hs
      replace o_1f := o_1f.step hs
      replace o_1g := o_1g.step hs
      replace o_2u := o_2u.step hs
      apply go
      apply go
      apply go
      obtain rfl := Option.some.inj h
      have hp := hp.perm [4, 2, 0, 1, 3] (by decide)
      exact ⟨I_12, [some (g_1, [(.pointer (some ⟨g_7, 0, none⟩)), v_9, (.int .i64 x_w), (.int .i64 (IntKind.i64.wrap (x_0.ticks + 1)))], 91), some (g_7, [v_d, v_1b, v_1d], 108), e_1c, e_1e, e_2s], rfl, hp, ⟨g_7, [some (g_7, [v_d, v_1b, v_1d], 108), e_1c, e_1e], v_9, e_2s, rfl, ⟨v_d, v_1b, e_1c, v_1d, e_1e, rfl, r_i, o_1f, o_1g⟩, o_2u⟩⟩

end Go.Proofs.YtcdboppghnchpaaDoor

namespace Go.Proofs.YtcdboppghnchpaaDoor
open Go Go.Proofs.YtcdboppghnchpaaDoor.Gw Go.RowKit
set_option linter.unusedVariables false
attribute [local irreducible] Ev EvQ EvS EvH
def top_missionAwake_S (f : Option Bool) : Prop := ∀ (w0 : World) (I0 : Nat → Prop) (tb : Tb w0 I0 2 .u64 pow10)  (hI : ∀ g, I0 g → g < w0.heap.size) (r : Bool), f  = some r →
    Ret Tryd.prog 17 #[] w0 fun v w1 => v = (.bool r) ∧ Ch [] w0 w1
theorem top_missionAwake_ok (n : Nat) : top_missionAwake_S (top_missionAwake n) := by
  intro w0 I0 tb hI r h
  unfold top_missionAwake at h
  refine enter Tryd.func17 rfl (Nat.le_of_ble_eq_true rfl) ?_
  have hp : Hp ⟨w0, I0, []⟩ I0 [] w0 := Hp.start hI
  apply go
  apply go
  apply go
  apply go
  refine ev0 (fun w => rn_build (cs := [(.int .i64 2), (.int .i64 0), (.int .i64 0), (.int .i64 2), (.int .i64 1)]) rfl rfl T89 PL89 rfl) ?_
  refine ev_litN (d := dTask) (xs := [(Task.mk 2 (Cell.mk 0 0) 2 1)]) (cs := [(.int .i64 2), (.int .i64 0), (.int .i64 0), (.int .i64 2), (.int .i64 1)]) hp rfl rfl Tryd.underlying49 T89 (by decide) rfl rfl (Elems.cons (d := dTask) (xs := _) dTask_m (Elems.nil _ _ _ _)) ?_
  intro v_0 I_1 w_2 hp hs r_3
  replace tb := tb.step hs
  obtain ⟨⟨x_4, x_5⟩, q_6, h⟩ := bind_some h
  refine ev_call rfl rfl C18 (((mission_New_ok n) _ _  [(Task.mk 2 (Cell.mk 0 0) 2 1)] v_0 r_3 hp.imm _ q_6).mono ?_)
  rintro _ w_7 ⟨I_8, v_9, F_a, hv, hq6072, q_b⟩
  replace hv := hv.symm
  subst hv
  rcases x_4 with _ | x_c
  ·
    obtain ⟨rfl, rfl⟩ := q_b
    have hs := hq6072.st
    have hp := hp.join0 hq6072
    replace tb := tb.step hs
    apply go
    apply go
    obtain ⟨⟨x_d, x_e⟩, q_f, h⟩ := bind_some h
    refine ev_call rfl rfl C19 (((mission_Build_ok n) _ _  [] (.slice none 0 0) (RepS.nil _ _ _) hp.imm _ q_f).mono ?_)
    rintro _ w_g ⟨I_h, v_i, hv, hq, r_j⟩
    replace hv := hv.symm
    subst hv
    have hs := hq.st
    have hp := hp.join0 hq
    replace tb := tb.step hs
    refine ev_alloc hp rfl T57 ?_
    intro g_k w_l hp hs
    replace r_j := r_j.step hs
    replace tb := tb.step hs
    refine ev_storeA hp (i := 0) (off := 0) (vs := [(.int .i64 x_d.Kind), (.int .i64 x_d.Name), (.int .i64 x_d.Count), v_i]) rfl rfl rfl rfl T57 rfl (Nat.le_of_ble_eq_true rfl) (ones_cons rfl (ones_cons rfl (ones_cons rfl (ones_cons r_j.one ones_nil)))) ?_
    intro w_m hp hs
    replace r_j := r_j.step hs
    replace tb := tb.step hs
    apply go
    obtain ⟨y_n, q_o, h⟩ := bind_some h
    refine W.cut (γ := Unit) (fun _ => [(1, (.pointer none)), (3, (.pointer (some ⟨g_k, 0, none⟩))), (27, (.bool true))]) (fun _ w' => y_n = () ∧ w_m = w') ?_ ?_
    ·
      apply go
      refine sel_of (fun hc => ?_) (fun hc => ?_)
      ·
        have q_o := cond_t q_o hc
        obtain rfl := Option.some.inj q_o
        exact ⟨(), (.c rfl (.c rfl (.c rfl .n))), rfl, rfl⟩
      ·
        have q_o := cond_f q_o hc
        refine sel_of (fun hc => ?_) (fun hc => ?_)
        ·
          have q_o := cond_t q_o hc
          obtain rfl := Option.some.inj q_o
          exact ⟨(), (.c rfl (.c rfl (.c rfl .n))), rfl, rfl⟩
        ·
          have q_o := cond_f q_o hc
          refine ev0 (rn_eqNilP rfl rfl rfl Tryd.underlying51 (b := true) rfl) ?_
          obtain rfl := Option.some.inj q_o
          exact ⟨(), (.c rfl (.c rfl (.c rfl .n))), rfl, rfl⟩
    ·
      rintro ⟨⟩ _ ⟨hy, rfl⟩
      replace hy := hy.symm
      subst hy
      apply go
      apply go
      apply go
      apply go
      obtain rfl := Option.some.inj h
      exact ⟨rfl, hp.ch⟩
  ·
    obtain ⟨g_p, rfl, g_q, E_r, v_s, e_t, rfl, q_u, o_v⟩ := q_b
    obtain ⟨v_w, v_x, e_y, v_z, e_10, rfl, r_11, o_12, o_13⟩ := q_u
    have hs := hq6072.st
    have hp := hp.join0 hq6072
    replace tb := tb.step hs
    apply go
    apply go
    obtain ⟨⟨x_14, x_15⟩, q_16, h⟩ := bind_some h
    refine ev_call rfl rfl C19 (((mission_Build_ok n) _ _  [] (.slice none 0 0) (RepS.nil _ _ _) hp.imm _ q_16).mono ?_)
    rintro _ w_17 ⟨I_18, v_19, hv, hq, r_1a⟩
    replace hv := hv.symm
    subst hv
    have hs := hq.st
    have hp := hp.join0 hq
    replace o_v := o_v.step hs
    replace r_11 := r_11.step hs
    replace o_12 := o_12.step hs
    replace o_13 := o_13.step hs
    replace tb := tb.step hs
    refine ev_alloc hp rfl T57 ?_
    intro g_1b w_1c hp hs
    replace r_1a := r_1a.step hs
    replace o_v := o_v.step hs
    replace r_11 := r_11.step hs
    replace o_12 := o_12.step hs
    replace o_13 := o_13.step hs
    replace tb := tb.step hs
    refine ev_storeA hp (i := 0) (off := 0) (vs := [(.int .i64 x_14.Kind), (.int .i64 x_14.Name), (.int .i64 x_14.Count), v_19]) rfl rfl rfl rfl T57 rfl (Nat.le_of_ble_eq_true rfl) (ones_cons rfl (ones_cons rfl (ones_cons rfl (ones_cons r_1a.one ones_nil)))) ?_
    intro w_1d hp hs
    replace r_1a := r_1a.step hs
    replace o_v := o_v.step hs
    replace r_11 := r_11.step hs
    replace o_12 := o_12.step hs
    replace o_13 := o_13.step hs
    replace tb := tb.step hs
    apply go
    obtain ⟨y_1e, q_1f, h⟩ := bind_some h
    refine W.cut (γ := Bool) (fun g => [(1, (.pointer (some ⟨g_p, 0, none⟩))), (3, (.pointer (some ⟨g_1b, 0, none⟩))), (27, (.bool (g)))]) (fun g w' => y_1e = (g) ∧ w_1d = w') ?_ ?_
    ·
      apply go
      refine sel_of (fun hc => ?_) (fun hc => ?_)
      ·
        have q_1f := cond_t q_1f hc
        obtain rfl := Option.some.inj q_1f
        exact ⟨true, (.c rfl (.c rfl (.c rfl .n))), rfl, rfl⟩
      ·
        have q_1f := cond_f q_1f hc
        refine sel_of (fun hc => ?_) (fun hc => ?_)
        ·
          have q_1f := cond_t q_1f hc
          obtain rfl := Option.some.inj q_1f
          exact ⟨true, (.c rfl (.c rfl (.c rfl .n))), rfl, rfl⟩
        ·
          have q_1f := cond_f q_1f hc
          refine ev0 (rn_eqNilP rfl rfl rfl Tryd.underlying51 (b := false) rfl) ?_
          obtain rfl := Option.some.inj q_1f
          exact ⟨false, (.c rfl (.c rfl (.c rfl .n))), rfl, rfl⟩
    ·
      rintro x_1g _ ⟨hy, rfl⟩
      replace hy := hy.symm
      subst hy
      apply go
      refine sel_of (fun hc => ?_) (fun hc => ?_)
      ·
        have h := cond_t h hc
        apply go
        apply go
        apply go
        obtain rfl := Option.some.inj h
        exact ⟨rfl, hp.ch⟩
      ·
        have h := cond_f h hc
        apply go
        apply go
        apply go
        refine ev_litN (d := (dI .i64)) (xs := [1]) (cs := [(.int .i64 1)]) hp rfl rfl Tryd.underlying66 T3 (by decide) rfl rfl (Elems.cons (d := (dI .i64)) (xs := _) rfl (Elems.nil _ _ _ _)) ?_
        intro v_1h I_1i w_1j hp hs r_1k
        replace r_1a := r_1a.step hs
        replace o_v := o_v.step hs
        replace r_11 := r_11.step hs
        replace o_12 := o_12.step hs
        replace o_13 := o_13.step hs
        replace tb := tb.step hs
        obtain ⟨⟨x_1l, x_1m, x_1n, x_1o⟩, q_1p, h⟩ := bind_some h
        refine ev_call rfl rfl C23 (((mission_Mission_Tick_ok n) _ _  (Mission.mk (Runner.mk x_c.run.nodes x_c.run.counters x_c.run.active) x_c.done x_c.status x_c.ticks) g_p [some (g_p, [(.pointer (some ⟨g_q, 0, none⟩)), v_s, (.int .i64 x_c.status), (.int .i64 x_c.ticks)], 91), some (g_q, [v_w, v_x, v_z], 108), e_y, e_10, e_t] ⟨g_q, [some (g_q, [v_w, v_x, v_z], 108), e_y, e_10], v_s, e_t, rfl, ⟨v_w, v_x, e_y, v_z, e_10, rfl, r_11, o_12, o_13⟩, o_v⟩ [1] v_1h r_1k (hp.lendL [1, 2, 3, 4, 5] (by decide)) _ q_1p).mono ?_)
        rintro _ w_1q ⟨I_1r, F_1s, hv, hq6127, q_1t⟩
        replace hv := hv.symm
        subst hv
        obtain ⟨g_1u, E_1v, v_1w, e_1x, rfl, q_1y, o_1z⟩ := q_1t
        obtain ⟨v_20, v_21, e_22, v_23, e_24, rfl, r_25, o_26, o_27⟩ := q_1y
        have hs := hq6127.st
        have hp := hp.backL [1, 2, 3, 4, 5] [0] (by decide) hq6127
        replace r_1a := r_1a.step hs
        replace tb := tb.step hs
        obtain ⟨y_28, q_29, h⟩ := bind_some h
        refine W.cut (γ := Bool) (fun g => [(0, (.bool (g)))]) (fun g w' => y_28 = (g) ∧ Hp ⟨w0, I0, []⟩ I_1r [] w' ∧ Tb w' I_1r 2 .u64 pow10) ?_ ?_
        ·
          apply go
          refine sel_of (fun hc => ?_) (fun hc => ?_)
          ·
            have q_29 := cond_t q_29 hc
            refine sel_of (fun hc => ?_) (fun hc => ?_)
            ·
              have q_29 := cond_t q_29 hc
              refine sel_of (fun hc => ?_) (fun hc => ?_)
              ·
                have q_29 := cond_t q_29 hc
                refine ev (rn_load rfl rfl (run_loadVarA T57 rfl (hp.at_ (i := 5) rfl))) ?_
                obtain ⟨x_2a, q_2b, q_29⟩ := bind_some q_29
                refine ev_call rfl rfl C21 (((tree_Text_ok n) _ _ tb (Node.mk x_14.Kind x_14.Name x_14.Count x_14.Kids) v_19 r_1a hp.imm _ q_2b).mono ?_)
                rintro _ w_2c ⟨rfl, hc⟩
                have hs := hp.stp hc
                replace hp := hp.ext hc
                replace o_1z := o_1z.step hs
                replace r_25 := r_25.step hs
                replace o_26 := o_26.step hs
                replace o_27 := o_27.step hs
                replace r_1a := r_1a.step hs
                replace tb := tb.step hs
                obtain rfl := Option.some.inj q_29
                have hp := hp.sel [] (by decide)
                exact ⟨(x_2a.toList == (ByteArray.mk #[40, 115, 41]).toList), (.c rfl .n), rfl, hp, tb⟩
              ·
                have q_29 := cond_f q_29 hc
                obtain rfl := Option.some.inj q_29
                have hp := hp.sel [] (by decide)
                exact ⟨false, (.c rfl .n), rfl, hp, tb⟩
            ·
              have q_29 := cond_f q_29 hc
              obtain rfl := Option.some.inj q_29
              have hp := hp.sel [] (by decide)
              exact ⟨false, (.c rfl .n), rfl, hp, tb⟩
          ·
            have q_29 := cond_f q_29 hc
            obtain rfl := Option.some.inj q_29
            have hp := hp.sel [] (by decide)
            exact ⟨false, (.c rfl .n), rfl, hp, tb⟩
        ·
          rintro x_2d w_2e ⟨hy, hp, tb⟩
          replace hy := hy.symm
          subst hy
          apply go
          obtain rfl := Option.some.inj h
          exact ⟨rfl, hp.ch⟩

end Go.Proofs.YtcdboppghnchpaaDoor

namespace Go.Proofs.YtcdboppghnchpaaDoor
open Go Go.Proofs.YtcdboppghnchpaaDoor.Gw Go.RowKit
set_option linter.unusedVariables false
attribute [local irreducible] Ev EvQ EvS EvH
def tree_parser_take_S (f : Parser → Int → Option (Bool × Parser)) : Prop := ∀ (w0 : World) (I0 : Nat → Prop) (x_0 : Parser) (g_1 : Nat) (E_2 : List Ent) (q_3 : qP w0 I0 g_1 E_2 x_0) (x_4 : Int) (hp : Hp ⟨w0, I0, blks E_2⟩ I0 E_2 w0) (r : (Bool × Parser)), f x_0 x_4 = some r →
    Ret Tryd.prog 74 #[(.pointer (some ⟨g_1, 0, none⟩)), (.int .u8 x_4)] w0 fun v w1 => ∃ (I1 : Nat → Prop) (u_5 : List Ent), v = (.bool r.1) ∧ Hp ⟨w0, I0, blks E_2⟩ I1 u_5 w1 ∧ qP w1 I1 g_1 u_5 r.2
theorem tree_parser_take_ok (n : Nat) : tree_parser_take_S (tree_parser_take n) := by
  intro w0 I0 x_0 g_1 E_2 q_3 x_4 hp r h
  unfold tree_parser_take at h
  refine enter Tryd.func74 rfl (Nat.le_of_ble_eq_true rfl) ?_
  generalize blks E_2 = B at hp ⊢
  obtain rfl := q_3
  have hp : Hp ⟨w0, I0, B⟩ I0 [some (g_1, [(.string x_0.s), (.int .i64 x_0.nodes)], 96)] w0 := hp
  apply go
  apply go
  apply go
  obtain ⟨y_5, q_6, h⟩ := bind_some h
  refine W.cut (γ := Bool) (fun g => [(0, (.pointer (some ⟨g_1, 0, none⟩))), (18, (.bool (g)))]) (fun g w' => y_5 = (g) ∧ w0 = w') ?_ ?_
  ·
    apply go
    refine ev0 (rn_field rfl rfl FO96_0) ?_
    refine ev (rn_load rfl rfl (run_loadVar1 T9 (hp.cell (i := 0) (off := 0) rfl rfl))) ?_
    refine sel_of (fun hc => ?_) (fun hc => ?_)
    ·
      have q_6 := cond_t q_6 hc
      obtain rfl := Option.some.inj q_6
      exact ⟨true, (.c rfl (.c rfl .n)), rfl, rfl⟩
    ·
      have q_6 := cond_f q_6 hc
      refine ev0 (rn_field rfl rfl FO96_0) ?_
      refine ev (rn_load rfl rfl (run_loadVar1 T9 (hp.cell (i := 0) (off := 0) rfl rfl))) ?_
      obtain ⟨x_7, q_8, q_6⟩ := bind_some q_6
      refine ev0 (rn_indexS rfl rfl rfl Tryd.underlying9 q_8) ?_
      obtain rfl := Option.some.inj q_6
      exact ⟨(x_7 != x_4), (.c rfl (.c rfl .n)), rfl, rfl⟩
  ·
    rintro x_9 _ ⟨hy, rfl⟩
    replace hy := hy.symm
    subst hy
    apply go
    refine sel_of (fun hc => ?_) (fun hc => ?_)
    ·
      have h := cond_t h hc
      apply go
      apply go
      apply go
      obtain rfl := Option.some.inj h
      exact ⟨I0, [some (g_1, [(.string x_0.s), (.int .i64 x_0.nodes)], 96)], rfl, hp, rfl⟩
    ·
      have h := cond_f h hc
      apply go
      apply go
      apply go
      refine ev0 (rn_field rfl rfl FO96_0) ?_
      refine ev (rn_load rfl rfl (run_loadVar1 T9 (hp.cell (i := 0) (off := 0) rfl rfl))) ?_
      obtain ⟨x_a, q_b, h⟩ := bind_some h
      refine ev0 (rn_sliceStr (kl := .i64) (kh := .i64) rfl rfl rfl rfl Tryd.underlying9 q_b) ?_
      refine ev0 (rn_field rfl rfl FO96_0) ?_
      refine ev_store1 hp (i := 0) (off := 0) rfl rfl rfl rfl T9 rfl (Nat.le_of_ble_eq_true rfl) ?_
      intro w_c hp hs
      apply go
      apply go
      apply go
      obtain rfl := Option.some.inj h
      exact ⟨I0, [some (g_1, [(.string x_a), (.int .i64 x_0.nodes)], 96)], rfl, hp, rfl⟩

end Go.Proofs.YtcdboppghnchpaaDoor
