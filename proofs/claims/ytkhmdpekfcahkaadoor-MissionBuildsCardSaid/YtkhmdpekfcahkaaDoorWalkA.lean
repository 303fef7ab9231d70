/-
  Each function of the program computes the plain function of its name.
-/
import Derived.Test.YtkhmdpekfcahkaaDoorFactsA
import Derived.Test.YtkhmdpekfcahkaaDoorCoreA
namespace Go.Proofs.YtkhmdpekfcahkaaDoor
open Go Go.Proofs.YtkhmdpekfcahkaaDoor.Gw Go.RowKit
set_option linter.unusedVariables false
attribute [local irreducible] Ev EvQ EvS EvH
def mission_within_S (f : Int → Int → Int → Option Bool) : Prop := ∀ (w0 : World) (I0 : Nat → Prop) (x1 : Int) (x2 : Int) (x3 : Int) (hI : ∀ g, I0 g → g < w0.heap.size) (r : Bool), f x1 x2 x3 = some r →
    Ret Tryd.prog 23 #[(.int .i64 x1), (.int .i64 x2), (.int .i64 x3)] w0 fun v w1 => v = (.bool r) ∧ Ch [] w0 w1
theorem mission_within_ok (n : Nat) : mission_within_S (mission_within n) := by
  intro w0 I0 x1 x2 x3 hI r h
  unfold mission_within at h
  refine enter Tryd.func23 rfl (Nat.le_of_ble_eq_true rfl) ?_
  have hp : Hp ⟨w0, I0, []⟩ I0 [] w0 := Hp.start hI
  apply go
  apply go
  obtain ⟨y5, q6, h⟩ := bind_some h
  refine W.cut (γ := Bool) (fun g => [(6, (.bool (g)))]) (fun g w' => y5 = (g) ∧ w0 = w') ?_ ?_
  ·
    apply go
    refine sel_of (fun hc => ?_) (fun hc => ?_)
    ·
      have q6 := cond_t q6 hc
      obtain rfl := Option.some.inj q6
      exact ⟨(decide (x1 ≤ x3)), (.c rfl .n), rfl, rfl⟩
    ·
      have q6 := cond_f q6 hc
      obtain rfl := Option.some.inj q6
      exact ⟨false, (.c rfl .n), rfl, rfl⟩
  ·
    rintro x4 _ ⟨hy, rfl⟩
    replace hy := hy.symm
    subst hy
    apply go
    obtain rfl := Option.some.inj h
    exact ⟨rfl, hp.ch⟩

end Go.Proofs.YtkhmdpekfcahkaaDoor

namespace Go.Proofs.YtkhmdpekfcahkaaDoor
open Go Go.Proofs.YtkhmdpekfcahkaaDoor.Gw Go.RowKit
set_option linter.unusedVariables false
attribute [local irreducible] Ev EvQ EvS EvH
def mission_valid_S (f : Task → Option Bool) : Prop := ∀ (w0 : World) (I0 : Nat → Prop) (x7 : Task) (hI : ∀ g, I0 g → g < w0.heap.size) (r : Bool), f x7 = some r →
    Ret Tryd.prog 12 #[(.agg #[(.int .i64 x7.Kind), (.int .i64 x7.Cell.X), (.int .i64 x7.Cell.Y), (.int .i64 x7.Limit), (.int .i64 x7.Tries)])] w0 fun v w1 => v = (.bool r) ∧ Ch [] w0 w1
theorem mission_valid_ok (n : Nat) : mission_valid_S (mission_valid n) := by
  intro w0 I0 x7 hI r h
  unfold mission_valid at h
  refine enter Tryd.func12 rfl (Nat.le_of_ble_eq_true rfl) ?_
  have hp : Hp ⟨w0, I0, []⟩ I0 [] w0 := Hp.start hI
  apply go
  apply go
  refine ev_boxI hp rfl rfl ?_
  intro p10 I11 w9 hp hs a12
  apply go
  apply go
  obtain ⟨y17, q18, h⟩ := bind_some h
  refine W.cut (γ := Int) (fun g => [(1, (.pointer (some (p10)))), (3, (.int .i64 (g)))]) (fun g w' => y17 = .go (g) ∧ w9 = w') ?_ ?_
  ·
    apply go
    apply go
    refine ev0 (rn_field rfl rfl FO40_0) ?_
    refine ev (rn_load rfl rfl (run_loadVar1 T3 (a12.2 0 _ rfl))) ?_
    apply go
    apply go
    apply go
    apply go
    refine sel_of (fun hc => ?_) (fun hc => ?_)
    ·
      have q18 := cond_t q18 hc
      apply go
      obtain rfl := Option.some.inj q18
      exact ⟨63, (.c rfl (.c rfl .n)), rfl, rfl⟩
    ·
      have q18 := cond_f q18 hc
      obtain ⟨y20, q21, q18⟩ := bind_some q18
      refine W.cut (γ := Bool) (fun g => [(1, (.pointer (some (p10)))), (3, (.int .i64 0)), (8, (.bool (g)))]) (fun g w' => y20 = (g) ∧ w9 = w') ?_ ?_
      ·
        apply go
        apply go
        apply go
        refine sel_of (fun hc => ?_) (fun hc => ?_)
        ·
          have q21 := cond_t q21 hc
          apply go
          obtain rfl := Option.some.inj q21
          exact ⟨(x7.Kind == 2), (.c rfl (.c rfl (.c rfl .n))), rfl, rfl⟩
        ·
          have q21 := cond_f q21 hc
          apply go
          obtain rfl := Option.some.inj q21
          exact ⟨(x7.Kind == 3), (.c rfl (.c rfl (.c rfl .n))), rfl, rfl⟩
      ·
        rintro x19 _ ⟨hy, rfl⟩
        replace hy := hy.symm
        subst hy
        apply go
        refine sel_of (fun hc => ?_) (fun hc => ?_)
        ·
          have q18 := cond_t q18 hc
          apply go
          obtain rfl := Option.some.inj q18
          exact ⟨0, (.c rfl (.c rfl .n)), rfl, rfl⟩
        ·
          have q18 := cond_f q18 hc
          apply go
          apply go
          apply go
          obtain rfl := Option.some.inj q18
          obtain rfl := Option.some.inj h
          exact ⟨rfl, hp.ch⟩
  ·
    rintro x16 _ ⟨hy, rfl⟩
    replace hy := hy.symm
    subst hy
    obtain ⟨y36, q37, h⟩ := bind_some h
    refine W.cut (γ := Bool) (fun g => [(2, (.bool (g)))]) (fun g w' => y36 = (g) ∧ Hp ⟨w0, I0, []⟩ I11 [] w') ?_ ?_
    ·
      apply go
      refine ev0 (rn_field rfl rfl FO40_1) ?_
      refine ev0 (rn_fieldAt rfl rfl FO38_0) ?_
      refine ev (rn_load rfl rfl (run_loadVar1 T3 (a12.2 1 _ rfl))) ?_
      obtain ⟨x38, q39, q37⟩ := bind_some q37
      refine ev_call rfl rfl C23 (((mission_within_ok n) _ _  x7.Cell.X 0 x16 hp.imm _ q39).mono ?_)
      rintro _ w40 ⟨rfl, hc⟩
      have hs := hp.stp hc
      replace hp := hp.ext hc
      replace a12 := a12.step hs
      refine sel_of (fun hc => ?_) (fun hc => ?_)
      ·
        have q37 := cond_t q37 hc
        refine ev0 (rn_field rfl rfl FO40_1) ?_
        refine ev0 (rn_fieldAt rfl rfl FO38_1) ?_
        refine ev (rn_load rfl rfl (run_loadVar1 T3 (a12.2 2 _ rfl))) ?_
        obtain ⟨x41, q42, q37⟩ := bind_some q37
        refine ev_call rfl rfl C23 (((mission_within_ok n) _ _  x7.Cell.Y 0 x16 hp.imm _ q42).mono ?_)
        rintro _ w43 ⟨rfl, hc⟩
        have hs := hp.stp hc
        replace hp := hp.ext hc
        replace a12 := a12.step hs
        refine sel_of (fun hc => ?_) (fun hc => ?_)
        ·
          have q37 := cond_t q37 hc
          refine ev0 (rn_field rfl rfl FO40_2) ?_
          refine ev (rn_load rfl rfl (run_loadVar1 T3 (a12.2 3 _ rfl))) ?_
          obtain ⟨x44, q45, q37⟩ := bind_some q37
          refine ev_call rfl rfl C23 (((mission_within_ok n) _ _  x7.Limit 1 1000 hp.imm _ q45).mono ?_)
          rintro _ w46 ⟨rfl, hc⟩
          have hs := hp.stp hc
          replace hp := hp.ext hc
          replace a12 := a12.step hs
          refine sel_of (fun hc => ?_) (fun hc => ?_)
          ·
            have q37 := cond_t q37 hc
            refine ev0 (rn_field rfl rfl FO40_3) ?_
            refine ev (rn_load rfl rfl (run_loadVar1 T3 (a12.2 4 _ rfl))) ?_
            obtain ⟨x47, q48, q37⟩ := bind_some q37
            refine ev_call rfl rfl C23 (((mission_within_ok n) _ _  x7.Tries 1 10 hp.imm _ q48).mono ?_)
            rintro _ w49 ⟨rfl, hc⟩
            have hs := hp.stp hc
            replace hp := hp.ext hc
            obtain rfl := Option.some.inj q37
            exact ⟨x47, (.c rfl .n), rfl, hp⟩
          ·
            have q37 := cond_f q37 hc
            obtain rfl := Option.some.inj q37
            exact ⟨false, (.c rfl .n), rfl, hp⟩
        ·
          have q37 := cond_f q37 hc
          obtain rfl := Option.some.inj q37
          exact ⟨false, (.c rfl .n), rfl, hp⟩
      ·
        have q37 := cond_f q37 hc
        obtain rfl := Option.some.inj q37
        exact ⟨false, (.c rfl .n), rfl, hp⟩
    ·
      rintro x34 w35 ⟨hy, hp⟩
      replace hy := hy.symm
      subst hy
      apply go
      obtain rfl := Option.some.inj h
      exact ⟨rfl, hp.ch⟩

end Go.Proofs.YtkhmdpekfcahkaaDoor

namespace Go.Proofs.YtkhmdpekfcahkaaDoor
open Go Go.Proofs.YtkhmdpekfcahkaaDoor.Gw Go.RowKit
set_option linter.unusedVariables false
attribute [local irreducible] Ev EvQ EvS EvH
def mission_one_S (f : Int → Task → Option Node) : Prop := ∀ (w0 : World) (I0 : Nat → Prop) (x50 : Int) (x51 : Task) (hI : ∀ g, I0 g → g < w0.heap.size) (r : Node), f x50 x51 = some r →
    Ret Tryd.prog 13 #[(.int .i64 x50), (.agg #[(.int .i64 x51.Kind), (.int .i64 x51.Cell.X), (.int .i64 x51.Cell.Y), (.int .i64 x51.Limit), (.int .i64 x51.Tries)])] w0 fun v w1 => ∃ (I1 : Nat → Prop) (u52 : Value), v = (.agg #[(.int .i64 r.Kind), (.int .i64 r.Name), (.int .i64 r.Count), u52]) ∧ Hp ⟨w0, I0, []⟩ I1 [] w1 ∧ RepS dNode w1 I1 u52 r.Kids
theorem mission_one_ok (n : Nat) : mission_one_S (mission_one n) := by
  intro w0 I0 x50 x51 hI r h
  unfold mission_one at h
  refine enter Tryd.func13 rfl (Nat.le_of_ble_eq_true rfl) ?_
  have hp : Hp ⟨w0, I0, []⟩ I0 [] w0 := Hp.start hI
  apply go
  apply go
  refine ev_boxI hp rfl rfl ?_
  intro p55 I56 w54 hp hs a57
  refine ev_alloc hp rfl T26 ?_
  intro g58 w59 hp hs
  replace a57 := a57.step hs
  apply go
  apply go
  refine ev0 (fun w => rn_build (cs := [(.int .i64 1), (.int .i64 (IntKind.i64.wrap (32 + x50))), (.int .i64 0), (.slice none 0 0)]) rfl rfl T26 PL26 rfl) ?_
  refine ev0 (fun w => rn_build (cs := [(.int .i64 2), (.int .i64 63), (.int .i64 0), (.slice none 0 0)]) rfl rfl T26 PL26 rfl) ?_
  refine ev_litN (d := dNode) (xs := [(Node.mk 1 (IntKind.i64.wrap (32 + x50)) 0 []), (Node.mk 2 63 0 [])]) (cs := [(.int .i64 1), (.int .i64 (IntKind.i64.wrap (32 + x50))), (.int .i64 0), (.slice none 0 0), (.int .i64 2), (.int .i64 63), (.int .i64 0), (.slice none 0 0)]) hp rfl rfl Tryd.underlying24 T26 (by decide) (by kernel_rfl) rfl (Elems.cons (d := dNode) (xs := _) (dNode_m (x := (Node.mk 1 (IntKind.i64.wrap (32 + x50)) 0 [])) (RepS.nil _ _ _)) (Elems.cons (d := dNode) (xs := _) (dNode_m (x := (Node.mk 2 63 0 [])) (RepS.nil _ _ _)) (Elems.nil _ _ _ _))) ?_
  intro v60 I62 w61 hp hs r63
  replace a57 := a57.step hs
  obtain ⟨A64, m65, m66, rfl⟩ := r63.isSl
  refine ev0 (fun w => rn_build (cs := [(.int .i64 3), (.int .i64 0), (.int .i64 0), (.slice A64 m65 m66)]) rfl rfl T26 PL26 rfl) ?_
  refine ev_alloc hp rfl T26 ?_
  intro g68 w69 hp hs
  replace a57 := a57.step hs
  replace r63 := r63.step hs
  refine ev_storeA hp (i := 0) (off := 0) (vs := [(.int .i64 3), (.int .i64 0), (.int .i64 0), (.slice A64 m65 m66)]) rfl rfl rfl rfl T26 rfl (Nat.le_of_ble_eq_true rfl) (ones_cons rfl (ones_cons rfl (ones_cons rfl (ones_cons r63.one ones_nil)))) ?_
  intro w70 hp hs
  replace a57 := a57.step hs
  replace r63 := r63.step hs
  apply go
  apply go
  refine ev0 (fun w => rn_build (cs := [(.int .i64 2), (.int .i64 x50), (.int .i64 0), (.slice none 0 0)]) rfl rfl T26 PL26 rfl) ?_
  refine ev0 (fun w => rn_build (cs := [(.int .i64 1), (.int .i64 x50), (.int .i64 0), (.slice none 0 0)]) rfl rfl T26 PL26 rfl) ?_
  refine ev (rn_load rfl rfl (run_loadVarA T26 rfl (hp.at_ (i := 0) rfl))) ?_
  refine ev_litN (d := dNode) (xs := [(Node.mk 2 x50 0 []), (Node.mk 1 x50 0 []), (Node.mk 3 0 0 [(Node.mk 1 (IntKind.i64.wrap (32 + x50)) 0 []), (Node.mk 2 63 0 [])])]) (cs := [(.int .i64 2), (.int .i64 x50), (.int .i64 0), (.slice none 0 0), (.int .i64 1), (.int .i64 x50), (.int .i64 0), (.slice none 0 0), (.int .i64 3), (.int .i64 0), (.int .i64 0), (.slice A64 m65 m66)]) hp rfl rfl Tryd.underlying24 T26 (by decide) (by kernel_rfl) rfl (Elems.cons (d := dNode) (xs := _) (dNode_m (x := (Node.mk 2 x50 0 [])) (RepS.nil _ _ _)) (Elems.cons (d := dNode) (xs := _) (dNode_m (x := (Node.mk 1 x50 0 [])) (RepS.nil _ _ _)) (Elems.cons (d := dNode) (xs := _) (dNode_m (x := (Node.mk 3 0 0 [(Node.mk 1 (IntKind.i64.wrap (32 + x50)) 0 []), (Node.mk 2 63 0 [])])) r63) (Elems.nil _ _ _ _)))) ?_
  intro v71 I73 w72 hp hs r74
  replace a57 := a57.step hs
  replace r63 := r63.step hs
  obtain ⟨A75, m76, m77, rfl⟩ := r74.isSl
  refine ev0 (fun w => rn_build (cs := [(.int .i64 4), (.int .i64 0), (.int .i64 0), (.slice A75 m76 m77)]) rfl rfl T26 PL26 rfl) ?_
  refine ev_alloc hp rfl T26 ?_
  intro g79 w80 hp hs
  replace a57 := a57.step hs
  replace r74 := r74.step hs
  replace r63 := r63.step hs
  refine ev_storeA hp (i := 0) (off := 0) (vs := [(.int .i64 4), (.int .i64 0), (.int .i64 0), (.slice A75 m76 m77)]) rfl rfl rfl rfl T26 rfl (Nat.le_of_ble_eq_true rfl) (ones_cons rfl (ones_cons rfl (ones_cons rfl (ones_cons r74.one ones_nil)))) ?_
  intro w81 hp hs
  replace a57 := a57.step hs
  replace r74 := r74.step hs
  replace r63 := r63.step hs
  apply go
  apply go
  refine ev0 (rn_field rfl rfl FO40_3) ?_
  refine ev (rn_load rfl rfl (run_loadVar1 T3 (a57.2 4 _ rfl))) ?_
  refine ev (rn_load rfl rfl (run_loadVarA T26 rfl (hp.at_ (i := 0) rfl))) ?_
  refine ev_litN (d := dNode) (xs := [(Node.mk 4 0 0 [(Node.mk 2 x50 0 []), (Node.mk 1 x50 0 []), (Node.mk 3 0 0 [(Node.mk 1 (IntKind.i64.wrap (32 + x50)) 0 []), (Node.mk 2 63 0 [])])])]) (cs := [(.int .i64 4), (.int .i64 0), (.int .i64 0), (.slice A75 m76 m77)]) hp rfl rfl Tryd.underlying24 T26 (by decide) rfl rfl (Elems.cons (d := dNode) (xs := _) (dNode_m (x := (Node.mk 4 0 0 [(Node.mk 2 x50 0 []), (Node.mk 1 x50 0 []), (Node.mk 3 0 0 [(Node.mk 1 (IntKind.i64.wrap (32 + x50)) 0 []), (Node.mk 2 63 0 [])])])) r74) (Elems.nil _ _ _ _)) ?_
  intro v82 I84 w83 hp hs r85
  replace a57 := a57.step hs
  replace r74 := r74.step hs
  replace r63 := r63.step hs
  obtain ⟨A86, m87, m88, rfl⟩ := r85.isSl
  refine ev0 (fun w => rn_build (cs := [(.int .i64 7), (.int .i64 0), (.int .i64 x51.Tries), (.slice A86 m87 m88)]) rfl rfl T26 PL26 rfl) ?_
  refine ev_alloc hp rfl T26 ?_
  intro g90 w91 hp hs
  replace a57 := a57.step hs
  replace r85 := r85.step hs
  replace r74 := r74.step hs
  replace r63 := r63.step hs
  refine ev_storeA hp (i := 0) (off := 0) (vs := [(.int .i64 7), (.int .i64 0), (.int .i64 x51.Tries), (.slice A86 m87 m88)]) rfl rfl rfl rfl T26 rfl (Nat.le_of_ble_eq_true rfl) (ones_cons rfl (ones_cons rfl (ones_cons rfl (ones_cons r85.one ones_nil)))) ?_
  intro w92 hp hs
  replace a57 := a57.step hs
  replace r85 := r85.step hs
  replace r74 := r74.step hs
  replace r63 := r63.step hs
  apply go
  apply go
  refine ev0 (rn_field rfl rfl FO40_2) ?_
  refine ev (rn_load rfl rfl (run_loadVar1 T3 (a57.2 3 _ rfl))) ?_
  refine ev (rn_load rfl rfl (run_loadVarA T26 rfl (hp.at_ (i := 0) rfl))) ?_
  refine ev_litN (d := dNode) (xs := [(Node.mk 7 0 x51.Tries [(Node.mk 4 0 0 [(Node.mk 2 x50 0 []), (Node.mk 1 x50 0 []), (Node.mk 3 0 0 [(Node.mk 1 (IntKind.i64.wrap (32 + x50)) 0 []), (Node.mk 2 63 0 [])])])])]) (cs := [(.int .i64 7), (.int .i64 0), (.int .i64 x51.Tries), (.slice A86 m87 m88)]) hp rfl rfl Tryd.underlying24 T26 (by decide) rfl rfl (Elems.cons (d := dNode) (xs := _) (dNode_m (x := (Node.mk 7 0 x51.Tries [(Node.mk 4 0 0 [(Node.mk 2 x50 0 []), (Node.mk 1 x50 0 []), (Node.mk 3 0 0 [(Node.mk 1 (IntKind.i64.wrap (32 + x50)) 0 []), (Node.mk 2 63 0 [])])])])) r85) (Elems.nil _ _ _ _)) ?_
  intro v93 I95 w94 hp hs r96
  replace r85 := r85.step hs
  replace r74 := r74.step hs
  replace r63 := r63.step hs
  obtain ⟨A97, m98, m99, rfl⟩ := r96.isSl
  refine ev0 (fun w => rn_build (cs := [(.int .i64 8), (.int .i64 0), (.int .i64 x51.Limit), (.slice A97 m98 m99)]) rfl rfl T26 PL26 rfl) ?_
  refine ev_storeA hp (i := 3) (off := 0) (vs := [(.int .i64 8), (.int .i64 0), (.int .i64 x51.Limit), (.slice A97 m98 m99)]) rfl rfl rfl rfl T26 rfl (Nat.le_of_ble_eq_true rfl) (ones_cons rfl (ones_cons rfl (ones_cons rfl (ones_cons r96.one ones_nil)))) ?_
  intro w101 hp hs
  replace r85 := r85.step hs
  replace r74 := r74.step hs
  replace r63 := r63.step hs
  replace r96 := r96.step hs
  apply go
  obtain rfl := Option.some.inj h
  refine ⟨_, run_loadVarA T26 rfl (hp.at_ (i := 3) rfl), ?_⟩
  have hp := hp.sel [] (by decide)
  exact ⟨I95, (.slice A97 m98 m99), rfl, hp, r96⟩

end Go.Proofs.YtkhmdpekfcahkaaDoor

namespace Go.Proofs.YtkhmdpekfcahkaaDoor
open Go Go.Proofs.YtkhmdpekfcahkaaDoor.Gw Go.RowKit
set_option linter.unusedVariables false
attribute [local irreducible] Ev EvQ EvS EvH
def mission_Build_S (f : (List Task) → Option (Node × Int)) : Prop := ∀ (w0 : World) (I0 : Nat → Prop) (x102 : (List Task)) (v103 : Value) (r104 : RepS dTask w0 I0 v103 x102) (hI : ∀ g, I0 g → g < w0.heap.size) (r : (Node × Int)), f x102 = some r →
    Ret Tryd.prog 5 #[v103] w0 fun v w1 => ∃ (I1 : Nat → Prop) (u105 : Value), v = (.tuple #[(.agg #[(.int .i64 r.1.Kind), (.int .i64 r.1.Name), (.int .i64 r.1.Count), u105]), (.int .i64 r.2)]) ∧ Hp ⟨w0, I0, []⟩ I1 [] w1 ∧ RepS dNode w1 I1 u105 r.1.Kids
theorem mission_Build_ok (n : Nat) : mission_Build_S (mission_Build n) := by
  intro w0 I0 x102 v103 r104 hI r h
  unfold mission_Build at h
  refine enter Tryd.func5 rfl (Nat.le_of_ble_eq_true rfl) ?_
  have hp : Hp ⟨w0, I0, []⟩ I0 [] w0 := Hp.start hI
  apply go
  apply go
  refine ev_alloc hp rfl T26 ?_
  intro g106 w107 hp hs
  replace r104 := r104.step hs
  apply go
  apply go
  apply go
  refine ev0 (rn_len rfl rfl Tryd.underlying22 r104) ?_
  apply go
  refine sel_of (fun hc => ?_) (fun hc => ?_)
  ·
    have h := cond_t h hc
    apply go
    apply go
    refine ev0 (fun w => rn_build (cs := [(.int .i64 0), (.int .i64 0), (.int .i64 0), (.slice none 0 0)]) rfl rfl T26 PL26 rfl) ?_
    refine ev_storeA hp (i := 0) (off := 0) (vs := [(.int .i64 0), (.int .i64 0), (.int .i64 0), (.slice none 0 0)]) rfl rfl rfl rfl T26 rfl (Nat.le_of_ble_eq_true rfl) (ones_of rfl) ?_
    intro w108 hp hs
    apply go
    obtain rfl := Option.some.inj h
    refine ⟨_, run_loadVarA T26 rfl (hp.at_ (i := 0) rfl), ?_⟩
    have hp := hp.sel [] (by decide)
    exact ⟨I0, .slice none 0 0, rfl, hp, RepS.nil _ _ _⟩
  ·
    have h := cond_f h hc
    apply go
    apply go
    apply go
    refine ev0 (fun w => rn_build (cs := [(.int .i64 3), (.int .i64 0), (.int .i64 0), (.slice none 0 0)]) rfl rfl T26 PL26 rfl) ?_
    refine ev_alloc hp rfl T26 ?_
    intro g109 w110 hp hs
    replace r104 := r104.step hs
    refine ev_storeA hp (i := 0) (off := 0) (vs := [(.int .i64 3), (.int .i64 0), (.int .i64 0), (.slice none 0 0)]) rfl rfl rfl rfl T26 rfl (Nat.le_of_ble_eq_true rfl) (ones_of rfl) ?_
    intro w111 hp hs
    replace r104 := r104.step hs
    obtain ⟨y304, q305, h⟩ := bind_some h
    refine W.cut (γ := ((List Node) × Value × Ent × (Nat → Prop))) (fun g => [(2, (.pointer (some ⟨g106, 0, none⟩))), (4, (.pointer (some ⟨g109, 0, none⟩)))]) (fun g w' => y304 = .go (g.1) ∧ Hp ⟨w0, I0, []⟩ (g.2.2.2) [some (g106, [(.int .i64 0), (.int .i64 0), (.int .i64 0), (.slice none 0 0)], 26), (g.2.2.1), some (g109, [(.int .i64 3), (.int .i64 0), (.int .i64 0), (g.2.1)], 26)] w' ∧ OwnS dNode 26 w' (g.2.2.2) (g.2.1) (g.2.2.1) (g.1)) ?_ ?_
    ·
      apply go
      apply go
      refine ev0 (rn_len rfl rfl Tryd.underlying22 r104) ?_
      apply go
      have hp := hp.none_
      have o431 := OwnS.nil dNode 26 w111 I0
      have hp := hp.perm [2, 0, 1] (by decide)
      refine W.loop q305 (γ := (Value × Ent × (Nat → Prop))) (fun s g => [(2, (.pointer (some ⟨g106, 0, none⟩))), (4, (.pointer (some ⟨g109, 0, none⟩))), (12, v103), (13, (.int .i64 (x102.length : Int))), (14, (.int .i64 (s.2)))]) (fun s g w' => Hp ⟨w0, I0, []⟩ (g.2.2) [some (g106, [(.int .i64 0), (.int .i64 0), (.int .i64 0), (.slice none 0 0)], 26), (g.2.1), some (g109, [(.int .i64 3), (.int .i64 0), (.int .i64 0), (g.1)], 26)] w' ∧ OwnS dNode 26 w' (g.2.2) (g.1) (g.2.1) (s.1) ∧ RepS dTask w' (g.2.2) v103 x102) ((.slice none 0 0), none, I0) (.c rfl (.c rfl (.c rfl (.c rfl (.c rfl .n))))) ⟨hp, o431, r104⟩ ?_
      rintro ⟨x363, x367⟩ ⟨v364, e365, I368⟩ w430 y432 ⟨hp, o366, r104⟩ q433 q434
      unfold mission_Build_L1 at q433
      apply go
      apply go
      apply go
      apply go
      refine sel_of (fun hc => ?_) (fun hc => ?_)
      ·
        have q433 := cond_t q433 hc
        apply go
        apply go
        apply go
        apply go
        apply go
        obtain ⟨x435, q436, q433⟩ := bind_some q433
        refine ev_index rfl rfl rfl Tryd.underlying22 T40 r104 q436 ?_
        intro p437 c438 d439 a440
        obtain rfl := dTask_o d439
        refine ev (rn_load rfl rfl (run_loadVarA T40 rfl a440)) ?_
        refine ev_alloc hp rfl T40 ?_
        intro g441 w442 hp hs
        replace r104 := r104.step hs
        replace o366 := o366.step hs
        refine ev_storeA hp (i := 0) (off := 0) (vs := [(.int .i64 x435.Kind), (.int .i64 x435.Cell.X), (.int .i64 x435.Cell.Y), (.int .i64 x435.Limit), (.int .i64 x435.Tries)]) rfl rfl rfl rfl T40 rfl (Nat.le_of_ble_eq_true rfl) (ones_of rfl) ?_
        intro w443 hp hs
        replace r104 := r104.step hs
        replace o366 := o366.step hs
        apply go
        apply go
        apply go
        refine ev (rn_load rfl rfl (run_loadVarA T40 rfl (hp.at_ (i := 0) rfl))) ?_
        obtain ⟨x444, q445, q433⟩ := bind_some q433
        refine ev_call rfl rfl C12 (((mission_valid_ok n) _ _  (Task.mk x435.Kind (Cell.mk x435.Cell.X x435.Cell.Y) x435.Limit x435.Tries) hp.imm _ q445).mono ?_)
        rintro _ w446 ⟨rfl, hc⟩
        have hs := hp.stp hc
        replace hp := hp.ext hc
        replace r104 := r104.step hs
        replace o366 := o366.step hs
        apply go
        refine sel_of (fun hc => ?_) (fun hc => ?_)
        ·
          have q433 := cond_t q433 hc
          apply go
          apply go
          refine ev0 (fun w => rn_build (cs := [(.int .i64 0), (.int .i64 0), (.int .i64 0), (.slice none 0 0)]) rfl rfl T26 PL26 rfl) ?_
          refine ev_storeA hp (i := 1) (off := 0) (vs := [(.int .i64 0), (.int .i64 0), (.int .i64 0), (.slice none 0 0)]) rfl rfl rfl rfl T26 rfl (Nat.le_of_ble_eq_true rfl) (ones_of rfl) ?_
          intro w447 hp hs
          replace o366 := o366.step hs
          apply go
          have q448 := congrArg some (q434 _ (Option.some.inj q433).symm)
          obtain rfl := Option.some.inj q448
          obtain rfl := Option.some.inj h
          refine ⟨_, run_loadVarA T26 rfl (hp.at_ (i := 1) rfl), ?_⟩
          have hp := hp.sel [] (by decide)
          exact ⟨I368, .slice none 0 0, rfl, hp, RepS.nil _ _ _⟩
        ·
          have q433 := cond_f q433 hc
          apply go
          have hs := hp.stp (Ch.drew [] w446)
          have hp := hp.drew
          replace r104 := r104.step hs
          replace o366 := o366.step hs
          refine W.heldG (.q 0 (.q 1 (.q 2 (.q 3 (.l 4 (.l 5 (.l 6 (.q 7 (.l 8 .done .no)) .no) .no) .no))))) (SK (Stp I368 w446.drew I368) [(g109, [(.int .i64 3), (.int .i64 0), (.int .i64 0), v364], 26), (g441, [(.int .i64 x435.Kind), (.int .i64 x435.Cell.X), (.int .i64 x435.Cell.Y), (.int .i64 x435.Limit), (.int .i64 x435.Tries)], 40)] [[8], []]) MX (by kernel_rfl) ⟨Stp.refl _ _, (kp_cons (fun _ => (hp.own 3 _ _ _ rfl).1) (kp_cons (fun _ => (hp.own 0 _ _ _ rfl).1) kp_nil))⟩ ?_
          have hz := Stp.refl I368 w446.drew
          refine ⟨SK.same (by kernel_rfl), ?_⟩
          refine evh0 (rn_field rfl rfl FO26_3) ?_
          refine ⟨SK.same (by kernel_rfl), ?_⟩
          refine evh (fun w' hw => rn_load rfl rfl (run_loadVar1 T24 ((S0.keep (p := 0) hw rfl rfl (by kernel_rfl)).cell (i := 0) (off := 3) rfl rfl))) ?_
          refine ⟨SK.same (by kernel_rfl), ?_⟩
          refine ⟨SK.same (by kernel_rfl), ?_⟩
          refine evh (fun w' hw => rn_load rfl rfl (run_loadVarA T40 rfl ((S0.keep (p := 1) hw rfl rfl (by kernel_rfl)).at_ (i := 0) rfl))) ?_
          refine ⟨?_, trivial⟩
          obtain ⟨x470, q471, q433⟩ := bind_some q433
          refine ev_call rfl rfl C13 (((mission_one_ok n) _ _  x367 (Task.mk x435.Kind (Cell.mk x435.Cell.X x435.Cell.Y) x435.Limit x435.Tries) hp.imm _ q471).mono ?_)
          rintro _ w472 ⟨I473, v474, hv, hq, r475⟩
          replace hv := hv.symm
          subst hv
          have hs := hq.st
          have hp := hp.join0 hq
          replace hz := hz.trans hs
          replace r104 := r104.step hs
          replace o366 := o366.step hs
          refine ⟨SK (Stp I473 w472 I473) [(g109, [(.int .i64 3), (.int .i64 0), (.int .i64 0), v364], 26), (g441, [(.int .i64 x435.Kind), (.int .i64 x435.Cell.X), (.int .i64 x435.Cell.Y), (.int .i64 x435.Limit), (.int .i64 x435.Tries)], 40)] [[8], []], ⟨Stp.refl _ _, (kp_cons (fun _ => (hp.own 3 _ _ _ rfl).1) (kp_cons (fun _ => (hp.own 0 _ _ _ rfl).1) kp_nil))⟩, fun L x h => ⟨hz.held h.1, h.2⟩, ?_⟩
          have hz := Stp.refl I473 w472
          refine ⟨?_, trivial⟩
          obtain ⟨A476, m477, m478, rfl⟩ := r475.isSl
          refine ev_litN (d := dNode) (xs := [x470]) (cs := [(.int .i64 x470.Kind), (.int .i64 x470.Name), (.int .i64 x470.Count), (.slice A476 m477 m478)]) hp rfl rfl Tryd.underlying24 T26 (by decide) rfl rfl (Elems.cons (d := dNode) (xs := _) (dNode_m (x := x470) r475) (Elems.nil _ _ _ _)) ?_
          intro v480 I482 w481 hp hs r483
          replace hz := hz.trans hs
          replace r104 := r104.step hs
          replace o366 := o366.step hs
          refine ⟨SK (Stp I482 w481 I482) [(g109, [(.int .i64 3), (.int .i64 0), (.int .i64 0), v364], 26), (g441, [(.int .i64 x435.Kind), (.int .i64 x435.Cell.X), (.int .i64 x435.Cell.Y), (.int .i64 x435.Limit), (.int .i64 x435.Tries)], 40)] [[8], []], ⟨Stp.refl _ _, (kp_cons (fun _ => (hp.own 3 _ _ _ rfl).1) (kp_cons (fun _ => (hp.own 0 _ _ _ rfl).1) kp_nil))⟩, fun L x h => ⟨hz.held h.1, h.2⟩, ?_⟩
          have hz := Stp.refl I482 w481
          refine ⟨?_, trivial⟩
          obtain ⟨x484, q485, q433⟩ := bind_some q433
          refine ev_append hp (i := 2) rfl rfl rfl rfl Tryd.underlying24 T26 rfl rfl o366 r483 q485 ?_
          rintro v486 e487 w488 hp hs o489
          replace hz := hz.trans hs
          replace r104 := r104.step hs
          replace o366 := o366.step hs
          refine ⟨SK (Stp I482 w488 I482) [(g109, [(.int .i64 3), (.int .i64 0), (.int .i64 0), v364], 26), (g441, [(.int .i64 x435.Kind), (.int .i64 x435.Cell.X), (.int .i64 x435.Cell.Y), (.int .i64 x435.Limit), (.int .i64 x435.Tries)], 40)] [[8], []], ⟨Stp.refl _ _, (kp_cons (fun _ => (hp.own 3 _ _ _ rfl).1) (kp_cons (fun _ => (hp.own 0 _ _ _ rfl).1) kp_nil))⟩, fun L x h => ⟨hz.held h.1, h.2⟩, ?_⟩
          have hz := Stp.refl I482 w488
          refine ⟨SK.same (by kernel_rfl), ?_⟩
          refine evh0 (rn_field rfl rfl FO26_3) ?_
          refine ⟨?_, trivial⟩
          refine ev_store1 hp (i := 3) (off := 3) rfl rfl rfl rfl T24 o489.one (Nat.le_of_ble_eq_true rfl) ?_
          intro w490 hp hs
          replace hz := hz.trans hs
          replace r104 := r104.step hs
          replace o489 := o489.step hs
          refine ⟨SK (Stp I482 w490 I482) [(g109, [(.int .i64 3), (.int .i64 0), (.int .i64 0), v364], 26), (g441, [(.int .i64 x435.Kind), (.int .i64 x435.Cell.X), (.int .i64 x435.Cell.Y), (.int .i64 x435.Limit), (.int .i64 x435.Tries)], 40)] [[8], []], ⟨Stp.refl _ _, (kp_cons (kp_off (by kernel_rfl)) (kp_cons (fun _ => (hp.own 0 _ _ _ rfl).1) kp_nil))⟩, fun L x h => ⟨hz.held h.1, h.2⟩, ?_⟩
          have hz := Stp.refl I482 w490
          apply go
          have hp := hp.sel [1, 2, 3] (by decide)
          exact ⟨_, (Option.some.inj q433).symm, (v486, e487, I482), (.c rfl (.c rfl (.c rfl (.c rfl (.c rfl .n))))), ⟨hp, o489, r104⟩⟩
      ·
        have q433 := cond_f q433 hc
        apply go
        have q491 := congrArg some (q434 _ (Option.some.inj q433).symm)
        obtain rfl := Option.some.inj q491
        exact ⟨(x363, v364, e365, I368), (.c rfl (.c rfl .n)), rfl, hp, o366⟩
    ·
      rintro ⟨x298, v299, e300, I302⟩ w303 ⟨hy, hp, o301⟩
      replace hy := hy.symm
      subst hy
      apply go
      apply go
      refine ev (rn_load rfl rfl (run_loadVarA T26 rfl (hp.at_ (i := 2) rfl))) ?_
      refine ev_storeA hp (i := 0) (off := 0) (vs := [(.int .i64 3), (.int .i64 0), (.int .i64 0), v299]) rfl rfl rfl rfl T26 rfl (Nat.le_of_ble_eq_true rfl) (ones_cons rfl (ones_cons rfl (ones_cons rfl (ones_cons o301.one ones_nil)))) ?_
      intro w492 hp hs
      replace o301 := o301.step hs
      apply go
      obtain rfl := Option.some.inj h
      have r493 := o301.frz hp (i := 1) rfl
      obtain ⟨hp, hs⟩ := freeze_hp hp (i := 1) rfl
      have hp := hp.sel [0, 2] (by decide)
      refine ⟨_, run_loadVarA T26 rfl (hp.at_ (i := 0) rfl), ?_⟩
      have hp := hp.sel [] (by decide)
      exact ⟨(Ad I302 e300), v299, rfl, hp, r493⟩

end Go.Proofs.YtkhmdpekfcahkaaDoor

namespace Go.Proofs.YtkhmdpekfcahkaaDoor
open Go Go.Proofs.YtkhmdpekfcahkaaDoor.Gw Go.RowKit
set_option linter.unusedVariables false
attribute [local irreducible] Ev EvQ EvS EvH
def tree_size_S (f : Node → Int → Option Int) : Prop := ∀ (w0 : World) (I0 : Nat → Prop) (x494 : Node) (v495 : Value) (r496 : RepS dNode w0 I0 v495 x494.Kids) (x497 : Int) (hI : ∀ g, I0 g → g < w0.heap.size) (r : Int), f x494 x497 = some r →
    Ret Tryd.prog 24 #[(.agg #[(.int .i64 x494.Kind), (.int .i64 x494.Name), (.int .i64 x494.Count), v495]), (.int .i64 x497)] w0 fun v w1 => v = (.int .i64 r) ∧ Ch [] w0 w1
theorem tree_size_F_ok (n : Nat) (self : Node → Int → Option Int) (ih : tree_size_S self) : tree_size_S (tree_size_F n self) := by
  intro w0 I0 x494 v495 r496 x497 hI r h
  unfold tree_size_F at h
  refine enter Tryd.func24 rfl (Nat.le_of_ble_eq_true rfl) ?_
  have hp : Hp ⟨w0, I0, []⟩ I0 [] w0 := Hp.start hI
  apply go
  apply go
  refine ev_boxI hp rfl rfl ?_
  intro p500 I501 w499 hp hs a502
  replace r496 := r496.step hs
  apply go
  apply go
  obtain ⟨y557, q558, h⟩ := bind_some h
  refine W.cut (γ := Int) (fun g => [(5, (.int .i64 (g)))]) (fun g w' => y557 = (g) ∧ Hp ⟨w0, I0, []⟩ I501 [] w') ?_ ?_
  ·
    apply go
    apply go
    refine ev0 (rn_field rfl rfl FO26_3) ?_
    refine ev (rn_load rfl rfl (run_loadVar1 T24 (a502.2 3 _ rfl))) ?_
    refine ev0 (rn_len rfl rfl Tryd.underlying24 r496) ?_
    apply go
    refine W.loop q558 (γ := Unit) (fun s _ => [(1, (.int .i64 x497)), (5, (.int .i64 (s.1))), (9, v495), (10, (.int .i64 (x494.Kids.length : Int))), (11, (.int .i64 (s.2)))]) (fun s _ w' => Hp ⟨w0, I0, []⟩ I501 [] w' ∧ RepS dNode w' I501 v495 x494.Kids) () (.c rfl (.c rfl (.c rfl (.c rfl (.c rfl .n))))) ⟨hp, r496⟩ ?_
    rintro ⟨x573, x574⟩ ⟨⟩ w591 y592 ⟨hp, r496⟩ q593 q594
    unfold tree_size_L1 at q593
    apply go
    apply go
    apply go
    apply go
    refine sel_of (fun hc => ?_) (fun hc => ?_)
    ·
      have q593 := cond_t q593 hc
      apply go
      apply go
      apply go
      apply go
      apply go
      obtain ⟨x595, q596, q593⟩ := bind_some q593
      refine ev_index rfl rfl rfl Tryd.underlying24 T26 r496 q596 ?_
      intro p597 c598 d599 a600
      obtain ⟨v601, rfl, r602⟩ := dNode_o d599
      refine ev (rn_load rfl rfl (run_loadVarA T26 rfl a600)) ?_
      refine ev_alloc hp rfl T26 ?_
      intro g603 w604 hp hs
      replace r496 := r496.step hs
      replace r602 := r602.step hs
      refine ev_storeA hp (i := 0) (off := 0) (vs := [(.int .i64 x595.Kind), (.int .i64 x595.Name), (.int .i64 x595.Count), v601]) rfl rfl rfl rfl T26 rfl (Nat.le_of_ble_eq_true rfl) (ones_cons rfl (ones_cons rfl (ones_cons rfl (ones_cons r602.one ones_nil)))) ?_
      intro w605 hp hs
      replace r496 := r496.step hs
      replace r602 := r602.step hs
      apply go
      apply go
      apply go
      apply go
      refine sel_of (fun hc => ?_) (fun hc => ?_)
      ·
        have q593 := cond_t q593 hc
        apply go
        have q606 := congrArg some (q594 _ (Option.some.inj q593).symm)
        obtain rfl := Option.some.inj q606
        have hp := hp.sel [] (by decide)
        exact ⟨x573, (.c rfl .n), rfl, hp⟩
      ·
        have q593 := cond_f q593 hc
        apply go
        apply go
        refine ev (rn_load rfl rfl (run_loadVarA T26 rfl (hp.at_ (i := 0) rfl))) ?_
        obtain ⟨x607, q608, q593⟩ := bind_some q593
        refine ev_call rfl rfl C24 ((ih _ _  (Node.mk x595.Kind x595.Name x595.Count x595.Kids) v601 r602 (IntKind.i64.wrap (x497 - x573)) hp.imm _ q608).mono ?_)
        rintro _ w609 ⟨rfl, hc⟩
        have hs := hp.stp hc
        replace hp := hp.ext hc
        replace r496 := r496.step hs
        replace r602 := r602.step hs
        apply go
        have hp := hp.sel [] (by decide)
        exact ⟨_, (Option.some.inj q593).symm, (), (.c rfl (.c rfl (.c rfl (.c rfl (.c rfl .n))))), ⟨hp, r496⟩⟩
    ·
      have q593 := cond_f q593 hc
      apply go
      have q610 := congrArg some (q594 _ (Option.some.inj q593).symm)
      obtain rfl := Option.some.inj q610
      exact ⟨x573, (.c rfl .n), rfl, hp⟩
  ·
    rintro x555 w556 ⟨hy, hp⟩
    replace hy := hy.symm
    subst hy
    apply go
    apply go
    apply go
    obtain rfl := Option.some.inj h
    exact ⟨rfl, hp.ch⟩
theorem tree_size_ok : ∀ n, tree_size_S (tree_size n)
  | 0 => by intro w0 I0 x494 v495 r496 x497 hI r h; cases h
  | n + 1 => tree_size_F_ok n _ (tree_size_ok n)

end Go.Proofs.YtkhmdpekfcahkaaDoor

namespace Go.Proofs.YtkhmdpekfcahkaaDoor
open Go Go.Proofs.YtkhmdpekfcahkaaDoor.Gw Go.RowKit
set_option linter.unusedVariables false
attribute [local irreducible] Ev EvQ EvS EvH
def tree_Size_S (f : Node → Option Int) : Prop := ∀ (w0 : World) (I0 : Nat → Prop) (x611 : Node) (v612 : Value) (r613 : RepS dNode w0 I0 v612 x611.Kids) (hI : ∀ g, I0 g → g < w0.heap.size) (r : Int), f x611 = some r →
    Ret Tryd.prog 15 #[(.agg #[(.int .i64 x611.Kind), (.int .i64 x611.Name), (.int .i64 x611.Count), v612])] w0 fun v w1 => v = (.int .i64 r) ∧ Ch [] w0 w1
theorem tree_Size_ok (n : Nat) : tree_Size_S (tree_Size n) := by
  intro w0 I0 x611 v612 r613 hI r h
  unfold tree_Size at h
  refine enter Tryd.func15 rfl (Nat.le_of_ble_eq_true rfl) ?_
  have hp : Hp ⟨w0, I0, []⟩ I0 [] w0 := Hp.start hI
  apply go
  apply go
  refine ev_boxI hp rfl rfl ?_
  intro p616 I617 w615 hp hs a618
  replace r613 := r613.step hs
  apply go
  apply go
  refine ev (rn_load rfl rfl (run_loadVarA T26 rfl a618)) ?_
  obtain ⟨x619, q620, h⟩ := bind_some h
  refine ev_call rfl rfl C24 (((tree_size_ok n) _ _  (Node.mk x611.Kind x611.Name x611.Count x611.Kids) v612 r613 65 hp.imm _ q620).mono ?_)
  rintro _ w621 ⟨rfl, hc⟩
  have hs := hp.stp hc
  replace hp := hp.ext hc
  apply go
  obtain rfl := Option.some.inj h
  exact ⟨rfl, hp.ch⟩

end Go.Proofs.YtkhmdpekfcahkaaDoor

namespace Go.Proofs.YtkhmdpekfcahkaaDoor
open Go Go.Proofs.YtkhmdpekfcahkaaDoor.Gw Go.RowKit
set_option linter.unusedVariables false
attribute [local irreducible] Ev EvQ EvS EvH
def tree_fits_S (f : Node → Option Bool) : Prop := ∀ (w0 : World) (I0 : Nat → Prop) (x622 : Node) (v623 : Value) (r624 : RepS dNode w0 I0 v623 x622.Kids) (hI : ∀ g, I0 g → g < w0.heap.size) (r : Bool), f x622 = some r →
    Ret Tryd.prog 25 #[(.agg #[(.int .i64 x622.Kind), (.int .i64 x622.Name), (.int .i64 x622.Count), v623])] w0 fun v w1 => v = (.bool r) ∧ Ch [] w0 w1
theorem tree_fits_ok (n : Nat) : tree_fits_S (tree_fits n) := by
  intro w0 I0 x622 v623 r624 hI r h
  unfold tree_fits at h
  refine enter Tryd.func25 rfl (Nat.le_of_ble_eq_true rfl) ?_
  have hp : Hp ⟨w0, I0, []⟩ I0 [] w0 := Hp.start hI
  apply go
  apply go
  refine ev_boxI hp rfl rfl ?_
  intro p627 I628 w626 hp hs a629
  replace r624 := r624.step hs
  apply go
  refine W.quiet (fun w' => Ch [] w626 w') MX (by kernel_rfl) (Ch.drew [] w626) ?_
  refine evq0 (rn_field rfl rfl FO26_1) ?_
  refine evq (fun w' hw => rn_load rfl rfl (run_loadVar1 T3 ((a629.step (hp.stp hw)).2 1 _ rfl))) ?_
  refine evq0 (rn_field rfl rfl FO26_2) ?_
  refine evq (fun w' hw => rn_load rfl rfl (run_loadVar1 T3 ((a629.step (hp.stp hw)).2 2 _ rfl))) ?_
  refine evq0 (rn_field rfl rfl FO26_3) ?_
  refine evq (fun w' hw => rn_load rfl rfl (run_loadVar1 T24 ((a629.step (hp.stp hw)).2 3 _ rfl))) ?_
  refine evq0 (rn_len rfl rfl Tryd.underlying24 r624) ?_
  intro w630 hc
  have hs := hp.stp hc
  replace hp := hp.ext hc
  replace a629 := a629.step hs
  replace r624 := r624.step hs
  apply go
  apply go
  apply go
  refine ev0 (rn_field rfl rfl FO26_0) ?_
  refine ev (rn_load rfl rfl (run_loadVar1 T3 (a629.2 0 _ rfl))) ?_
  apply go
  obtain ⟨y632, q633, h⟩ := bind_some h
  refine W.cut (γ := Bool) (fun g => [(1, (.pointer (some (p627)))), (3, (.bool (x622.Name == 0))), (4, (.bool (x622.Count == 0))), (5, (.int .i64 (x622.Kids.length : Int))), (16, (.int .i64 x622.Kind)), (17, (.bool (g)))]) (fun g w' => y632 = (g) ∧ w630 = w') ?_ ?_
  ·
    apply go
    apply go
    apply go
    refine sel_of (fun hc => ?_) (fun hc => ?_)
    ·
      have q633 := cond_t q633 hc
      apply go
      obtain rfl := Option.some.inj q633
      exact ⟨(x622.Kind == 1), (.c rfl (.c rfl (.c rfl (.c rfl (.c rfl (.c rfl .n)))))), rfl, rfl⟩
    ·
      have q633 := cond_f q633 hc
      apply go
      obtain rfl := Option.some.inj q633
      exact ⟨(x622.Kind == 2), (.c rfl (.c rfl (.c rfl (.c rfl (.c rfl (.c rfl .n)))))), rfl, rfl⟩
  ·
    rintro x631 _ ⟨hy, rfl⟩
    replace hy := hy.symm
    subst hy
    apply go
    refine sel_of (fun hc => ?_) (fun hc => ?_)
    ·
      have h := cond_t h hc
      obtain ⟨y635, q636, h⟩ := bind_some h
      refine W.cut (γ := Bool) (fun g => [(2, (.bool (g)))]) (fun g w' => y635 = (g) ∧ w630 = w') ?_ ?_
      ·
        apply go
        refine ev0 (rn_field rfl rfl FO26_1) ?_
        refine ev (rn_load rfl rfl (run_loadVar1 T3 (a629.2 1 _ rfl))) ?_
        refine sel_of (fun hc => ?_) (fun hc => ?_)
        ·
          have q636 := cond_t q636 hc
          refine ev0 (rn_field rfl rfl FO26_1) ?_
          refine ev (rn_load rfl rfl (run_loadVar1 T3 (a629.2 1 _ rfl))) ?_
          refine sel_of (fun hc => ?_) (fun hc => ?_)
          ·
            have q636 := cond_t q636 hc
            refine sel_of (fun hc => ?_) (fun hc => ?_)
            ·
              have q636 := cond_t q636 hc
              obtain rfl := Option.some.inj q636
              exact ⟨((x622.Kids.length : Int) == 0), (.c rfl .n), rfl, rfl⟩
            ·
              have q636 := cond_f q636 hc
              obtain rfl := Option.some.inj q636
              exact ⟨false, (.c rfl .n), rfl, rfl⟩
          ·
            have q636 := cond_f q636 hc
            obtain rfl := Option.some.inj q636
            exact ⟨false, (.c rfl .n), rfl, rfl⟩
        ·
          have q636 := cond_f q636 hc
          obtain rfl := Option.some.inj q636
          exact ⟨false, (.c rfl .n), rfl, rfl⟩
      ·
        rintro x634 _ ⟨hy, rfl⟩
        replace hy := hy.symm
        subst hy
        apply go
        obtain rfl := Option.some.inj h
        exact ⟨rfl, hp.ch⟩
    ·
      have h := cond_f h hc
      obtain ⟨y638, q639, h⟩ := bind_some h
      refine W.cut (γ := Bool) (fun g => [(1, (.pointer (some (p627)))), (3, (.bool (x622.Name == 0))), (4, (.bool (x622.Count == 0))), (5, (.int .i64 (x622.Kids.length : Int))), (16, (.int .i64 x622.Kind)), (35, (.bool (g)))]) (fun g w' => y638 = (g) ∧ w630 = w') ?_ ?_
      ·
        apply go
        apply go
        apply go
        refine sel_of (fun hc => ?_) (fun hc => ?_)
        ·
          have q639 := cond_t q639 hc
          apply go
          obtain rfl := Option.some.inj q639
          exact ⟨(x622.Kind == 3), (.c rfl (.c rfl (.c rfl (.c rfl (.c rfl (.c rfl .n)))))), rfl, rfl⟩
        ·
          have q639 := cond_f q639 hc
          apply go
          obtain rfl := Option.some.inj q639
          exact ⟨(x622.Kind == 4), (.c rfl (.c rfl (.c rfl (.c rfl (.c rfl (.c rfl .n)))))), rfl, rfl⟩
      ·
        rintro x637 _ ⟨hy, rfl⟩
        replace hy := hy.symm
        subst hy
        apply go
        refine sel_of (fun hc => ?_) (fun hc => ?_)
        ·
          have h := cond_t h hc
          obtain ⟨y641, q642, h⟩ := bind_some h
          refine W.cut (γ := Bool) (fun g => [(2, (.bool (g)))]) (fun g w' => y641 = (g) ∧ w630 = w') ?_ ?_
          ·
            apply go
            refine sel_of (fun hc => ?_) (fun hc => ?_)
            ·
              have q642 := cond_t q642 hc
              obtain rfl := Option.some.inj q642
              exact ⟨(x622.Count == 0), (.c rfl .n), rfl, rfl⟩
            ·
              have q642 := cond_f q642 hc
              obtain rfl := Option.some.inj q642
              exact ⟨false, (.c rfl .n), rfl, rfl⟩
          ·
            rintro x640 _ ⟨hy, rfl⟩
            replace hy := hy.symm
            subst hy
            apply go
            obtain rfl := Option.some.inj h
            exact ⟨rfl, hp.ch⟩
        ·
          have h := cond_f h hc
          apply go
          apply go
          apply go
          refine sel_of (fun hc => ?_) (fun hc => ?_)
          ·
            have h := cond_t h hc
            obtain ⟨y644, q645, h⟩ := bind_some h
            refine W.cut (γ := Bool) (fun g => [(2, (.bool (g)))]) (fun g w' => y644 = (g) ∧ w630 = w') ?_ ?_
            ·
              apply go
              refine sel_of (fun hc => ?_) (fun hc => ?_)
              ·
                have q645 := cond_t q645 hc
                refine ev0 (rn_field rfl rfl FO26_2) ?_
                refine ev (rn_load rfl rfl (run_loadVar1 T3 (a629.2 2 _ rfl))) ?_
                refine sel_of (fun hc => ?_) (fun hc => ?_)
                ·
                  have q645 := cond_t q645 hc
                  refine ev0 (rn_field rfl rfl FO26_2) ?_
                  refine ev (rn_load rfl rfl (run_loadVar1 T3 (a629.2 2 _ rfl))) ?_
                  obtain rfl := Option.some.inj q645
                  exact ⟨(decide (x622.Count ≤ (x622.Kids.length : Int))), (.c rfl .n), rfl, rfl⟩
                ·
                  have q645 := cond_f q645 hc
                  obtain rfl := Option.some.inj q645
                  exact ⟨false, (.c rfl .n), rfl, rfl⟩
              ·
                have q645 := cond_f q645 hc
                obtain rfl := Option.some.inj q645
                exact ⟨false, (.c rfl .n), rfl, rfl⟩
            ·
              rintro x643 _ ⟨hy, rfl⟩
              replace hy := hy.symm
              subst hy
              apply go
              obtain rfl := Option.some.inj h
              exact ⟨rfl, hp.ch⟩
          ·
            have h := cond_f h hc
            apply go
            apply go
            apply go
            refine sel_of (fun hc => ?_) (fun hc => ?_)
            ·
              have h := cond_t h hc
              obtain ⟨y647, q648, h⟩ := bind_some h
              refine W.cut (γ := Bool) (fun g => [(2, (.bool (g)))]) (fun g w' => y647 = (g) ∧ w630 = w') ?_ ?_
              ·
                apply go
                refine sel_of (fun hc => ?_) (fun hc => ?_)
                ·
                  have q648 := cond_t q648 hc
                  refine sel_of (fun hc => ?_) (fun hc => ?_)
                  ·
                    have q648 := cond_t q648 hc
                    obtain rfl := Option.some.inj q648
                    exact ⟨((x622.Kids.length : Int) == 1), (.c rfl .n), rfl, rfl⟩
                  ·
                    have q648 := cond_f q648 hc
                    obtain rfl := Option.some.inj q648
                    exact ⟨false, (.c rfl .n), rfl, rfl⟩
                ·
                  have q648 := cond_f q648 hc
                  obtain rfl := Option.some.inj q648
                  exact ⟨false, (.c rfl .n), rfl, rfl⟩
              ·
                rintro x646 _ ⟨hy, rfl⟩
                replace hy := hy.symm
                subst hy
                apply go
                obtain rfl := Option.some.inj h
                exact ⟨rfl, hp.ch⟩
            ·
              have h := cond_f h hc
              obtain ⟨y650, q651, h⟩ := bind_some h
              refine W.cut (γ := Bool) (fun g => [(1, (.pointer (some (p627)))), (3, (.bool (x622.Name == 0))), (5, (.int .i64 (x622.Kids.length : Int))), (66, (.bool (g)))]) (fun g w' => y650 = (g) ∧ w630 = w') ?_ ?_
              ·
                apply go
                apply go
                apply go
                refine sel_of (fun hc => ?_) (fun hc => ?_)
                ·
                  have q651 := cond_t q651 hc
                  apply go
                  obtain rfl := Option.some.inj q651
                  exact ⟨(x622.Kind == 7), (.c rfl (.c rfl (.c rfl (.c rfl .n)))), rfl, rfl⟩
                ·
                  have q651 := cond_f q651 hc
                  apply go
                  obtain rfl := Option.some.inj q651
                  exact ⟨(x622.Kind == 8), (.c rfl (.c rfl (.c rfl (.c rfl .n)))), rfl, rfl⟩
              ·
                rintro x649 _ ⟨hy, rfl⟩
                replace hy := hy.symm
                subst hy
                apply go
                refine sel_of (fun hc => ?_) (fun hc => ?_)
                ·
                  have h := cond_t h hc
                  obtain ⟨y653, q654, h⟩ := bind_some h
                  refine W.cut (γ := Bool) (fun g => [(2, (.bool (g)))]) (fun g w' => y653 = (g) ∧ w630 = w') ?_ ?_
                  ·
                    apply go
                    refine sel_of (fun hc => ?_) (fun hc => ?_)
                    ·
                      have q654 := cond_t q654 hc
                      refine ev0 (rn_field rfl rfl FO26_2) ?_
                      refine ev (rn_load rfl rfl (run_loadVar1 T3 (a629.2 2 _ rfl))) ?_
                      refine sel_of (fun hc => ?_) (fun hc => ?_)
                      ·
                        have q654 := cond_t q654 hc
                        refine ev0 (rn_field rfl rfl FO26_2) ?_
                        refine ev (rn_load rfl rfl (run_loadVar1 T3 (a629.2 2 _ rfl))) ?_
                        refine sel_of (fun hc => ?_) (fun hc => ?_)
                        ·
                          have q654 := cond_t q654 hc
                          obtain rfl := Option.some.inj q654
                          exact ⟨((x622.Kids.length : Int) == 1), (.c rfl .n), rfl, rfl⟩
                        ·
                          have q654 := cond_f q654 hc
                          obtain rfl := Option.some.inj q654
                          exact ⟨false, (.c rfl .n), rfl, rfl⟩
                      ·
                        have q654 := cond_f q654 hc
                        obtain rfl := Option.some.inj q654
                        exact ⟨false, (.c rfl .n), rfl, rfl⟩
                    ·
                      have q654 := cond_f q654 hc
                      obtain rfl := Option.some.inj q654
                      exact ⟨false, (.c rfl .n), rfl, rfl⟩
                  ·
                    rintro x652 _ ⟨hy, rfl⟩
                    replace hy := hy.symm
                    subst hy
                    apply go
                    obtain rfl := Option.some.inj h
                    exact ⟨rfl, hp.ch⟩
                ·
                  have h := cond_f h hc
                  apply go
                  apply go
                  apply go
                  apply go
                  obtain rfl := Option.some.inj h
                  exact ⟨rfl, hp.ch⟩

end Go.Proofs.YtkhmdpekfcahkaaDoor

namespace Go.Proofs.YtkhmdpekfcahkaaDoor
open Go Go.Proofs.YtkhmdpekfcahkaaDoor.Gw Go.RowKit
set_option linter.unusedVariables false
attribute [local irreducible] Ev EvQ EvS EvH
def tree_valid_S (f : Node → Int → Option Bool) : Prop := ∀ (w0 : World) (I0 : Nat → Prop) (x655 : Node) (v656 : Value) (r657 : RepS dNode w0 I0 v656 x655.Kids) (x658 : Int) (hI : ∀ g, I0 g → g < w0.heap.size) (r : Bool), f x655 x658 = some r →
    Ret Tryd.prog 16 #[(.agg #[(.int .i64 x655.Kind), (.int .i64 x655.Name), (.int .i64 x655.Count), v656]), (.int .i64 x658)] w0 fun v w1 => v = (.bool r) ∧ Ch [] w0 w1
theorem tree_valid_F_ok (n : Nat) (self : Node → Int → Option Bool) (ih : tree_valid_S self) : tree_valid_S (tree_valid_F n self) := by
  intro w0 I0 x655 v656 r657 x658 hI r h
  unfold tree_valid_F at h
  refine enter Tryd.func16 rfl (Nat.le_of_ble_eq_true rfl) ?_
  have hp : Hp ⟨w0, I0, []⟩ I0 [] w0 := Hp.start hI
  apply go
  apply go
  refine ev_boxI hp rfl rfl ?_
  intro p661 I662 w660 hp hs a663
  replace r657 := r657.step hs
  apply go
  obtain ⟨y669, q670, h⟩ := bind_some h
  refine W.cut (γ := Bool) (fun g => [(1, (.int .i64 x658)), (2, (.pointer (some (p661)))), (13, (.bool (g)))]) (fun g w' => y669 = (g) ∧ Hp ⟨w0, I0, []⟩ I662 [] w' ∧ RepS dNode w' I662 v656 x655.Kids ∧ At w' I662 p661 [(.int .i64 x655.Kind), (.int .i64 x655.Name), (.int .i64 x655.Count), v656]) ?_ ?_
  ·
    apply go
    refine sel_of (fun hc => ?_) (fun hc => ?_)
    ·
      have q670 := cond_t q670 hc
      obtain rfl := Option.some.inj q670
      exact ⟨true, (.c rfl (.c rfl (.c rfl .n))), rfl, hp, r657, a663⟩
    ·
      have q670 := cond_f q670 hc
      refine ev (rn_load rfl rfl (run_loadVarA T26 rfl a663)) ?_
      obtain ⟨x671, q672, q670⟩ := bind_some q670
      refine ev_call rfl rfl C25 (((tree_fits_ok n) _ _  (Node.mk x655.Kind x655.Name x655.Count x655.Kids) v656 r657 hp.imm _ q672).mono ?_)
      rintro _ w673 ⟨rfl, hc⟩
      have hs := hp.stp hc
      replace hp := hp.ext hc
      replace a663 := a663.step hs
      replace r657 := r657.step hs
      obtain rfl := Option.some.inj q670
      exact ⟨(!x671), (.c rfl (.c rfl (.c rfl .n))), rfl, hp, r657, a663⟩
  ·
    rintro x667 w668 ⟨hy, hp, r657, a663⟩
    replace hy := hy.symm
    subst hy
    apply go
    refine sel_of (fun hc => ?_) (fun hc => ?_)
    ·
      have h := cond_t h hc
      apply go
      apply go
      apply go
      obtain rfl := Option.some.inj h
      exact ⟨rfl, hp.ch⟩
    ·
      have h := cond_f h hc
      apply go
      obtain ⟨y725, q726, h⟩ := bind_some h
      refine W.cut (γ := Unit) (fun _ => []) (fun _ w' => y725 = .go () ∧ Hp ⟨w0, I0, []⟩ I662 [] w') ?_ ?_
      ·
        apply go
        apply go
        refine ev0 (rn_field rfl rfl FO26_3) ?_
        refine ev (rn_load rfl rfl (run_loadVar1 T24 (a663.2 3 _ rfl))) ?_
        refine ev0 (rn_len rfl rfl Tryd.underlying24 r657) ?_
        apply go
        refine W.loop q726 (γ := Unit) (fun s _ => [(1, (.int .i64 x658)), (15, v656), (16, (.int .i64 (x655.Kids.length : Int))), (17, (.int .i64 (s)))]) (fun s _ w' => Hp ⟨w0, I0, []⟩ I662 [] w' ∧ RepS dNode w' I662 v656 x655.Kids) () (.c rfl (.c rfl (.c rfl (.c rfl .n)))) ⟨hp, r657⟩ ?_
        rintro x741 ⟨⟩ w757 y758 ⟨hp, r657⟩ q759 q760
        unfold tree_valid_L1 at q759
        apply go
        apply go
        apply go
        apply go
        refine sel_of (fun hc => ?_) (fun hc => ?_)
        ·
          have q759 := cond_t q759 hc
          apply go
          apply go
          apply go
          apply go
          apply go
          obtain ⟨x761, q762, q759⟩ := bind_some q759
          refine ev_index rfl rfl rfl Tryd.underlying24 T26 r657 q762 ?_
          intro p763 c764 d765 a766
          obtain ⟨v767, rfl, r768⟩ := dNode_o d765
          refine ev (rn_load rfl rfl (run_loadVarA T26 rfl a766)) ?_
          refine ev_alloc hp rfl T26 ?_
          intro g769 w770 hp hs
          replace r657 := r657.step hs
          replace r768 := r768.step hs
          refine ev_storeA hp (i := 0) (off := 0) (vs := [(.int .i64 x761.Kind), (.int .i64 x761.Name), (.int .i64 x761.Count), v767]) rfl rfl rfl rfl T26 rfl (Nat.le_of_ble_eq_true rfl) (ones_cons rfl (ones_cons rfl (ones_cons rfl (ones_cons r768.one ones_nil)))) ?_
          intro w771 hp hs
          replace r657 := r657.step hs
          replace r768 := r768.step hs
          apply go
          apply go
          refine ev (rn_load rfl rfl (run_loadVarA T26 rfl (hp.at_ (i := 0) rfl))) ?_
          obtain ⟨x772, q773, q759⟩ := bind_some q759
          refine ev_call rfl rfl C16 ((ih _ _  (Node.mk x761.Kind x761.Name x761.Count x761.Kids) v767 r768 (IntKind.i64.wrap (x658 - 1)) hp.imm _ q773).mono ?_)
          rintro _ w774 ⟨rfl, hc⟩
          have hs := hp.stp hc
          replace hp := hp.ext hc
          replace r657 := r657.step hs
          replace r768 := r768.step hs
          apply go
          refine sel_of (fun hc => ?_) (fun hc => ?_)
          ·
            have q759 := cond_t q759 hc
            apply go
            apply go
            apply go
            have q775 := congrArg some (q760 _ (Option.some.inj q759).symm)
            obtain rfl := Option.some.inj q775
            obtain rfl := Option.some.inj h
            exact ⟨rfl, hp.ch⟩
          ·
            have q759 := cond_f q759 hc
            apply go
            apply go
            have hp := hp.sel [] (by decide)
            exact ⟨_, (Option.some.inj q759).symm, (), (.c rfl (.c rfl (.c rfl (.c rfl .n)))), ⟨hp, r657⟩⟩
        ·
          have q759 := cond_f q759 hc
          apply go
          have q776 := congrArg some (q760 _ (Option.some.inj q759).symm)
          obtain rfl := Option.some.inj q776
          exact ⟨(), .n, rfl, hp⟩
      ·
        rintro ⟨⟩ w724 ⟨hy, hp⟩
        replace hy := hy.symm
        subst hy
        apply go
        apply go
        apply go
        obtain rfl := Option.some.inj h
        exact ⟨rfl, hp.ch⟩
theorem tree_valid_ok : ∀ n, tree_valid_S (tree_valid n)
  | 0 => by intro w0 I0 x655 v656 r657 x658 hI r h; cases h
  | n + 1 => tree_valid_F_ok n _ (tree_valid_ok n)

end Go.Proofs.YtkhmdpekfcahkaaDoor

namespace Go.Proofs.YtkhmdpekfcahkaaDoor
open Go Go.Proofs.YtkhmdpekfcahkaaDoor.Gw Go.RowKit
set_option linter.unusedVariables false
attribute [local irreducible] Ev EvQ EvS EvH
def tree_Valid_S (f : Node → Option Bool) : Prop := ∀ (w0 : World) (I0 : Nat → Prop) (x777 : Node) (v778 : Value) (r779 : RepS dNode w0 I0 v778 x777.Kids) (hI : ∀ g, I0 g → g < w0.heap.size) (r : Bool), f x777 = some r →
    Ret Tryd.prog 7 #[(.agg #[(.int .i64 x777.Kind), (.int .i64 x777.Name), (.int .i64 x777.Count), v778])] w0 fun v w1 => v = (.bool r) ∧ Ch [] w0 w1
theorem tree_Valid_ok (n : Nat) : tree_Valid_S (tree_Valid n) := by
  intro w0 I0 x777 v778 r779 hI r h
  unfold tree_Valid at h
  refine enter Tryd.func7 rfl (Nat.le_of_ble_eq_true rfl) ?_
  have hp : Hp ⟨w0, I0, []⟩ I0 [] w0 := Hp.start hI
  apply go
  apply go
  refine ev_boxI hp rfl rfl ?_
  intro p782 I783 w781 hp hs a784
  replace r779 := r779.step hs
  obtain ⟨y793, q794, h⟩ := bind_some h
  refine W.cut (γ := Bool) (fun g => [(2, (.bool (g)))]) (fun g w' => y793 = (g) ∧ Hp ⟨w0, I0, []⟩ I783 [] w') ?_ ?_
  ·
    apply go
    refine ev (rn_load rfl rfl (run_loadVarA T26 rfl a784)) ?_
    obtain ⟨x795, q796, q794⟩ := bind_some q794
    refine ev_call rfl rfl C15 (((tree_Size_ok n) _ _  (Node.mk x777.Kind x777.Name x777.Count x777.Kids) v778 r779 hp.imm _ q796).mono ?_)
    rintro _ w797 ⟨rfl, hc⟩
    have hs := hp.stp hc
    replace hp := hp.ext hc
    replace a784 := a784.step hs
    replace r779 := r779.step hs
    refine sel_of (fun hc => ?_) (fun hc => ?_)
    ·
      have q794 := cond_t q794 hc
      refine ev (rn_load rfl rfl (run_loadVarA T26 rfl a784)) ?_
      obtain ⟨x798, q799, q794⟩ := bind_some q794
      refine ev_call rfl rfl C16 (((tree_valid_ok n) _ _  (Node.mk x777.Kind x777.Name x777.Count x777.Kids) v778 r779 16 hp.imm _ q799).mono ?_)
      rintro _ w800 ⟨rfl, hc⟩
      have hs := hp.stp hc
      replace hp := hp.ext hc
      obtain rfl := Option.some.inj q794
      exact ⟨x798, (.c rfl .n), rfl, hp⟩
    ·
      have q794 := cond_f q794 hc
      obtain rfl := Option.some.inj q794
      exact ⟨false, (.c rfl .n), rfl, hp⟩
  ·
    rintro x791 w792 ⟨hy, hp⟩
    replace hy := hy.symm
    subst hy
    apply go
    obtain rfl := Option.some.inj h
    exact ⟨rfl, hp.ch⟩

end Go.Proofs.YtkhmdpekfcahkaaDoor

namespace Go.Proofs.YtkhmdpekfcahkaaDoor
open Go Go.Proofs.YtkhmdpekfcahkaaDoor.Gw Go.RowKit
set_option linter.unusedVariables false
attribute [local irreducible] Ev EvQ EvS EvH
def tree_Runner_add_S (f : Runner → Node → Option (Int × Runner)) : Prop := ∀ (w0 : World) (I0 : Nat → Prop) (x801 : Runner) (g802 : Nat) (E803 : List Ent) (q804 : qZ w0 I0 g802 E803 x801) (x805 : Node) (v806 : Value) (r807 : RepS dNode w0 I0 v806 x805.Kids) (hp : Hp ⟨w0, I0, blks E803⟩ I0 E803 w0) (r : (Int × Runner)), f x801 x805 = some r →
    Ret Tryd.prog 32 #[(.pointer (some ⟨g802, 0, none⟩)), (.agg #[(.int .i64 x805.Kind), (.int .i64 x805.Name), (.int .i64 x805.Count), v806])] w0 fun v w1 => ∃ (I1 : Nat → Prop) (u808 : List Ent), v = (.int .i64 r.1) ∧ Hp ⟨w0, I0, blks E803⟩ I1 u808 w1 ∧ qN w0.heap.size w1 I1 g802 u808 r.2

/-- Nodes whose lists of kids are own rows. -/
def KidsR (w : World) (I : Nat → Prop) (rs : List Rw) (ks : List Ent) (xs : List Node_2) : Prop :=
  rs.length = xs.length ∧ ks.length = xs.length ∧ ∀ (i : Nat) (r : Rw) (k : Ent) (x : Node_2), rs[i]? = some r → ks[i]? = some k → xs[i]? = some x → r.a = x.kind ∧ r.b = x.name ∧ r.c = x.count ∧ OwnS (dI .i64) 3 w I r.v k x.kids
theorem KidsR.step {w w' : World} {I I' : Nat → Prop} {rs : List Rw} {ks : List Ent} {xs : List Node_2} (h : KidsR w I rs ks xs) (k : Stp I w I' w') : KidsR w' I' rs ks xs :=
  ⟨h.1, h.2.1, fun i r e x h1 h2 h3 => let ⟨a, b, c, o⟩ := h.2.2 i r e x h1 h2 h3; ⟨a, b, c, o.step k⟩⟩
theorem KidsR.snoc {w : World} {I : Nat → Prop} {rs : List Rw} {ks : List Ent} {xs : List Node_2} (h : KidsR w I rs ks xs) (a b c : Int) : KidsR w I (rs ++ [⟨a, b, c, .slice none 0 0⟩]) (ks ++ [none]) (xs ++ [Node_2.mk a b c []]) := by
  obtain ⟨h1, h2, h3⟩ := h
  refine ⟨by simp [h1], by simp [h2], fun i r k x hr hk hx => ?_⟩
  rcases Nat.lt_trichotomy i xs.length with hi | hi | hi
  · rw [List.getElem?_append_left (by omega)] at hr hk hx
    exact h3 i r k x hr hk hx
  · rw [List.getElem?_append_right (by omega)] at hr hk hx
    simp only [h1, h2, hi, Nat.sub_self, List.getElem?_cons_zero, Option.some.injEq] at hr hk hx
    subst hr hk hx
    exact ⟨rfl, rfl, rfl, OwnS.nil _ _ _ _⟩
  · rw [List.getElem?_eq_none (by simp; omega)] at hx; cases hx
theorem KidsR.put {w : World} {I : Nat → Prop} {rs : List Rw} {ks : List Ent} {xs : List Node_2} (h : KidsR w I rs ks xs) {j : Nat} {r : Rw} {x : Node_2} {v : Value} {e : Ent} {l : List Int} (hr : rs[j]? = some r) (hx : xs[j]? = some x) (ho : OwnS (dI .i64) 3 w I v e l) :
    KidsR w I (rs.set j ⟨r.a, r.b, r.c, v⟩) (ks.set j e) (xs.set j (Node_2.mk x.kind x.name x.count l)) := by
  obtain ⟨h1, h2, h3⟩ := h
  have hj := (List.getElem?_eq_some_iff.1 hx).1
  refine ⟨by simp [h1], by simp [h2], fun i r' k' x' hr' hk' hx' => ?_⟩
  rw [List.getElem?_set] at hr' hk' hx'
  split at hr'
  · rename_i e0
    subst e0
    rw [if_pos rfl, if_pos (by omega)] at hk' hx'
    rw [if_pos (by omega)] at hr'
    simp only [Option.some.injEq] at hr' hk' hx'
    subst hr' hk' hx'
    obtain ⟨a, b, c, _⟩ := h3 j r (ks[j]'(by omega)) x hr (List.getElem?_eq_getElem (by omega)) hx
    exact ⟨a, b, c, ho⟩
  · rename_i e0
    rw [if_neg e0] at hk' hx'
    exact h3 i r' k' x' hr' hk' hx'
theorem KidsR.get {w : World} {I : Nat → Prop} {rs : List Rw} {ks : List Ent} {xs : List Node_2} (h : KidsR w I rs ks xs) {i : Int} {x : Node_2} (hx : idx xs i = some x) : ∃ (r : Rw) (e : Ent), idx rs i = some r ∧ rs[i.toNat]? = some r ∧ ks[i.toNat]? = some e ∧ xs[i.toNat]? = some x ∧ OwnS (dI .i64) 3 w I r.v e x.kids := by
  obtain ⟨h0, hl, hg⟩ := idx_some hx
  have h1 := h.1; have h2 := h.2.1
  refine ⟨rs[i.toNat]'(by omega), ks[i.toNat]'(by omega), ?_, List.getElem?_eq_getElem _, List.getElem?_eq_getElem _, hg, (h.2.2 i.toNat _ _ x (List.getElem?_eq_getElem _) (List.getElem?_eq_getElem _) hg).2.2.2⟩
  unfold idx; rw [if_pos h0]; exact List.getElem?_eq_getElem _
theorem PLadd : Places Tryd.prog 82 [(0, 1), (1, 1), (2, 1), (3, 1)] := by unfold Places; kernel_rfl
def add_G (f : List Node_2 → Node → Option (Int × List Node_2)) : Prop := ∀ (w0 : World) (I0 : Nat → Prop) (g : Nat) (v : Value) (e : Ent) (ks : List Ent) (xs : List Node_2) (rs : List Rw) (t : Node) (vt : Value) (_ : RepS dNode w0 I0 vt t.Kids)
    (_ : OwnS dRw 82 w0 I0 v e rs) (_ : KidsR w0 I0 rs ks xs) (_ : Hp ⟨w0, I0, blks (some (g, [v, (.slice none 0 0), (.slice none 0 0)], 75) :: e :: ks)⟩ I0 (some (g, [v, (.slice none 0 0), (.slice none 0 0)], 75) :: e :: ks) w0) (r : Int × List Node_2), f xs t = some r →
    Ret Tryd.prog 32 #[(.pointer (some ⟨g, 0, none⟩)), (.agg #[(.int .i64 t.Kind), (.int .i64 t.Name), (.int .i64 t.Count), vt])] w0 fun u w1 => ∃ (I1 : Nat → Prop) (v' : Value) (e' : Ent) (ks' : List Ent) (rs' : List Rw), u = .int .i64 r.1 ∧
      Hp ⟨w0, I0, blks (some (g, [v, (.slice none 0 0), (.slice none 0 0)], 75) :: e :: ks)⟩ I1 (some (g, [v', (.slice none 0 0), (.slice none 0 0)], 75) :: e' :: ks') w1 ∧ OwnS dRw 82 w1 I1 v' e' rs' ∧ KidsR w1 I1 rs' ks' r.2
set_option maxHeartbeats 1000000 in
theorem addN_F_ok (n : Nat) (self : List Node_2 → Node → Option (Int × List Node_2)) (ih : add_G self) : add_G (addN_F n self) := by
  intro w0 I0 g v e ks xs rs t vt rt on kr hp r h
  unfold addN_F at h
  refine enter Tryd.func32 rfl (Nat.le_of_ble_eq_true rfl) ?_
  generalize blks (some (g, [v, (.slice none 0 0), (.slice none 0 0)], 75) :: e :: ks) = B at hp ⊢
  apply go
  apply go
  refine ev_boxI hp rfl rfl ?_
  intro p I1 w1 hp hs a
  replace rt := rt.step hs
  replace on := on.step hs
  replace kr := kr.step hs
  apply go
  apply go
  refine ev0 (rn_field rfl rfl FO75_0) ?_
  refine ev (rn_load rfl rfl (run_loadVar1 T73 (hp.cell (i := 0) (off := 0) rfl rfl))) ?_
  refine ev0 (show Rn0 _ _ _ (.int .i64 (xs.length : Int)) from by rw [← kr.1]; exact x_lenO rfl rfl Tryd.underlying73 on) ?_
  obtain ⟨xs1, q1, h⟩ := bind_some h
  apply go
  have hs := hp.stp (Ch.drew [] w1)
  have hp := hp.drew
  replace a := a.step hs
  replace rt := rt.step hs
  replace on := on.step hs
  replace kr := kr.step hs
  refine W.heldG (.q 0 (.q 1 (.q 2 (.q 3 (.q 4 (.q 5 (.q 6 (.q 7 (.q 8 (.q 9 (.q 10 (.q 11 (.l 12 (.l 13 (.q 14 (.q 15 (.l 16 .done .no))) .no) .no))))))))))))) (SK (Stp I1 w1.drew I1) [(g, [v, (.slice none 0 0), (.slice none 0 0)], 75)] [[16]]) MX (by kernel_rfl) ⟨Stp.refl _ _, (kp_cons (fun _ => (hp.own 0 _ _ _ rfl).1) kp_nil)⟩ ?_
  have hz := Stp.refl I1 w1.drew
  refine ⟨SK.same (by kernel_rfl), ?_⟩
  refine ⟨SK.same (by kernel_rfl), ?_⟩
  refine ⟨SK.same (by kernel_rfl), ?_⟩
  refine ⟨SK.same (by kernel_rfl), ?_⟩
  refine evh0 (rn_field rfl rfl FO75_0) ?_
  refine ⟨SK.same (by kernel_rfl), ?_⟩
  refine evh (fun w' hw => rn_load rfl rfl (run_loadVar1 T73 ((S0.keep (p := 0) hw rfl rfl (by kernel_rfl)).cell (i := 0) (off := 0) rfl rfl))) ?_
  refine ⟨SK.same (by kernel_rfl), ?_⟩
  refine evh0 (rn_field rfl rfl FO26_0) ?_
  refine ⟨SK.same (by kernel_rfl), ?_⟩
  refine evh (fun w' hw => rn_load rfl rfl (run_loadVar1 T3 ((a.step (S0.si hw)).2 0 _ rfl))) ?_
  refine ⟨SK.same (by kernel_rfl), ?_⟩
  refine evh0 (rn_field rfl rfl FO26_1) ?_
  refine ⟨SK.same (by kernel_rfl), ?_⟩
  refine evh (fun w' hw => rn_load rfl rfl (run_loadVar1 T3 ((a.step (S0.si hw)).2 1 _ rfl))) ?_
  refine ⟨SK.same (by kernel_rfl), ?_⟩
  refine evh0 (rn_field rfl rfl FO26_2) ?_
  refine ⟨SK.same (by kernel_rfl), ?_⟩
  refine evh (fun w' hw => rn_load rfl rfl (run_loadVar1 T3 ((a.step (S0.si hw)).2 2 _ rfl))) ?_
  refine ⟨SK.same (by kernel_rfl), ?_⟩
  refine evh0 (fun w => rn_build (cs := [(.int .i64 t.Kind), (.int .i64 t.Name), (.int .i64 t.Count), (.slice none 0 0)]) rfl rfl T82 PLadd rfl) ?_
  refine ⟨?_, trivial⟩
  refine ev_litN (d := dRw) (xs := [Rw.mk t.Kind t.Name t.Count (.slice none 0 0)]) (cs := [(.int .i64 t.Kind), (.int .i64 t.Name), (.int .i64 t.Count), (.slice none 0 0)]) hp rfl rfl Tryd.underlying73 T82 (by decide) rfl rfl (Elems.cons (d := dRw) (xs := _) (dRw_one rfl) (Elems.nil _ _ _ _)) ?_
  intro v2 I2 w2 hp hs r2
  replace hz := hz.trans hs
  replace a := a.step hs
  replace rt := rt.step hs
  replace on := on.step hs
  replace kr := kr.step hs
  refine ⟨SK (Stp I2 w2 I2) [(g, [v, (.slice none 0 0), (.slice none 0 0)], 75)] [[16]], ⟨Stp.refl _ _, (kp_cons (fun _ => (hp.own 0 _ _ _ rfl).1) kp_nil)⟩, fun L x h => ⟨hz.held h.1, h.2⟩, ?_⟩
  have hz := Stp.refl I2 w2
  have q1' : app rs [Rw.mk t.Kind t.Name t.Count (.slice none 0 0)] = some (rs ++ [Rw.mk t.Kind t.Name t.Count (.slice none 0 0)]) := by
    have := (app_some q1).1
    unfold app
    rw [if_pos (by rw [kr.1]; simpa using this)]
  refine ⟨?_, trivial⟩
  refine ev_append hp (i := 1) rfl rfl rfl rfl Tryd.underlying73 T82 rfl rfl on r2 q1' ?_
  rintro v3 e3 w3 hp hs on3
  obtain rfl := (app_some q1).2
  replace hz := hz.trans hs
  replace a := a.step hs
  replace rt := rt.step hs
  replace kr := (kr.step hs).snoc t.Kind t.Name t.Count
  refine ⟨SK (Stp I2 w3 I2) [(g, [v, (.slice none 0 0), (.slice none 0 0)], 75)] [[16]], ⟨Stp.refl _ _, (kp_cons (fun _ => (hp.own 0 _ _ _ rfl).1) kp_nil)⟩, fun L x h => ⟨hz.held h.1, h.2⟩, ?_⟩
  have hz := Stp.refl I2 w3
  refine ⟨SK.same (by kernel_rfl), ?_⟩
  refine ⟨SK.same (by kernel_rfl), ?_⟩
  refine evh0 (rn_field rfl rfl FO75_0) ?_
  refine ⟨?_, trivial⟩
  refine ev_store1 hp (i := 0) (off := 0) rfl rfl rfl rfl T73 on3.one (Nat.le_of_ble_eq_true rfl) ?_
  intro w4 hp hs
  replace hz := hz.trans hs
  replace a := a.step hs
  replace rt := rt.step hs
  replace on3 := on3.step hs
  replace kr := kr.step hs
  have hp : Hp ⟨w0, I0, B⟩ I2 (some (g, [v3, (.slice none 0 0), (.slice none 0 0)], 75) :: e3 :: (ks ++ [none])) w4 := hp.snoc_none
  refine ⟨SK (Stp I2 w4 I2) [(g, [v, (.slice none 0 0), (.slice none 0 0)], 75)] [[16]], ⟨Stp.refl _ _, (kp_cons (kp_off (by kernel_rfl)) kp_nil)⟩, fun L x h => ⟨hz.held h.1, h.2⟩, ?_⟩
  have hz := Stp.refl I2 w4
  obtain ⟨ns2, q2, h⟩ := bind_some h
  refine W.cut (γ := (List Node_2 × Value × Ent × List Ent × List Rw × (Nat → Prop))) (fun _ => [(5, (.int .i64 (xs.length : Int)))]) (fun s w' => ns2 = s.1 ∧ Hp ⟨w0, I0, B⟩ s.2.2.2.2.2 (some (g, [s.2.1, (.slice none 0 0), (.slice none 0 0)], 75) :: s.2.2.1 :: s.2.2.2.1) w' ∧ OwnS dRw 82 w' s.2.2.2.2.2 s.2.1 s.2.2.1 s.2.2.2.2.1 ∧ KidsR w' s.2.2.2.2.2 s.2.2.2.2.1 s.2.2.2.1 s.1) ?_ ?_
  ·
    apply go
    apply go
    refine ev0 (rn_field rfl rfl FO26_3) ?_
    refine ev (rn_load rfl rfl (run_loadVar1 T24 (a.2 3 _ rfl))) ?_
    refine ev0 (rn_len rfl rfl Tryd.underlying24 rt) ?_
    apply go
    refine W.loop q2 (γ := (Value × Ent × List Ent × List Rw × (Nat → Prop))) (fun s _ => [(0, (.pointer (some ⟨g, 0, none⟩))), (5, (.int .i64 (xs.length : Int))), (31, vt), (32, (.int .i64 (t.Kids.length : Int))), (33, (.int .i64 s.1))])
      (fun s b w' => Hp ⟨w0, I0, B⟩ b.2.2.2.2 (some (g, [b.1, (.slice none 0 0), (.slice none 0 0)], 75) :: b.2.1 :: b.2.2.1) w' ∧ OwnS dRw 82 w' b.2.2.2.2 b.1 b.2.1 b.2.2.2.1 ∧ KidsR w' b.2.2.2.2 b.2.2.2.1 b.2.2.1 s.2 ∧ RepS dNode w' b.2.2.2.2 vt t.Kids)
      (v3, e3, ks ++ [none], rs ++ [Rw.mk t.Kind t.Name t.Count (.slice none 0 0)], I2) (.c rfl (.c rfl (.c rfl (.c rfl (.c rfl .n))))) ⟨hp, on3, kr, rt⟩ ?_
    rintro ⟨i, ns⟩ ⟨v6, e6, ks6, rs6, I6⟩ w6 y ⟨hp, on, kr, rt⟩ q3 q4
    unfold addN_L at q3
    apply go
    apply go
    apply go
    apply go
    refine sel_of (fun hc => ?_) (fun hc => ?_)
    ·
      have q3 := cond_t q3 hc
      apply go
      apply go
      apply go
      apply go
      apply go
      obtain ⟨t1, q5, q3⟩ := bind_some q3
      refine ev_index rfl rfl rfl Tryd.underlying24 T26 rt q5 ?_
      intro p7 c7 d7 a7
      obtain ⟨v7, rfl, r7⟩ := dNode_o d7
      refine ev (rn_load rfl rfl (run_loadVarA T26 rfl a7)) ?_
      refine ev_alloc hp rfl T26 ?_
      intro g8 w8 hp hs
      replace on := on.step hs
      replace kr := kr.step hs
      replace rt := rt.step hs
      replace r7 := r7.step hs
      refine ev_storeA hp (i := 0) (off := 0) (vs := [(.int .i64 t1.Kind), (.int .i64 t1.Name), (.int .i64 t1.Count), v7]) rfl rfl rfl rfl T26 rfl (Nat.le_of_ble_eq_true rfl) (ones_cons rfl (ones_cons rfl (ones_cons rfl (ones_cons r7.one ones_nil)))) ?_
      intro w9 hp hs
      replace on := on.step hs
      replace kr := kr.step hs
      replace rt := rt.step hs
      replace r7 := r7.step hs
      apply go
      apply go
      refine ev (rn_load rfl rfl (run_loadVarA T26 rfl (hp.at_ (i := 0) rfl))) ?_
      have hp := hp.tail
      obtain ⟨⟨j, ns1⟩, q6, q3⟩ := bind_some q3
      refine ev_call rfl rfl C32 ((ih w9 I6 g v6 e6 ks6 ns rs6 t1 v7 r7 on kr hp.lendAll (j, ns1) q6).mono ?_)
      rintro _ w10 ⟨I10, v10, e10, ks10, rs10, hv, hq, on, kr⟩
      replace hv := hv.symm
      subst hv
      have hs := hq.st
      have hp := hp.backAll hq
      replace rt := rt.step hs
      obtain ⟨nd, q7, q3⟩ := bind_some q3
      obtain ⟨r10, ek, q8, q9, q10, q11, ok⟩ := kr.get q7
      obtain ⟨ge, cs, cap, _, he, _⟩ := on.open q8
      rw [he] at hp on
      apply go
      have hs := hp.stp (Ch.drew [] w10)
      have hp := hp.drew
      replace on := on.step hs
      replace kr := kr.step hs
      replace rt := rt.step hs
      replace ok := ok.step hs
      refine W.heldG (.q 0 (.q 1 (.q 2 (.q 3 (.q 4 (.q 5 (.q 6 (.q 7 (.q 8 (.q 9 (.q 10 (.q 11 (.q 12 (.q 13 (.l 14 (.l 15 (.q 16 (.q 17 (.l 18 .done .no))) .no) .no))))))))))))))) (SK (Stp I10 w10.drew I10) [(g, [v10, (.slice none 0 0), (.slice none 0 0)], 75), (ge, cs, 82)] [[], [18]]) MX (by kernel_rfl) ⟨Stp.refl _ _, (kp_cons (fun _ => (hp.own 0 _ _ _ rfl).1) (kp_cons (fun _ => (hp.own 1 _ _ _ rfl).1) kp_nil))⟩ ?_
      have hz := Stp.refl I10 w10.drew
      refine ⟨SK.same (by kernel_rfl), ?_⟩
      refine ⟨SK.same (by kernel_rfl), ?_⟩
      refine ⟨SK.same (by kernel_rfl), ?_⟩
      refine evh0 (rn_field rfl rfl FO75_0) ?_
      refine ⟨SK.same (by kernel_rfl), ?_⟩
      refine evh (fun w' hw => rn_load rfl rfl (run_loadVar1 T73 ((S0.keep (p := 0) hw rfl rfl (by kernel_rfl)).cell (i := 0) (off := 0) rfl rfl))) ?_
      refine ⟨SK.same (by kernel_rfl), ?_⟩
      refine ⟨SK.same (by kernel_rfl), ?_⟩
      refine ⟨SK.same (by kernel_rfl), ?_⟩
      refine ⟨SK.same (by kernel_rfl), ?_⟩
      refine evh0 (rn_field rfl rfl FO75_0) ?_
      refine ⟨SK.same (by kernel_rfl), ?_⟩
      refine evh (fun w' hw => rn_load rfl rfl (run_loadVar1 T73 ((S0.keep (p := 0) hw rfl rfl (by kernel_rfl)).cell (i := 0) (off := 0) rfl rfl))) ?_
      refine ⟨SK.same (by kernel_rfl), ?_⟩
      refine ⟨SK.same (by kernel_rfl), ?_⟩
      refine evh_indexP rfl rfl rfl Tryd.underlying73 T82 on q8 ?_
      intro d10 l10
      refine ⟨SK.same (by kernel_rfl), ?_⟩
      refine evh0 (rn_field rfl rfl FO82_3) ?_
      refine ⟨SK.same (by kernel_rfl), ?_⟩
      refine evh (fun w' hw => rn_load rfl rfl (run_loadVar1 T43 (by rw [add_lit]; exact (S0.keep (p := 1) hw rfl rfl (by kernel_rfl)).cell (i := 0) (off := (xs.length : Int).toNat * 4 + 3) rfl (on.cell3 q8).2.2.2))) ?_
      refine ⟨SK.same (by kernel_rfl), ?_⟩
      refine ⟨?_, trivial⟩
      refine ev_litN (d := dI .i64) (xs := [j]) (cs := [(.int .i64 j)]) hp rfl rfl Tryd.underlying43 T3 (by decide) rfl rfl (Elems.cons (d := dI .i64) (xs := _) rfl (Elems.nil _ _ _ _)) ?_
      intro v11 I11 w11 hp hs r11
      replace hz := hz.trans hs
      replace on := on.step hs
      replace kr := kr.step hs
      replace rt := rt.step hs
      replace ok := ok.step hs
      refine ⟨SK (Stp I11 w11 I11) [(g, [v10, (.slice none 0 0), (.slice none 0 0)], 75), (ge, cs, 82)] [[], [18]], ⟨Stp.refl _ _, (kp_cons (fun _ => (hp.own 0 _ _ _ rfl).1) (kp_cons (fun _ => (hp.own 1 _ _ _ rfl).1) kp_nil))⟩, fun L x h => ⟨hz.held h.1, h.2⟩, ?_⟩
      have hz := Stp.refl I11 w11
      refine ⟨?_, trivial⟩
      obtain ⟨kk, q12, q3⟩ := bind_some q3
      refine ev_append hp (i := (xs.length : Int).toNat + 2) (by simpa using q10) rfl rfl rfl Tryd.underlying43 T3 rfl rfl ok r11 q12 ?_
      rintro v12 e12 w12 hp hs o12
      replace hp : Hp ⟨w0, I0, B⟩ I11 (some (g, [v10, (.slice none 0 0), (.slice none 0 0)], 75) :: some (ge, cs, 82) :: ks10.set (xs.length : Int).toNat e12) w12 := hp
      replace hz := hz.trans hs
      replace on := on.step hs
      replace kr := kr.step hs
      replace rt := rt.step hs
      refine ⟨SK (Stp I11 w12 I11) [(g, [v10, (.slice none 0 0), (.slice none 0 0)], 75), (ge, cs, 82)] [[], [18]], ⟨Stp.refl _ _, (kp_cons (fun _ => (hp.own 0 _ _ _ rfl).1) (kp_cons (fun _ => (hp.own 1 _ _ _ rfl).1) kp_nil))⟩, fun L x h => ⟨hz.held h.1, h.2⟩, ?_⟩
      have hz := Stp.refl I11 w12
      refine ⟨SK.same (by kernel_rfl), ?_⟩
      refine evh_indexP rfl rfl rfl Tryd.underlying73 T82 on q8 ?_
      intro d12 l12
      refine ⟨SK.same (by kernel_rfl), ?_⟩
      refine evh0 (rn_field rfl rfl FO82_3) ?_
      refine ⟨?_, trivial⟩
      refine ev_store1 hp (i := 1) (off := (xs.length : Int).toNat * 4 + 3) rfl rfl rfl rfl T43 o12.one (List.getElem?_eq_some_iff.1 (on.cell3 q8).2.2.2).1 ?_
      intro w13 hp hs
      replace hz := hz.trans hs
      replace on := (on.put3 q8 o12.one).step hs
      replace kr := (kr.put q9 q11 o12).step hs
      replace rt := rt.step hs
      refine ⟨SK (Stp I11 w13 I11) [(g, [v10, (.slice none 0 0), (.slice none 0 0)], 75), (ge, cs, 82)] [[], [18]], ⟨Stp.refl _ _, (kp_cons (fun _ => (hp.own 0 _ _ _ rfl).1) (kp_cons (kp_off (by kernel_rfl)) kp_nil))⟩, fun L x h => ⟨hz.held h.1, h.2⟩, ?_⟩
      have hz := Stp.refl I11 w13
      apply go
      obtain rfl := Option.some.inj q3
      exact ⟨_, rfl, (v10, some (ge, cs.set ((xs.length : Int).toNat * 4 + 3) v12, 82), ks10.set (xs.length : Int).toNat e12, rs10.set (xs.length : Int).toNat ⟨r10.a, r10.b, r10.c, v12⟩, I11), (.c rfl (.c rfl (.c rfl (.c rfl (.c rfl .n))))), ⟨hp, on, kr, rt⟩⟩
    ·
      have q3 := cond_f q3 hc
      apply go
      have q5 := congrArg some (q4 _ (Option.some.inj q3).symm)
      obtain rfl := Option.some.inj q5
      exact ⟨(ns, v6, e6, ks6, rs6, I6), (.c rfl .n), rfl, hp, on, kr⟩
  ·
    rintro ⟨ns3, v5, e5, ks5, rs5, I5⟩ w5 ⟨hy, hp, on, kr⟩
    replace hy := hy.symm
    subst hy
    apply go
    apply go
    apply go
    obtain rfl := Option.some.inj h
    exact ⟨I5, v5, e5, ks5, rs5, rfl, hp, on, kr⟩
theorem addN_ok : ∀ n, add_G (addN n)
  | 0 => by intro w0 I0 g v e ks xs rs t vt _ _ _ _ r h; cases h
  | n + 1 => addN_F_ok n _ (addN_ok n)
theorem KidsR.freeze {c : Cx} {w : World} {I : Nat → Prop} {b : Nat} {bc : List Value} {bt : TypeId} {e : Ent} {ks : List Ent} {rs : List Rw} {xs : List Node_2} {v : Value} (on : OwnS dRw 82 w I v e rs) (kr : KidsR w I rs ks xs) (hp : Hp c I (some (b, bc, bt) :: e :: ks) w) (hB : ∀ g, g ∈ c.B → g = b) :
    ∃ I', Hp c I' [some (b, bc, bt)] w ∧ Stp I w I' w ∧ RepF dNode_2 c.w0.heap.size w I' v xs := by
  refine ⟨_, hp.freezeAll.1, hp.freezeAll.2, ?_⟩
  have hlen := kr.1
  have hN : ∀ (i g : Nat) (cs : List Value) (t : TypeId), (some (b, bc, bt) :: e :: ks)[i + 1]? = some (some (g, cs, t)) → c.w0.heap.size ≤ g := by
    intro i g cs t hi
    rcases (hp.own _ g cs t hi).2.2 with h | h
    · exact h
    · have := hB g h
      subst this
      have := hp.inj (i + 1) 0 g cs bc t bt hi rfl
      omega
  rcases on with ⟨rfl, rfl, hr⟩ | ⟨g, cs, n, rfl, rfl, h3, h4, h5, h7⟩
  · rw [hr] at hlen
    obtain rfl := List.eq_nil_of_length_eq_zero hlen.symm
    exact RepF.nil
  · have hg := hN 0 g cs _ rfl
    refine ⟨some ⟨g, 0, none⟩, n, by rw [hlen], by omega, fun _ => ⟨_, rfl, ⟨.inr (by simp [blks, blk]), hg⟩, fun i x hx => ?_⟩⟩
    have hi := (List.getElem?_eq_some_iff.1 hx).1
    have hk := kr.2.1
    have hr := List.getElem?_eq_getElem (l := rs) (i := i) (by omega)
    have he := List.getElem?_eq_getElem (l := ks) (i := i) (by omega)
    obtain ⟨a, b', c', ok⟩ := kr.2.2 i _ _ x hr he hx
    obtain ⟨hd, _⟩ := h7 i _ hr
    have hR : RepS (dI .i64) w (fun g' => (I g' ∨ g' ∈ blks (some (g, cs, 82) :: ks)) ∧ c.w0.heap.size ≤ g') (rs[i]'(by omega)).v x.kids := by
      have hr0 := ok
      rcases ok with ⟨h1, h2, h3⟩ | ⟨g2, cs2, n2, h1, h2, h3, h4, h5, h8⟩
      · rw [h1, h3]; exact RepS.nil _ _ _
      · refine ⟨some ⟨g2, 0, none⟩, n2, h1, h3, fun _ => ⟨_, rfl, ⟨.inr (mem_blks.2 ⟨i + 1, cs2, _, by simpa [h2] using he⟩), hN (i + 1) g2 cs2 _ (by simpa [h2] using he)⟩, fun j y hy => ⟨_, h8 j y hy, ⟨by rw [add_block]; exact ⟨.inr (mem_blks.2 ⟨i + 1, cs2, _, by simpa [h2] using he⟩), hN (i + 1) g2 cs2 _ (by simpa [h2] using he)⟩, fun k v hv => ?_⟩⟩⟩⟩
        rw [add_lit, add_lit, Nat.zero_add]
        exact hp.cell (i := i + 2) (by simpa [h2] using he) (drop_take_get hv)
    refine ⟨_, dNode_2_m hR, ⟨by rw [add_block]; exact ⟨.inr (by simp [blks, blk]), hg⟩, fun j v hv => ?_⟩⟩
    rw [add_lit, add_lit, Nat.zero_add]
    rw [← a, ← b', ← c'] at hv
    have hd' : (cs.drop (i * dNode_2.size)).take 4 = _ := hd
    exact hp.cell (i := 1) rfl (drop_take_get (n := 4) (by rw [hd']; exact hv))
theorem tree_Runner_add_ok (n : Nat) : tree_Runner_add_S (tree_Runner_add n) := by
  intro w0 I0 x g E q t vt rt hp r h
  obtain ⟨rfl, rfl⟩ := q
  obtain ⟨⟨i, ns⟩, q1, h⟩ := bind_some h
  obtain rfl := Option.some.inj h
  refine (addN_ok n w0 I0 g (.slice none 0 0) none [] [] [] t vt rt (OwnS.nil _ _ _ _) ⟨rfl, rfl, fun i r k x h => by simp at h⟩ (hp.perm [0, 1] (by decide)) (i, ns) q1).mono ?_
  rintro u w1 ⟨I1, v', e', ks', rs', rfl, hq, on, kr⟩
  obtain ⟨I2, h1, h2, h3⟩ := kr.freeze on hq (fun g h => by simpa [blks, blk] using h)
  exact ⟨I2, _, rfl, h1, v', rfl, h3⟩

end Go.Proofs.YtkhmdpekfcahkaaDoor

namespace Go.Proofs.YtkhmdpekfcahkaaDoor
open Go Go.Proofs.YtkhmdpekfcahkaaDoor.Gw Go.RowKit
set_option linter.unusedVariables false
attribute [local irreducible] Ev EvQ EvS EvH vch
def tree_New_S (f : Node → Option ((Option Runner) × Int)) : Prop := ∀ (w0 : World) (I0 : Nat → Prop) (x872 : Node) (v873 : Value) (r874 : RepS dNode w0 I0 v873 x872.Kids) (hI : ∀ g, I0 g → g < w0.heap.size) (r : ((Option Runner) × Int)), f x872 = some r →
    Ret Tryd.prog 20 #[(.agg #[(.int .i64 x872.Kind), (.int .i64 x872.Name), (.int .i64 x872.Count), v873])] w0 fun v w1 => ∃ (I1 : Nat → Prop) (u875 : Value) (u876 : List Ent), v = (.tuple #[u875, (.int .i64 r.2)]) ∧ Hp ⟨w0, I0, []⟩ I1 u876 w1 ∧ qoF w0.heap.size w1 I1 u875 u876 r.1
theorem tree_New_ok (n : Nat) : tree_New_S (tree_New n) := by
  intro w0 I0 x872 v873 r874 hI r h
  unfold tree_New at h
  refine enter Tryd.func20 rfl (Nat.le_of_ble_eq_true rfl) ?_
  have hp : Hp ⟨w0, I0, []⟩ I0 [] w0 := Hp.start hI
  apply go
  apply go
  refine ev_boxI hp rfl rfl ?_
  intro p879 I880 w878 hp hs a881
  replace r874 := r874.step hs
  apply go
  apply go
  apply go
  refine ev (rn_load rfl rfl (run_loadVarA T26 rfl a881)) ?_
  obtain ⟨x882, q883, h⟩ := bind_some h
  refine ev_call rfl rfl C7 (((tree_Valid_ok n) _ _  (Node.mk x872.Kind x872.Name x872.Count x872.Kids) v873 r874 hp.imm _ q883).mono ?_)
  rintro _ w884 ⟨rfl, hc⟩
  have hs := hp.stp hc
  replace hp := hp.ext hc
  replace a881 := a881.step hs
  replace r874 := r874.step hs
  apply go
  refine sel_of (fun hc => ?_) (fun hc => ?_)
  ·
    have h := cond_t h hc
    apply go
    apply go
    apply go
    obtain rfl := Option.some.inj h
    exact ⟨I880, (.pointer none), [], rfl, hp, ⟨rfl, rfl⟩⟩
  ·
    have h := cond_f h hc
    apply go
    apply go
    apply go
    refine ev0 (fun w => rn_build (cs := [(.slice none 0 0), (.slice none 0 0), (.slice none 0 0)]) rfl rfl T75 PL75 rfl) ?_
    refine ev_box hp rfl rfl ?_
    intro g885 w886 hp hs
    replace a881 := a881.step hs
    replace r874 := r874.step hs
    apply go
    apply go
    refine ev (rn_load rfl rfl (run_loadVarA T26 rfl a881)) ?_
    obtain ⟨⟨x887, x888⟩, q889, h⟩ := bind_some h
    have hN894 := hp.ch.size
    refine ev_call rfl rfl C32 (((tree_Runner_add_ok n) _ _  (Runner.mk [] [] []) g885 [some (g885, [(.slice none 0 0), (.slice none 0 0), (.slice none 0 0)], 75)] ⟨rfl, rfl⟩ (Node.mk x872.Kind x872.Name x872.Count x872.Kids) v873 r874 (hp.lendL [0] (by decide)) _ q889).mono ?_)
    rintro _ w890 ⟨I891, F892, hv, hq895, q893⟩
    replace hv := hv.symm
    subst hv
    obtain ⟨v896, rfl, f898⟩ := q893
    have r897 := f898.imm
    have hs := hq895.st
    have hp := hp.backL [0] [] (by decide) hq895
    obtain ⟨y980, q981, h⟩ := bind_some h
    refine W.cut (γ := ((List Int) × (List Bool) × Value × Ent × Value × Ent)) (fun g => [(4, (.pointer (some ⟨g885, 0, none⟩)))]) (fun g w' => y980 = ((g.1), (g.2.1)) ∧ Hp ⟨w0, I0, []⟩ I891 [(g.2.2.2.1), (g.2.2.2.2.2), some (g885, [v896, (g.2.2.1), (g.2.2.2.2.1)], 75)] w' ∧ RepS dNode_2 w' I891 v896 x888.nodes ∧ RepF dNode_2 w886.heap.size w' I891 v896 x888.nodes ∧ OwnS (dI .i64) 3 w' I891 (g.2.2.1) (g.2.2.2.1) (g.1) ∧ OwnS dB 4 w' I891 (g.2.2.2.2.1) (g.2.2.2.2.2) (g.2.1)) ?_ ?_
    ·
      have hs := hp.stp (Ch.drew [] w890)
      have hp := hp.drew
      replace r897 := r897.step hs
      replace f898 := f898.step hs
      refine W.heldG (.q 0 (.q 1 (.q 2 (.q 3 (.q 4 (.q 5 (.q 6 (.q 8 (.q 9 (.q 10 (.q 11 (.q 12 (.l 7 (.q 14 (.q 15 (.l 13 (.l 16 (.q 17 (.q 18 (.l 19 .done .no))) .no) (.l 16 (.l 13 (.q 17 (.q 18 (.l 19 .done .no))) .no) .no)))) (.l 13 (.l 7 (.q 14 (.q 15 (.l 16 (.q 17 (.q 18 (.l 19 .done .no))) .no))) .no) .no)))))))))))))) (SK (Stp I891 w890.drew I891) [(g885, [v896, (.slice none 0 0), (.slice none 0 0)], 75)] [[16, 19]]) MX (by kernel_rfl) ⟨Stp.refl _ _, (kp_cons (fun _ => (hp.own 0 _ _ _ rfl).1) kp_nil)⟩ ?_
      have hz := Stp.refl I891 w890.drew
      refine ⟨SK.same (by kernel_rfl), ?_⟩
      refine ⟨SK.same (by kernel_rfl), ?_⟩
      refine ⟨SK.same (by kernel_rfl), ?_⟩
      refine ⟨SK.same (by kernel_rfl), ?_⟩
      refine ⟨SK.same (by kernel_rfl), ?_⟩
      refine evh0 (rn_field rfl rfl FO75_0) ?_
      refine ⟨SK.same (by kernel_rfl), ?_⟩
      refine evh (fun w' hw => rn_load rfl rfl (run_loadVar1 T73 ((S0.keep (p := 0) hw rfl rfl (by kernel_rfl)).cell (i := 0) (off := 0) rfl rfl))) ?_
      refine ⟨SK.same (by kernel_rfl), ?_⟩
      refine evh0 (rn_len rfl rfl Tryd.underlying73 r897) ?_
      refine ⟨SK.same (by kernel_rfl), ?_⟩
      refine ⟨SK.same (by kernel_rfl), ?_⟩
      refine ⟨SK.same (by kernel_rfl), ?_⟩
      refine evh0 (rn_field rfl rfl FO75_0) ?_
      refine ⟨SK.same (by kernel_rfl), ?_⟩
      refine evh (fun w' hw => rn_load rfl rfl (run_loadVar1 T73 ((S0.keep (p := 0) hw rfl rfl (by kernel_rfl)).cell (i := 0) (off := 0) rfl rfl))) ?_
      refine ⟨SK.same (by kernel_rfl), ?_⟩
      refine evh0 (rn_len rfl rfl Tryd.underlying73 r897) ?_
      refine ⟨?_, ?_⟩
      ·
        obtain ⟨x_0, q_1, q981⟩ := bind_some q981
        refine ev_make (d := (dI .i64)) (x0 := 0) hp rfl rfl rfl Tryd.underlying43 T3 (fun _ _ => rfl) (Nat.le_of_ble_eq_true rfl) q_1 ?_
        intro v_2 e_3 w_4 hp hs o_5
        replace hz := hz.trans hs
        replace r897 := r897.step hs
        replace f898 := f898.step hs
        refine ⟨SK (Stp I891 w_4 I891) [(g885, [v896, (.slice none 0 0), (.slice none 0 0)], 75)] [[16, 19]], ⟨Stp.refl _ _, (kp_cons (fun _ => (hp.own 1 _ _ _ rfl).1) kp_nil)⟩, fun L x h => ⟨hz.held h.1, h.2⟩, ?_⟩
        have hz := Stp.refl I891 w_4
        refine ⟨SK.same (by kernel_rfl), ?_⟩
        refine ⟨SK.same (by kernel_rfl), ?_⟩
        refine evh0 (rn_field rfl rfl FO75_1) ?_
        refine ⟨?_, ?_⟩
        ·
          obtain ⟨x_6, q_7, q981⟩ := bind_some q981
          refine ev_make (d := dB) (x0 := false) hp rfl rfl rfl Tryd.underlying57 T4 (fun _ _ => rfl) (Nat.le_of_ble_eq_true rfl) q_7 ?_
          intro v_8 e_9 w_a hp hs o_b
          replace hz := hz.trans hs
          replace o_5 := o_5.step hs
          replace r897 := r897.step hs
          replace f898 := f898.step hs
          refine ⟨SK (Stp I891 w_a I891) [(g885, [v896, (.slice none 0 0), (.slice none 0 0)], 75)] [[16, 19]], ⟨Stp.refl _ _, (kp_cons (fun _ => (hp.own 2 _ _ _ rfl).1) kp_nil)⟩, fun L x h => ⟨hz.held h.1, h.2⟩, ?_⟩
          have hz := Stp.refl I891 w_a
          refine ⟨?_, trivial⟩
          refine ev_store1 hp (i := 2) (off := 1) rfl rfl rfl rfl T43 o_5.one (Nat.le_of_ble_eq_true rfl) ?_
          intro w_c hp hs
          replace hz := hz.trans hs
          replace o_b := o_b.step hs
          replace r897 := r897.step hs
          replace f898 := f898.step hs
          replace o_5 := o_5.step hs
          refine ⟨SK (Stp I891 w_c I891) [(g885, [v896, (.slice none 0 0), (.slice none 0 0)], 75)] [[16, 19]], ⟨Stp.refl _ _, (kp_cons (kp_off (by kernel_rfl)) kp_nil)⟩, fun L x h => ⟨hz.held h.1, h.2⟩, ?_⟩
          have hz := Stp.refl I891 w_c
          refine ⟨SK.same (by kernel_rfl), ?_⟩
          refine ⟨SK.same (by kernel_rfl), ?_⟩
          refine evh0 (rn_field rfl rfl FO75_2) ?_
          refine ⟨?_, trivial⟩
          refine ev_store1 hp (i := 2) (off := 2) rfl rfl rfl rfl T57 o_b.one (Nat.le_of_ble_eq_true rfl) ?_
          intro w_d hp hs
          replace hz := hz.trans hs
          replace r897 := r897.step hs
          replace f898 := f898.step hs
          replace o_5 := o_5.step hs
          replace o_b := o_b.step hs
          refine ⟨SK (Stp I891 w_d I891) [(g885, [v896, (.slice none 0 0), (.slice none 0 0)], 75)] [[16, 19]], ⟨Stp.refl _ _, (kp_cons (kp_off (by kernel_rfl)) kp_nil)⟩, fun L x h => ⟨hz.held h.1, h.2⟩, ?_⟩
          have hz := Stp.refl I891 w_d
          obtain rfl := Option.some.inj q981
          have hp := hp.perm [1, 0, 2] (by decide)
          exact ⟨(x_0, x_6, v_2, e_3, v_8, e_9), (.c rfl .n), rfl, hp, r897, f898, o_5, o_b⟩
        refine ⟨?_, trivial⟩
        refine ev_store1 hp (i := 1) (off := 1) rfl rfl rfl rfl T43 o_5.one (Nat.le_of_ble_eq_true rfl) ?_
        intro w_e hp hs
        replace hz := hz.trans hs
        replace r897 := r897.step hs
        replace f898 := f898.step hs
        replace o_5 := o_5.step hs
        refine ⟨SK (Stp I891 w_e I891) [(g885, [v896, (.slice none 0 0), (.slice none 0 0)], 75)] [[16, 19]], ⟨Stp.refl _ _, (kp_cons (kp_off (by kernel_rfl)) kp_nil)⟩, fun L x h => ⟨hz.held h.1, h.2⟩, ?_⟩
        have hz := Stp.refl I891 w_e
        refine ⟨?_, trivial⟩
        obtain ⟨x_f, q_g, q981⟩ := bind_some q981
        refine ev_make (d := dB) (x0 := false) hp rfl rfl rfl Tryd.underlying57 T4 (fun _ _ => rfl) (Nat.le_of_ble_eq_true rfl) q_g ?_
        intro v_h e_i w_j hp hs o_k
        replace hz := hz.trans hs
        replace r897 := r897.step hs
        replace f898 := f898.step hs
        replace o_5 := o_5.step hs
        refine ⟨SK (Stp I891 w_j I891) [(g885, [v896, (.slice none 0 0), (.slice none 0 0)], 75)] [[16, 19]], ⟨Stp.refl _ _, (kp_cons (kp_off (by kernel_rfl)) kp_nil)⟩, fun L x h => ⟨hz.held h.1, h.2⟩, ?_⟩
        have hz := Stp.refl I891 w_j
        refine ⟨SK.same (by kernel_rfl), ?_⟩
        refine ⟨SK.same (by kernel_rfl), ?_⟩
        refine evh0 (rn_field rfl rfl FO75_2) ?_
        refine ⟨?_, trivial⟩
        refine ev_store1 hp (i := 2) (off := 2) rfl rfl rfl rfl T57 o_k.one (Nat.le_of_ble_eq_true rfl) ?_
        intro w_l hp hs
        replace hz := hz.trans hs
        replace r897 := r897.step hs
        replace f898 := f898.step hs
        replace o_5 := o_5.step hs
        replace o_k := o_k.step hs
        refine ⟨SK (Stp I891 w_l I891) [(g885, [v896, (.slice none 0 0), (.slice none 0 0)], 75)] [[16, 19]], ⟨Stp.refl _ _, (kp_cons (kp_off (by kernel_rfl)) kp_nil)⟩, fun L x h => ⟨hz.held h.1, h.2⟩, ?_⟩
        have hz := Stp.refl I891 w_l
        obtain rfl := Option.some.inj q981
        have hp := hp.perm [1, 0, 2] (by decide)
        exact ⟨(x_0, x_f, v_2, e_3, v_h, e_i), (.c rfl .n), rfl, hp, r897, f898, o_5, o_k⟩
      refine ⟨?_, trivial⟩
      replace q981 := bind_comm q981
      obtain ⟨x_m, q_n, q981⟩ := bind_some q981
      refine ev_make (d := dB) (x0 := false) hp rfl rfl rfl Tryd.underlying57 T4 (fun _ _ => rfl) (Nat.le_of_ble_eq_true rfl) q_n ?_
      intro v_o e_p w_q hp hs o_r
      replace hz := hz.trans hs
      replace r897 := r897.step hs
      replace f898 := f898.step hs
      refine ⟨SK (Stp I891 w_q I891) [(g885, [v896, (.slice none 0 0), (.slice none 0 0)], 75)] [[16, 19]], ⟨Stp.refl _ _, (kp_cons (fun _ => (hp.own 1 _ _ _ rfl).1) kp_nil)⟩, fun L x h => ⟨hz.held h.1, h.2⟩, ?_⟩
      have hz := Stp.refl I891 w_q
      refine ⟨?_, trivial⟩
      obtain ⟨x_s, q_t, q981⟩ := bind_some q981
      refine ev_make (d := (dI .i64)) (x0 := 0) hp rfl rfl rfl Tryd.underlying43 T3 (fun _ _ => rfl) (Nat.le_of_ble_eq_true rfl) q_t ?_
      intro v_u e_v w_w hp hs o_x
      replace hz := hz.trans hs
      replace o_r := o_r.step hs
      replace r897 := r897.step hs
      replace f898 := f898.step hs
      refine ⟨SK (Stp I891 w_w I891) [(g885, [v896, (.slice none 0 0), (.slice none 0 0)], 75)] [[16, 19]], ⟨Stp.refl _ _, (kp_cons (fun _ => (hp.own 2 _ _ _ rfl).1) kp_nil)⟩, fun L x h => ⟨hz.held h.1, h.2⟩, ?_⟩
      have hz := Stp.refl I891 w_w
      refine ⟨SK.same (by kernel_rfl), ?_⟩
      refine ⟨SK.same (by kernel_rfl), ?_⟩
      refine evh0 (rn_field rfl rfl FO75_1) ?_
      refine ⟨?_, trivial⟩
      refine ev_store1 hp (i := 2) (off := 1) rfl rfl rfl rfl T43 o_x.one (Nat.le_of_ble_eq_true rfl) ?_
      intro w_y hp hs
      replace hz := hz.trans hs
      replace o_r := o_r.step hs
      replace r897 := r897.step hs
      replace f898 := f898.step hs
      replace o_x := o_x.step hs
      refine ⟨SK (Stp I891 w_y I891) [(g885, [v896, (.slice none 0 0), (.slice none 0 0)], 75)] [[16, 19]], ⟨Stp.refl _ _, (kp_cons (kp_off (by kernel_rfl)) kp_nil)⟩, fun L x h => ⟨hz.held h.1, h.2⟩, ?_⟩
      have hz := Stp.refl I891 w_y
      refine ⟨SK.same (by kernel_rfl), ?_⟩
      refine ⟨SK.same (by kernel_rfl), ?_⟩
      refine evh0 (rn_field rfl rfl FO75_2) ?_
      refine ⟨?_, trivial⟩
      refine ev_store1 hp (i := 2) (off := 2) rfl rfl rfl rfl T57 o_r.one (Nat.le_of_ble_eq_true rfl) ?_
      intro w_z hp hs
      replace hz := hz.trans hs
      replace r897 := r897.step hs
      replace f898 := f898.step hs
      replace o_x := o_x.step hs
      replace o_r := o_r.step hs
      refine ⟨SK (Stp I891 w_z I891) [(g885, [v896, (.slice none 0 0), (.slice none 0 0)], 75)] [[16, 19]], ⟨Stp.refl _ _, (kp_cons (kp_off (by kernel_rfl)) kp_nil)⟩, fun L x h => ⟨hz.held h.1, h.2⟩, ?_⟩
      have hz := Stp.refl I891 w_z
      obtain rfl := Option.some.inj q981
      exact ⟨(x_s, x_m, v_u, e_v, v_o, e_p), (.c rfl .n), rfl, hp, r897, f898, o_x, o_r⟩
    ·
      rintro ⟨x971, x975, v972, e973, v976, e977⟩ w979 ⟨hy, hp, r897, f898, o974, o978⟩
      replace hy := hy.symm
      subst hy
      apply go
      apply go
      apply go
      obtain rfl := Option.some.inj h
      have hp := hp.perm [2, 0, 1] (by decide)
      exact ⟨I891, (.pointer (some ⟨g885, 0, none⟩)), [some (g885, [v896, v972, v976], 75), e973, e977], rfl, hp, ⟨_, rfl, ⟨v896, v972, e973, v976, e977, rfl, (f898.mono hN894), o974, o978⟩⟩⟩

end Go.Proofs.YtkhmdpekfcahkaaDoor

namespace Go.Proofs.YtkhmdpekfcahkaaDoor
open Go Go.Proofs.YtkhmdpekfcahkaaDoor.Gw Go.RowKit
set_option linter.unusedVariables false
attribute [local irreducible] Ev EvQ EvS EvH
def mission_New_S (f : (List Task) → Option ((Option Mission) × Int)) : Prop := ∀ (w0 : World) (I0 : Nat → Prop) (x_0 : (List Task)) (v_1 : Value) (r_2 : RepS dTask w0 I0 v_1 x_0) (hI : ∀ g, I0 g → g < w0.heap.size) (r : ((Option Mission) × Int)), f x_0 = some r →
    Ret Tryd.prog 10 #[v_1] w0 fun v w1 => ∃ (I1 : Nat → Prop) (u_3 : Value) (u_4 : List Ent), v = (.tuple #[u_3, (.int .i64 r.2)]) ∧ Hp ⟨w0, I0, []⟩ I1 u_4 w1 ∧ qoM w1 I1 u_3 u_4 r.1
theorem mission_New_ok (n : Nat) : mission_New_S (mission_New n) := by
  intro w0 I0 x_0 v_1 r_2 hI r h
  unfold mission_New at h
  refine enter Tryd.func10 rfl (Nat.le_of_ble_eq_true rfl) ?_
  have hp : Hp ⟨w0, I0, []⟩ I0 [] w0 := Hp.start hI
  apply go
  apply go
  apply go
  apply go
  obtain ⟨⟨x_3, x_4⟩, q_5, h⟩ := bind_some h
  refine ev_call rfl rfl C5 (((mission_Build_ok n) _ _  x_0 v_1 r_2 hp.imm _ q_5).mono ?_)
  rintro _ w_6 ⟨I_7, v_8, hv, hq, r_9⟩
  replace hv := hv.symm
  subst hv
  have hs := hq.st
  have hp := hp.join0 hq
  replace r_2 := r_2.step hs
  refine ev_alloc hp rfl T26 ?_
  intro g_a w_b hp hs
  replace r_2 := r_2.step hs
  replace r_9 := r_9.step hs
  refine ev_storeA hp (i := 0) (off := 0) (vs := [(.int .i64 x_3.Kind), (.int .i64 x_3.Name), (.int .i64 x_3.Count), v_8]) rfl rfl rfl rfl T26 rfl (Nat.le_of_ble_eq_true rfl) (ones_cons rfl (ones_cons rfl (ones_cons rfl (ones_cons r_9.one ones_nil)))) ?_
  intro w_c hp hs
  replace r_2 := r_2.step hs
  replace r_9 := r_9.step hs
  apply go
  apply go
  apply go
  apply go
  refine sel_of (fun hc => ?_) (fun hc => ?_)
  ·
    have h := cond_t h hc
    apply go
    apply go
    apply go
    obtain rfl := Option.some.inj h
    have hp := hp.sel [] (by decide)
    exact ⟨I_7, (.pointer none), [], rfl, hp, ⟨rfl, rfl⟩⟩
  ·
    have h := cond_f h hc
    apply go
    apply go
    apply go
    refine ev (rn_load rfl rfl (run_loadVarA T26 rfl (hp.at_ (i := 0) rfl))) ?_
    obtain ⟨⟨x_d, x_e⟩, q_f, h⟩ := bind_some h
    refine ev_call rfl rfl C20 (((tree_New_ok n) _ _  (Node.mk x_3.Kind x_3.Name x_3.Count x_3.Kids) v_8 r_9 hp.imm _ q_f).mono ?_)
    rintro _ w_g ⟨I_h, v_i, F_j, hv, hq1077, q_k⟩
    replace hv := hv.symm
    subst hv
    rcases x_d with _ | x_l
    ·
      obtain ⟨rfl, rfl⟩ := q_k
      have hs := hq1077.st
      have hp := hp.join0 hq1077
      replace r_2 := r_2.step hs
      replace r_9 := r_9.step hs
      apply go
      apply go
      refine ev0 (rn_len rfl rfl Tryd.underlying22 r_2) ?_
      obtain ⟨x_m, q_n, h⟩ := bind_some h
      refine ev_make (d := dB) (x0 := false) hp rfl rfl rfl Tryd.underlying57 T4 (fun _ _ => rfl) (Nat.le_of_ble_eq_true rfl) q_n ?_
      intro v_o e_p w_q hp hs o_r
      replace r_9 := r_9.step hs
      obtain ⟨A_s, m_t, m_u, rfl⟩ := o_r.isSl
      refine ev0 (fun w => rn_build (cs := [(.pointer none), (.slice A_s m_t m_u), (.int .i64 1), (.int .i64 0)]) rfl rfl T59 PL59 rfl) ?_
      refine ev_box hp rfl rfl ?_
      intro g_v w_w hp hs
      replace o_r := o_r.step hs
      replace r_9 := r_9.step hs
      apply go
      cases h
    ·
      obtain ⟨g_x, rfl, v_y, v_z, e_10, v_11, e_12, rfl, f_13, o_14, o_15⟩ := q_k
      have r_16 := f_13.imm
      have hs := hq1077.st
      have hp := hp.join0 hq1077
      replace r_2 := r_2.step hs
      replace r_9 := r_9.step hs
      apply go
      apply go
      refine ev0 (rn_len rfl rfl Tryd.underlying22 r_2) ?_
      obtain ⟨x_17, q_18, h⟩ := bind_some h
      refine ev_make (d := dB) (x0 := false) hp rfl rfl rfl Tryd.underlying57 T4 (fun _ _ => rfl) (Nat.le_of_ble_eq_true rfl) q_18 ?_
      intro v_19 e_1a w_1b hp hs o_1c
      replace r_16 := r_16.step hs
      replace o_14 := o_14.step hs
      replace o_15 := o_15.step hs
      replace r_9 := r_9.step hs
      obtain ⟨A_1d, m_1e, m_1f, rfl⟩ := o_1c.isSl
      refine ev0 (fun w => rn_build (cs := [(.pointer (some ⟨g_x, 0, none⟩)), (.slice A_1d m_1e m_1f), (.int .i64 1), (.int .i64 0)]) rfl rfl T59 PL59 rfl) ?_
      refine ev_box hp rfl rfl ?_
      intro g_1g w_1h hp hs
      replace o_1c := o_1c.step hs
      replace r_16 := r_16.step hs
      replace o_14 := o_14.step hs
      replace o_15 := o_15.step hs
      replace r_9 := r_9.step hs
      apply go
      obtain rfl := Option.some.inj h
      have hp := hp.perm [0, 2, 3, 4, 1] (by decide)
      exact ⟨I_h, (.pointer (some ⟨g_1g, 0, none⟩)), [some (g_1g, [(.pointer (some ⟨g_x, 0, none⟩)), (.slice A_1d m_1e m_1f), (.int .i64 1), (.int .i64 0)], 59), some (g_x, [v_y, v_z, v_11], 75), e_10, e_12, e_1a], rfl, hp, ⟨_, rfl, ⟨g_x, [some (g_x, [v_y, v_z, v_11], 75), e_10, e_12], (.slice A_1d m_1e m_1f), e_1a, rfl, ⟨v_y, v_z, e_10, v_11, e_12, rfl, r_16, o_14, o_15⟩, o_1c⟩⟩⟩

end Go.Proofs.YtkhmdpekfcahkaaDoor

namespace Go.Proofs.YtkhmdpekfcahkaaDoor
open Go Go.Proofs.YtkhmdpekfcahkaaDoor.Gw Go.RowKit
set_option linter.unusedVariables false
attribute [local irreducible] Ev EvQ EvS EvH
def slices_Clonebool_bool__S (f : (List Bool) → Option ((List Bool) × (List Bool))) : Prop := ∀ (w0 : World) (I0 : Nat → Prop) (x_0 : (List Bool)) (v_1 : Value) (e_2 : Ent) (o_3 : OwnS dB 4 w0 I0 v_1 e_2 x_0) (hp : Hp ⟨w0, I0, blks [e_2]⟩ I0 [e_2] w0) (r : ((List Bool) × (List Bool))), f x_0 = some r →
    Ret Tryd.prog 22 #[v_1] w0 fun v w1 => ∃ (I1 : Nat → Prop) (u_4 : Value) (u_5 : Ent) (u_6 : Ent), v = u_4 ∧ Hp ⟨w0, I0, blks [e_2]⟩ I1 ([u_5] ++ [u_6]) w1 ∧ OwnS dB 4 w1 I1 u_4 u_5 r.1 ∧ OwnS dB 4 w1 I1 v_1 u_6 r.2
theorem slices_Clonebool_bool__ok (n : Nat) : slices_Clonebool_bool__S (slices_Clonebool_bool_ n) := by
  intro w0 I0 x_0 v_1 e_2 o_3 hp r h
  unfold slices_Clonebool_bool_ at h
  refine enter Tryd.func22 rfl (Nat.le_of_ble_eq_true rfl) ?_
  generalize blks [e_2] = B at hp ⊢
  have hp : Hp ⟨w0, I0, B⟩ I0 [e_2] w0 := hp
  apply go
  apply go
  apply go
  apply go
  apply go
  rcases o_3.nilcase with ⟨hv, he, hx⟩ | ⟨a_4, n_5, hv, ho⟩
  ·
    subst hv; subst he; subst hx
    replace h : some (([] : (List Bool)), ([] : (List Bool))) = some _ := h
    refine ev0 (rn_eqNil rfl rfl rfl Tryd.underlying57) ?_
    apply go
    apply go
    apply go
    apply go
    obtain rfl := Option.some.inj h
    have hp := hp.none_
    have o_6 := OwnS.nil dB 4 w0 I0
    exact ⟨I0, (.slice none 0 0), none, none, rfl, hp, o_6, o_3⟩
  ·
    subst hv; have o_3 := ho
    refine ev0 (rn_eqNil rfl rfl rfl Tryd.underlying57) ?_
    apply go
    apply go
    apply go
    apply go
    refine ev_litON (d := dB) (xs := ([] : List Bool)) (cs := []) hp rfl rfl Tryd.underlying57 T4 (by decide) (by decide) rfl rfl (Elems.nil _ _ _ _) ?_
    intro v_7 e_8 w_9 hp hs o_a
    replace o_3 := o_3.step hs
    obtain ⟨x_b, q_c, h⟩ := bind_some h
    refine ev_appendF hp (i := 0) (j := 1) rfl rfl rfl rfl rfl Tryd.underlying57 T4 rfl rfl dB_flat o_a o_3 q_c ?_
    rintro v_d e_e w_f hp hs o_g
    apply go
    obtain rfl := Option.some.inj h
    exact ⟨I0, v_d, e_e, e_2, rfl, hp, o_g, o_3⟩

end Go.Proofs.YtkhmdpekfcahkaaDoor

namespace Go.Proofs.YtkhmdpekfcahkaaDoor
open Go Go.Proofs.YtkhmdpekfcahkaaDoor.Gw Go.RowKit
set_option linter.unusedVariables false
attribute [local irreducible] Ev EvQ EvS EvH
def tree_Runner_chain_S (f : Runner → (List Int) → Int → Tick → Option (Int × Runner × Tick)) : Prop := ∀ (w0 : World) (I0 : Nat → Prop) (x_0 : Runner) (g_1 : Nat) (E_2 : List Ent) (q_3 : qR w0 I0 g_1 E_2 x_0) (x_4 : (List Int)) (v_5 : Value) (r_6 : RepS (dI .i64) w0 I0 v_5 x_4) (x_7 : Int) (x_8 : Tick) (g_9 : Nat) (E_a : List Ent) (q_b : qK w0 I0 g_9 E_a x_8) (hp : Hp ⟨w0, I0, blks (E_2 ++ E_a)⟩ I0 (E_2 ++ E_a) w0) (r : (Int × Runner × Tick)), f x_0 x_4 x_7 x_8 = some r →
    Ret Tryd.prog 40 #[(.pointer (some ⟨g_1, 0, none⟩)), v_5, (.int .i64 x_7), (.pointer (some ⟨g_9, 0, none⟩))] w0 fun v w1 => ∃ (I1 : Nat → Prop) (u_c : List Ent) (u_d : List Ent), v = (.int .i64 r.1) ∧ Hp ⟨w0, I0, blks (E_2 ++ E_a)⟩ I1 (u_c ++ u_d) w1 ∧ qR w1 I1 g_1 u_c r.2.1 ∧ qK w1 I1 g_9 u_d r.2.2
theorem tree_Runner_chain_ok (n : Nat) (f_tree_Runner_run : (Runner → Int → Tick → Option (Int × Runner × Tick))) (Hf_tree_Runner_run : tree_Runner_run_S f_tree_Runner_run) : tree_Runner_chain_S (tree_Runner_chain n f_tree_Runner_run) := by
  intro w0 I0 x_0 g_1 E_2 q_3 x_4 v_5 r_6 x_7 x_8 g_9 E_a q_b hp r h
  unfold tree_Runner_chain at h
  refine enter Tryd.func40 rfl (Nat.le_of_ble_eq_true rfl) ?_
  generalize blks (E_2 ++ E_a) = B at hp ⊢
  obtain ⟨v_c, v_d, e_e, v_f, e_g, rfl, r_h, o_i, o_j⟩ := q_3
  obtain ⟨v_k, v_l, v_m, e_n, v_o, e_p, rfl, r_q, r_r, o_s, o_t⟩ := q_b
  have hp : Hp ⟨w0, I0, B⟩ I0 [some (g_1, [v_c, v_d, v_f], 75), e_e, e_g, some (g_9, [v_k, v_l, v_m, v_o], 78), e_n, e_p] w0 := hp
  apply go
  apply go
  obtain ⟨y_u, q_v, h⟩ := bind_some h
  refine W.cut (γ := ((List Node_2) × (List Int) × (List Bool) × (List Int) × (List Bool) × (List Int) × (List Int) × Value × Value × Ent × Value × Ent × Value × Value × Value × Ent × Value × Ent × (Nat → Prop))) (fun g => [(2, (.int .i64 x_7))]) (fun g w' => y_u = .go ((g.1), (g.2.1), (g.2.2.1), (g.2.2.2.1), (g.2.2.2.2.1), (g.2.2.2.2.2.1), (g.2.2.2.2.2.2.1)) ∧ Hp ⟨w0, I0, B⟩ (g.2.2.2.2.2.2.2.2.2.2.2.2.2.2.2.2.2.2) [(g.2.2.2.2.2.2.2.2.2.1), (g.2.2.2.2.2.2.2.2.2.2.2.1), some (g_1, [(g.2.2.2.2.2.2.2.1), (g.2.2.2.2.2.2.2.2.1), (g.2.2.2.2.2.2.2.2.2.2.1)], 75), (g.2.2.2.2.2.2.2.2.2.2.2.2.2.2.2.1), (g.2.2.2.2.2.2.2.2.2.2.2.2.2.2.2.2.2.1), some (g_9, [(g.2.2.2.2.2.2.2.2.2.2.2.2.1), (g.2.2.2.2.2.2.2.2.2.2.2.2.2.1), (g.2.2.2.2.2.2.2.2.2.2.2.2.2.2.1), (g.2.2.2.2.2.2.2.2.2.2.2.2.2.2.2.2.1)], 78)] w' ∧ RepS dNode_2 w' (g.2.2.2.2.2.2.2.2.2.2.2.2.2.2.2.2.2.2) (g.2.2.2.2.2.2.2.1) (g.1) ∧ OwnS (dI .i64) 3 w' (g.2.2.2.2.2.2.2.2.2.2.2.2.2.2.2.2.2.2) (g.2.2.2.2.2.2.2.2.1) (g.2.2.2.2.2.2.2.2.2.1) (g.2.1) ∧ OwnS dB 4 w' (g.2.2.2.2.2.2.2.2.2.2.2.2.2.2.2.2.2.2) (g.2.2.2.2.2.2.2.2.2.2.1) (g.2.2.2.2.2.2.2.2.2.2.2.1) (g.2.2.1) ∧ RepS (dI .i64) w' (g.2.2.2.2.2.2.2.2.2.2.2.2.2.2.2.2.2.2) (g.2.2.2.2.2.2.2.2.2.2.2.2.1) (g.2.2.2.1) ∧ RepS dB w' (g.2.2.2.2.2.2.2.2.2.2.2.2.2.2.2.2.2.2) (g.2.2.2.2.2.2.2.2.2.2.2.2.2.1) (g.2.2.2.2.1) ∧ OwnS (dI .i64) 3 w' (g.2.2.2.2.2.2.2.2.2.2.2.2.2.2.2.2.2.2) (g.2.2.2.2.2.2.2.2.2.2.2.2.2.2.1) (g.2.2.2.2.2.2.2.2.2.2.2.2.2.2.2.1) (g.2.2.2.2.2.1) ∧ OwnS (dI .i64) 3 w' (g.2.2.2.2.2.2.2.2.2.2.2.2.2.2.2.2.2.2) (g.2.2.2.2.2.2.2.2.2.2.2.2.2.2.2.2.1) (g.2.2.2.2.2.2.2.2.2.2.2.2.2.2.2.2.2.1) (g.2.2.2.2.2.2.1)) ?_ ?_
  ·
    apply go
    apply go
    refine ev0 (rn_len rfl rfl Tryd.underlying43 r_6) ?_
    apply go
    have hp := hp.perm [1, 2, 0, 4, 5, 3] (by decide)
    refine W.loop q_v (γ := (Value × Value × Ent × Value × Ent × Value × Value × Value × Ent × Value × Ent × (Nat → Prop))) (fun s g => [(0, (.pointer (some ⟨g_1, 0, none⟩))), (2, (.int .i64 x_7)), (3, (.pointer (some ⟨g_9, 0, none⟩))), (12, v_5), (13, (.int .i64 (x_4.length : Int))), (14, (.int .i64 (s.2.2.2.2.2.2.2)))]) (fun s g w' => Hp ⟨w0, I0, B⟩ (g.2.2.2.2.2.2.2.2.2.2.2) [(g.2.2.1), (g.2.2.2.2.1), some (g_1, [(g.1), (g.2.1), (g.2.2.2.1)], 75), (g.2.2.2.2.2.2.2.2.1), (g.2.2.2.2.2.2.2.2.2.2.1), some (g_9, [(g.2.2.2.2.2.1), (g.2.2.2.2.2.2.1), (g.2.2.2.2.2.2.2.1), (g.2.2.2.2.2.2.2.2.2.1)], 78)] w' ∧ RepS dNode_2 w' (g.2.2.2.2.2.2.2.2.2.2.2) (g.1) (s.1) ∧ OwnS (dI .i64) 3 w' (g.2.2.2.2.2.2.2.2.2.2.2) (g.2.1) (g.2.2.1) (s.2.1) ∧ OwnS dB 4 w' (g.2.2.2.2.2.2.2.2.2.2.2) (g.2.2.2.1) (g.2.2.2.2.1) (s.2.2.1) ∧ RepS (dI .i64) w' (g.2.2.2.2.2.2.2.2.2.2.2) (g.2.2.2.2.2.1) (s.2.2.2.1) ∧ RepS dB w' (g.2.2.2.2.2.2.2.2.2.2.2) (g.2.2.2.2.2.2.1) (s.2.2.2.2.1) ∧ OwnS (dI .i64) 3 w' (g.2.2.2.2.2.2.2.2.2.2.2) (g.2.2.2.2.2.2.2.1) (g.2.2.2.2.2.2.2.2.1) (s.2.2.2.2.2.1) ∧ OwnS (dI .i64) 3 w' (g.2.2.2.2.2.2.2.2.2.2.2) (g.2.2.2.2.2.2.2.2.2.1) (g.2.2.2.2.2.2.2.2.2.2.1) (s.2.2.2.2.2.2.1) ∧ RepS (dI .i64) w' (g.2.2.2.2.2.2.2.2.2.2.2) v_5 x_4) (v_c, v_d, e_e, v_f, e_g, v_k, v_l, v_m, e_n, v_o, e_p, I0) (.c rfl (.c rfl (.c rfl (.c rfl (.c rfl (.c rfl .n)))))) ⟨hp, r_h, o_i, o_j, r_q, r_r, o_s, o_t, r_6⟩ ?_
    rintro ⟨x_w, x_x, x_y, x_z, x_10, x_11, x_12, x_13⟩ ⟨v_14, v_15, e_16, v_17, e_18, v_19, v_1a, v_1b, e_1c, v_1d, e_1e, I_1f⟩ w_1g y_1h ⟨hp, r_1i, o_1j, o_1k, r_1l, r_1m, o_1n, o_1o, r_6⟩ q_1p q_1q
    unfold tree_Runner_chain_L1 at q_1p
    apply go
    apply go
    apply go
    apply go
    refine sel_of (fun hc => ?_) (fun hc => ?_)
    ·
      have q_1p := cond_t q_1p hc
      apply go
      apply go
      apply go
      apply go
      apply go
      obtain ⟨x_1r, q_1s, q_1p⟩ := bind_some q_1p
      refine ev_index rfl rfl rfl Tryd.underlying43 T3 r_6 q_1s ?_
      intro p_1t c_1u d_1v a_1w
      obtain rfl : c_1u = [(.int .i64 x_1r)] := d_1v
      refine ev (rn_load rfl rfl (run_loadVar1 T3 (a_1w.2 0 _ rfl))) ?_
      apply go
      apply go
      obtain ⟨⟨x_1x, x_1y, x_1z⟩, q_20, q_1p⟩ := bind_some q_1p
      refine ev_call rfl rfl C33 ((Hf_tree_Runner_run _ _  (Runner.mk x_w x_x x_y) g_1 [some (g_1, [v_14, v_15, v_17], 75), e_16, e_18] ⟨v_14, v_15, e_16, v_17, e_18, rfl, r_1i, o_1j, o_1k⟩ x_1r (Tick.mk x_z x_10 x_11 x_12) g_9 [some (g_9, [v_19, v_1a, v_1b, v_1d], 78), e_1c, e_1e] ⟨v_19, v_1a, v_1b, e_1c, v_1d, e_1e, rfl, r_1l, r_1m, o_1n, o_1o⟩ (hp.lendL [2, 0, 1, 5, 3, 4] (by decide)) _ q_20).mono ?_)
      rintro _ w_21 ⟨I_22, F_23, F_24, hv, hq1503, q_25, q_26⟩
      replace hv := hv.symm
      subst hv
      obtain ⟨v_27, v_28, e_29, v_2a, e_2b, rfl, r_2c, o_2d, o_2e⟩ := q_25
      obtain ⟨v_2f, v_2g, v_2h, e_2i, v_2j, e_2k, rfl, r_2l, r_2m, o_2n, o_2o⟩ := q_26
      have hs := hq1503.st
      have hp := hp.backL [2, 0, 1, 5, 3, 4] [] (by decide) hq1503
      replace r_6 := r_6.step hs
      apply go
      apply go
      apply go
      refine sel_of (fun hc => ?_) (fun hc => ?_)
      ·
        have q_1p := cond_t q_1p hc
        apply go
        apply go
        apply go
        have q_2p := congrArg some (q_1q _ (Option.some.inj q_1p).symm)
        obtain rfl := Option.some.inj q_2p
        obtain rfl := Option.some.inj h
        exact ⟨I_22, [some (g_1, [v_27, v_28, v_2a], 75), e_29, e_2b], [some (g_9, [v_2f, v_2g, v_2h, v_2j], 78), e_2i, e_2k], rfl, hp, ⟨v_27, v_28, e_29, v_2a, e_2b, rfl, r_2c, o_2d, o_2e⟩, ⟨v_2f, v_2g, v_2h, e_2i, v_2j, e_2k, rfl, r_2l, r_2m, o_2n, o_2o⟩⟩
      ·
        have q_1p := cond_f q_1p hc
        apply go
        apply go
        have hp := hp.perm [1, 2, 0, 4, 5, 3] (by decide)
        exact ⟨_, (Option.some.inj q_1p).symm, (v_27, v_28, e_29, v_2a, e_2b, v_2f, v_2g, v_2h, e_2i, v_2j, e_2k, I_22), (.c rfl (.c rfl (.c rfl (.c rfl (.c rfl (.c rfl .n)))))), ⟨hp, r_2c, o_2d, o_2e, r_2l, r_2m, o_2n, o_2o, r_6⟩⟩
    ·
      have q_1p := cond_f q_1p hc
      apply go
      have q_2q := congrArg some (q_1q _ (Option.some.inj q_1p).symm)
      obtain rfl := Option.some.inj q_2q
      exact ⟨(x_w, x_x, x_y, x_z, x_10, x_11, x_12, v_14, v_15, e_16, v_17, e_18, v_19, v_1a, v_1b, e_1c, v_1d, e_1e, I_1f), (.c rfl .n), rfl, hp, r_1i, o_1j, o_1k, r_1l, r_1m, o_1n, o_1o⟩
  ·
    rintro ⟨x_2r, x_2s, x_2t, x_2u, x_2v, x_2w, x_2x, v_2y, v_2z, e_30, v_31, e_32, v_33, v_34, v_35, e_36, v_37, e_38, I_39⟩ w_3a ⟨hy, hp, r_3b, o_3c, o_3d, r_3e, r_3f, o_3g, o_3h⟩
    replace hy := hy.symm
    subst hy
    apply go
    apply go
    apply go
    obtain rfl := Option.some.inj h
    have hp := hp.perm [2, 0, 1, 5, 3, 4] (by decide)
    exact ⟨I_39, [some (g_1, [v_2y, v_2z, v_31], 75), e_30, e_32], [some (g_9, [v_33, v_34, v_35, v_37], 78), e_36, e_38], rfl, hp, ⟨v_2y, v_2z, e_30, v_31, e_32, rfl, r_3b, o_3c, o_3d⟩, ⟨v_33, v_34, v_35, e_36, v_37, e_38, rfl, r_3e, r_3f, o_3g, o_3h⟩⟩

end Go.Proofs.YtkhmdpekfcahkaaDoor

namespace Go.Proofs.YtkhmdpekfcahkaaDoor
open Go Go.Proofs.YtkhmdpekfcahkaaDoor.Gw Go.RowKit
set_option linter.unusedVariables false
attribute [local irreducible] Ev EvQ EvS EvH
def tree_Runner_parallel_S (f : Runner → Node_2 → Tick → Option (Int × Runner × Tick)) : Prop := ∀ (w0 : World) (I0 : Nat → Prop) (x_0 : Runner) (g_1 : Nat) (E_2 : List Ent) (q_3 : qR w0 I0 g_1 E_2 x_0) (x_4 : Node_2) (v_5 : Value) (r_6 : RepS (dI .i64) w0 I0 v_5 x_4.kids) (x_7 : Tick) (g_8 : Nat) (E_9 : List Ent) (q_a : qK w0 I0 g_8 E_9 x_7) (hp : Hp ⟨w0, I0, blks (E_2 ++ E_9)⟩ I0 (E_2 ++ E_9) w0) (r : (Int × Runner × Tick)), f x_0 x_4 x_7 = some r →
    Ret Tryd.prog 41 #[(.pointer (some ⟨g_1, 0, none⟩)), (.agg #[(.int .i64 x_4.kind), (.int .i64 x_4.name), (.int .i64 x_4.count), v_5]), (.pointer (some ⟨g_8, 0, none⟩))] w0 fun v w1 => ∃ (I1 : Nat → Prop) (u_b : List Ent) (u_c : List Ent), v = (.int .i64 r.1) ∧ Hp ⟨w0, I0, blks (E_2 ++ E_9)⟩ I1 (u_b ++ u_c) w1 ∧ qR w1 I1 g_1 u_b r.2.1 ∧ qK w1 I1 g_8 u_c r.2.2
theorem tree_Runner_parallel_ok (n : Nat) (f_tree_Runner_run : (Runner → Int → Tick → Option (Int × Runner × Tick))) (Hf_tree_Runner_run : tree_Runner_run_S f_tree_Runner_run) : tree_Runner_parallel_S (tree_Runner_parallel n f_tree_Runner_run) := by
  intro w0 I0 x_0 g_1 E_2 q_3 x_4 v_5 r_6 x_7 g_8 E_9 q_a hp r h
  unfold tree_Runner_parallel at h
  refine enter Tryd.func41 rfl (Nat.le_of_ble_eq_true rfl) ?_
  generalize blks (E_2 ++ E_9) = B at hp ⊢
  obtain ⟨v_b, v_c, e_d, v_e, e_f, rfl, r_g, o_h, o_i⟩ := q_3
  obtain ⟨v_j, v_k, v_l, e_m, v_n, e_o, rfl, r_p, r_q, o_r, o_s⟩ := q_a
  have hp : Hp ⟨w0, I0, B⟩ I0 [some (g_1, [v_b, v_c, v_e], 75), e_d, e_f, some (g_8, [v_j, v_k, v_l, v_n], 78), e_m, e_o] w0 := hp
  apply go
  apply go
  refine ev_boxI hp rfl rfl ?_
  intro p_t I_u w_v hp hs a_w
  replace r_6 := r_6.step hs
  replace r_g := r_g.step hs
  replace o_h := o_h.step hs
  replace o_i := o_i.step hs
  replace r_p := r_p.step hs
  replace r_q := r_q.step hs
  replace o_r := o_r.step hs
  replace o_s := o_s.step hs
  apply go
  apply go
  obtain ⟨y_x, q_y, h⟩ := bind_some h
  refine W.cut (γ := (Int × Int × (List Node_2) × (List Int) × (List Bool) × (List Int) × (List Bool) × (List Int) × (List Int) × Value × Value × Ent × Value × Ent × Value × Value × Value × Ent × Value × Ent × (Nat → Prop))) (fun g => [(4, (.pointer (some (p_t)))), (7, (.int .i64 (g.1))), (8, (.int .i64 (g.2.1)))]) (fun g w' => y_x = ((g.1), (g.2.1), (g.2.2.1), (g.2.2.2.1), (g.2.2.2.2.1), (g.2.2.2.2.2.1), (g.2.2.2.2.2.2.1), (g.2.2.2.2.2.2.2.1), (g.2.2.2.2.2.2.2.2.1)) ∧ Hp ⟨w0, I0, B⟩ (g.2.2.2.2.2.2.2.2.2.2.2.2.2.2.2.2.2.2.2.2) [(g.2.2.2.2.2.2.2.2.2.2.2.1), (g.2.2.2.2.2.2.2.2.2.2.2.2.2.1), some (g_1, [(g.2.2.2.2.2.2.2.2.2.1), (g.2.2.2.2.2.2.2.2.2.2.1), (g.2.2.2.2.2.2.2.2.2.2.2.2.1)], 75), (g.2.2.2.2.2.2.2.2.2.2.2.2.2.2.2.2.2.1), (g.2.2.2.2.2.2.2.2.2.2.2.2.2.2.2.2.2.2.2.1), some (g_8, [(g.2.2.2.2.2.2.2.2.2.2.2.2.2.2.1), (g.2.2.2.2.2.2.2.2.2.2.2.2.2.2.2.1), (g.2.2.2.2.2.2.2.2.2.2.2.2.2.2.2.2.1), (g.2.2.2.2.2.2.2.2.2.2.2.2.2.2.2.2.2.2.1)], 78)] w' ∧ RepS (dI .i64) w' (g.2.2.2.2.2.2.2.2.2.2.2.2.2.2.2.2.2.2.2.2) v_5 x_4.kids ∧ At w' (g.2.2.2.2.2.2.2.2.2.2.2.2.2.2.2.2.2.2.2.2) p_t [(.int .i64 x_4.kind), (.int .i64 x_4.name), (.int .i64 x_4.count), v_5] ∧ RepS dNode_2 w' (g.2.2.2.2.2.2.2.2.2.2.2.2.2.2.2.2.2.2.2.2) (g.2.2.2.2.2.2.2.2.2.1) (g.2.2.1) ∧ OwnS (dI .i64) 3 w' (g.2.2.2.2.2.2.2.2.2.2.2.2.2.2.2.2.2.2.2.2) (g.2.2.2.2.2.2.2.2.2.2.1) (g.2.2.2.2.2.2.2.2.2.2.2.1) (g.2.2.2.1) ∧ OwnS dB 4 w' (g.2.2.2.2.2.2.2.2.2.2.2.2.2.2.2.2.2.2.2.2) (g.2.2.2.2.2.2.2.2.2.2.2.2.1) (g.2.2.2.2.2.2.2.2.2.2.2.2.2.1) (g.2.2.2.2.1) ∧ RepS (dI .i64) w' (g.2.2.2.2.2.2.2.2.2.2.2.2.2.2.2.2.2.2.2.2) (g.2.2.2.2.2.2.2.2.2.2.2.2.2.2.1) (g.2.2.2.2.2.1) ∧ RepS dB w' (g.2.2.2.2.2.2.2.2.2.2.2.2.2.2.2.2.2.2.2.2) (g.2.2.2.2.2.2.2.2.2.2.2.2.2.2.2.1) (g.2.2.2.2.2.2.1) ∧ OwnS (dI .i64) 3 w' (g.2.2.2.2.2.2.2.2.2.2.2.2.2.2.2.2.2.2.2.2) (g.2.2.2.2.2.2.2.2.2.2.2.2.2.2.2.2.1) (g.2.2.2.2.2.2.2.2.2.2.2.2.2.2.2.2.2.1) (g.2.2.2.2.2.2.2.1) ∧ OwnS (dI .i64) 3 w' (g.2.2.2.2.2.2.2.2.2.2.2.2.2.2.2.2.2.2.2.2) (g.2.2.2.2.2.2.2.2.2.2.2.2.2.2.2.2.2.2.1) (g.2.2.2.2.2.2.2.2.2.2.2.2.2.2.2.2.2.2.2.1) (g.2.2.2.2.2.2.2.2.1)) ?_ ?_
  ·
    apply go
    apply go
    refine ev0 (rn_field rfl rfl FO82_3) ?_
    refine ev (rn_load rfl rfl (run_loadVar1 T43 (a_w.2 3 _ rfl))) ?_
    refine ev0 (rn_len rfl rfl Tryd.underlying43 r_6) ?_
    apply go
    have hp := hp.perm [1, 2, 0, 4, 5, 3] (by decide)
    refine W.loop q_y (γ := (Value × Value × Ent × Value × Ent × Value × Value × Value × Ent × Value × Ent × (Nat → Prop))) (fun s g => [(0, (.pointer (some ⟨g_1, 0, none⟩))), (2, (.pointer (some ⟨g_8, 0, none⟩))), (4, (.pointer (some (p_t)))), (7, (.int .i64 (s.2.2.2.2.2.2.2.1))), (8, (.int .i64 (s.2.2.2.2.2.2.2.2.1))), (12, v_5), (13, (.int .i64 (x_4.kids.length : Int))), (14, (.int .i64 (s.2.2.2.2.2.2.2.2.2)))]) (fun s g w' => Hp ⟨w0, I0, B⟩ (g.2.2.2.2.2.2.2.2.2.2.2) [(g.2.2.1), (g.2.2.2.2.1), some (g_1, [(g.1), (g.2.1), (g.2.2.2.1)], 75), (g.2.2.2.2.2.2.2.2.1), (g.2.2.2.2.2.2.2.2.2.2.1), some (g_8, [(g.2.2.2.2.2.1), (g.2.2.2.2.2.2.1), (g.2.2.2.2.2.2.2.1), (g.2.2.2.2.2.2.2.2.2.1)], 78)] w' ∧ RepS dNode_2 w' (g.2.2.2.2.2.2.2.2.2.2.2) (g.1) (s.1) ∧ OwnS (dI .i64) 3 w' (g.2.2.2.2.2.2.2.2.2.2.2) (g.2.1) (g.2.2.1) (s.2.1) ∧ OwnS dB 4 w' (g.2.2.2.2.2.2.2.2.2.2.2) (g.2.2.2.1) (g.2.2.2.2.1) (s.2.2.1) ∧ RepS (dI .i64) w' (g.2.2.2.2.2.2.2.2.2.2.2) (g.2.2.2.2.2.1) (s.2.2.2.1) ∧ RepS dB w' (g.2.2.2.2.2.2.2.2.2.2.2) (g.2.2.2.2.2.2.1) (s.2.2.2.2.1) ∧ OwnS (dI .i64) 3 w' (g.2.2.2.2.2.2.2.2.2.2.2) (g.2.2.2.2.2.2.2.1) (g.2.2.2.2.2.2.2.2.1) (s.2.2.2.2.2.1) ∧ OwnS (dI .i64) 3 w' (g.2.2.2.2.2.2.2.2.2.2.2) (g.2.2.2.2.2.2.2.2.2.1) (g.2.2.2.2.2.2.2.2.2.2.1) (s.2.2.2.2.2.2.1) ∧ RepS (dI .i64) w' (g.2.2.2.2.2.2.2.2.2.2.2) v_5 x_4.kids ∧ At w' (g.2.2.2.2.2.2.2.2.2.2.2) p_t [(.int .i64 x_4.kind), (.int .i64 x_4.name), (.int .i64 x_4.count), v_5]) (v_b, v_c, e_d, v_e, e_f, v_j, v_k, v_l, e_m, v_n, e_o, I_u) (.c rfl (.c rfl (.c rfl (.c rfl (.c rfl (.c rfl (.c rfl (.c rfl .n)))))))) ⟨hp, r_g, o_h, o_i, r_p, r_q, o_r, o_s, r_6, a_w⟩ ?_
    rintro ⟨x_z, x_10, x_11, x_12, x_13, x_14, x_15, x_16, x_17, x_18⟩ ⟨v_19, v_1a, e_1b, v_1c, e_1d, v_1e, v_1f, v_1g, e_1h, v_1i, e_1j, I_1k⟩ w_1l y_1m ⟨hp, r_1n, o_1o, o_1p, r_1q, r_1r, o_1s, o_1t, r_6, a_w⟩ q_1u q_1v
    unfold tree_Runner_parallel_L1 at q_1u
    apply go
    apply go
    apply go
    apply go
    refine sel_of (fun hc => ?_) (fun hc => ?_)
    ·
      have q_1u := cond_t q_1u hc
      apply go
      obtain ⟨y_1w, q_1x, q_1u⟩ := bind_some q_1u
      refine W.cut (γ := ((List Node_2) × (List Int) × (List Bool) × (List Int) × (List Bool) × (List Int) × (List Int) × Int × Int × Value × Value × Ent × Value × Ent × Value × Value × Value × Ent × Value × Ent × (Nat → Prop))) (fun g => [(0, (.pointer (some ⟨g_1, 0, none⟩))), (2, (.pointer (some ⟨g_8, 0, none⟩))), (4, (.pointer (some (p_t)))), (7, (.int .i64 (g.2.2.2.2.2.2.2.1))), (8, (.int .i64 (g.2.2.2.2.2.2.2.2.1))), (12, v_5), (13, (.int .i64 (x_4.kids.length : Int))), (14, (.int .i64 x_18))]) (fun g w' => y_1w = ((g.1), (g.2.1), (g.2.2.1), (g.2.2.2.1), (g.2.2.2.2.1), (g.2.2.2.2.2.1), (g.2.2.2.2.2.2.1), (g.2.2.2.2.2.2.2.1), (g.2.2.2.2.2.2.2.2.1)) ∧ Hp ⟨w0, I0, B⟩ (g.2.2.2.2.2.2.2.2.2.2.2.2.2.2.2.2.2.2.2.2) [(g.2.2.2.2.2.2.2.2.2.2.2.1), (g.2.2.2.2.2.2.2.2.2.2.2.2.2.1), some (g_1, [(g.2.2.2.2.2.2.2.2.2.1), (g.2.2.2.2.2.2.2.2.2.2.1), (g.2.2.2.2.2.2.2.2.2.2.2.2.1)], 75), (g.2.2.2.2.2.2.2.2.2.2.2.2.2.2.2.2.2.1), (g.2.2.2.2.2.2.2.2.2.2.2.2.2.2.2.2.2.2.2.1), some (g_8, [(g.2.2.2.2.2.2.2.2.2.2.2.2.2.2.1), (g.2.2.2.2.2.2.2.2.2.2.2.2.2.2.2.1), (g.2.2.2.2.2.2.2.2.2.2.2.2.2.2.2.2.1), (g.2.2.2.2.2.2.2.2.2.2.2.2.2.2.2.2.2.2.1)], 78)] w' ∧ RepS dNode_2 w' (g.2.2.2.2.2.2.2.2.2.2.2.2.2.2.2.2.2.2.2.2) (g.2.2.2.2.2.2.2.2.2.1) (g.1) ∧ OwnS (dI .i64) 3 w' (g.2.2.2.2.2.2.2.2.2.2.2.2.2.2.2.2.2.2.2.2) (g.2.2.2.2.2.2.2.2.2.2.1) (g.2.2.2.2.2.2.2.2.2.2.2.1) (g.2.1) ∧ OwnS dB 4 w' (g.2.2.2.2.2.2.2.2.2.2.2.2.2.2.2.2.2.2.2.2) (g.2.2.2.2.2.2.2.2.2.2.2.2.1) (g.2.2.2.2.2.2.2.2.2.2.2.2.2.1) (g.2.2.1) ∧ RepS (dI .i64) w' (g.2.2.2.2.2.2.2.2.2.2.2.2.2.2.2.2.2.2.2.2) (g.2.2.2.2.2.2.2.2.2.2.2.2.2.2.1) (g.2.2.2.1) ∧ RepS dB w' (g.2.2.2.2.2.2.2.2.2.2.2.2.2.2.2.2.2.2.2.2) (g.2.2.2.2.2.2.2.2.2.2.2.2.2.2.2.1) (g.2.2.2.2.1) ∧ OwnS (dI .i64) 3 w' (g.2.2.2.2.2.2.2.2.2.2.2.2.2.2.2.2.2.2.2.2) (g.2.2.2.2.2.2.2.2.2.2.2.2.2.2.2.2.1) (g.2.2.2.2.2.2.2.2.2.2.2.2.2.2.2.2.2.1) (g.2.2.2.2.2.1) ∧ OwnS (dI .i64) 3 w' (g.2.2.2.2.2.2.2.2.2.2.2.2.2.2.2.2.2.2.2.2) (g.2.2.2.2.2.2.2.2.2.2.2.2.2.2.2.2.2.2.1) (g.2.2.2.2.2.2.2.2.2.2.2.2.2.2.2.2.2.2.2.1) (g.2.2.2.2.2.2.1) ∧ RepS (dI .i64) w' (g.2.2.2.2.2.2.2.2.2.2.2.2.2.2.2.2.2.2.2.2) v_5 x_4.kids ∧ At w' (g.2.2.2.2.2.2.2.2.2.2.2.2.2.2.2.2.2.2.2.2) p_t [(.int .i64 x_4.kind), (.int .i64 x_4.name), (.int .i64 x_4.count), v_5]) ?_ ?_
      ·
        apply go
        apply go
        apply go
        obtain ⟨x_1y, q_1z, q_1x⟩ := bind_some q_1x
        refine ev_index rfl rfl rfl Tryd.underlying43 T3 r_6 q_1z ?_
        intro p_20 c_21 d_22 a_23
        obtain rfl : c_21 = [(.int .i64 x_1y)] := d_22
        refine ev (rn_load rfl rfl (run_loadVar1 T3 (a_23.2 0 _ rfl))) ?_
        apply go
        apply go
        obtain ⟨⟨x_24, x_25, x_26⟩, q_27, q_1x⟩ := bind_some q_1x
        refine ev_call rfl rfl C33 ((Hf_tree_Runner_run _ _  (Runner.mk x_z x_10 x_11) g_1 [some (g_1, [v_19, v_1a, v_1c], 75), e_1b, e_1d] ⟨v_19, v_1a, e_1b, v_1c, e_1d, rfl, r_1n, o_1o, o_1p⟩ x_1y (Tick.mk x_12 x_13 x_14 x_15) g_8 [some (g_8, [v_1e, v_1f, v_1g, v_1i], 78), e_1h, e_1j] ⟨v_1e, v_1f, v_1g, e_1h, v_1i, e_1j, rfl, r_1q, r_1r, o_1s, o_1t⟩ (hp.lendL [2, 0, 1, 5, 3, 4] (by decide)) _ q_27).mono ?_)
        rintro _ w_28 ⟨I_29, F_2a, F_2b, hv, hq2303, q_2c, q_2d⟩
        replace hv := hv.symm
        subst hv
        obtain ⟨v_2e, v_2f, e_2g, v_2h, e_2i, rfl, r_2j, o_2k, o_2l⟩ := q_2c
        obtain ⟨v_2m, v_2n, v_2o, e_2p, v_2q, e_2r, rfl, r_2s, r_2t, o_2u, o_2v⟩ := q_2d
        have hs := hq2303.st
        have hp := hp.backL [2, 0, 1, 5, 3, 4] [] (by decide) hq2303
        replace a_w := a_w.step hs
        replace r_6 := r_6.step hs
        apply go
        apply go
        apply go
        apply go
        refine sel_of (fun hc => ?_) (fun hc => ?_)
        ·
          have q_1x := cond_t q_1x hc
          apply go
          obtain rfl := Option.some.inj q_1x
          have hp := hp.perm [1, 2, 0, 4, 5, 3] (by decide)
          exact ⟨(x_25.nodes, x_25.counters, x_25.active, x_26.actions, x_26.tests, x_26.status, x_26.ticked, (IntKind.i64.wrap (x_16 + 1)), x_17, v_2e, v_2f, e_2g, v_2h, e_2i, v_2m, v_2n, v_2o, e_2p, v_2q, e_2r, I_29), (.c rfl (.c rfl (.c rfl (.c rfl (.c rfl (.c rfl (.c rfl (.c rfl .n)))))))), rfl, hp, r_2j, o_2k, o_2l, r_2s, r_2t, o_2u, o_2v, r_6, a_w⟩
        ·
          have q_1x := cond_f q_1x hc
          apply go
          apply go
          apply go
          refine sel_of (fun hc => ?_) (fun hc => ?_)
          ·
            have q_1x := cond_t q_1x hc
            apply go
            obtain rfl := Option.some.inj q_1x
            have hp := hp.perm [1, 2, 0, 4, 5, 3] (by decide)
            exact ⟨(x_25.nodes, x_25.counters, x_25.active, x_26.actions, x_26.tests, x_26.status, x_26.ticked, x_16, (IntKind.i64.wrap (x_17 + 1)), v_2e, v_2f, e_2g, v_2h, e_2i, v_2m, v_2n, v_2o, e_2p, v_2q, e_2r, I_29), (.c rfl (.c rfl (.c rfl (.c rfl (.c rfl (.c rfl (.c rfl (.c rfl .n)))))))), rfl, hp, r_2j, o_2k, o_2l, r_2s, r_2t, o_2u, o_2v, r_6, a_w⟩
          ·
            have q_1x := cond_f q_1x hc
            apply go
            obtain rfl := Option.some.inj q_1x
            have hp := hp.perm [1, 2, 0, 4, 5, 3] (by decide)
            exact ⟨(x_25.nodes, x_25.counters, x_25.active, x_26.actions, x_26.tests, x_26.status, x_26.ticked, x_16, x_17, v_2e, v_2f, e_2g, v_2h, e_2i, v_2m, v_2n, v_2o, e_2p, v_2q, e_2r, I_29), (.c rfl (.c rfl (.c rfl (.c rfl (.c rfl (.c rfl (.c rfl (.c rfl .n)))))))), rfl, hp, r_2j, o_2k, o_2l, r_2s, r_2t, o_2u, o_2v, r_6, a_w⟩
      ·
        rintro ⟨x_2w, x_2x, x_2y, x_2z, x_30, x_31, x_32, x_33, x_34, v_35, v_36, e_37, v_38, e_39, v_3a, v_3b, v_3c, e_3d, v_3e, e_3f, I_3g⟩ w_3h ⟨hy, hp, r_3i, o_3j, o_3k, r_3l, r_3m, o_3n, o_3o, r_6, a_w⟩
        replace hy := hy.symm
        subst hy
        apply go
        exact ⟨_, (Option.some.inj q_1u).symm, (v_35, v_36, e_37, v_38, e_39, v_3a, v_3b, v_3c, e_3d, v_3e, e_3f, I_3g), (.c rfl (.c rfl (.c rfl (.c rfl (.c rfl (.c rfl (.c rfl (.c rfl .n)))))))), ⟨hp, r_3i, o_3j, o_3k, r_3l, r_3m, o_3n, o_3o, r_6, a_w⟩⟩
    ·
      have q_1u := cond_f q_1u hc
      apply go
      have q_3p := congrArg some (q_1v _ (Option.some.inj q_1u).symm)
      obtain rfl := Option.some.inj q_3p
      exact ⟨(x_16, x_17, x_z, x_10, x_11, x_12, x_13, x_14, x_15, v_19, v_1a, e_1b, v_1c, e_1d, v_1e, v_1f, v_1g, e_1h, v_1i, e_1j, I_1k), (.c rfl (.c rfl (.c rfl .n))), rfl, hp, r_6, a_w, r_1n, o_1o, o_1p, r_1q, r_1r, o_1s, o_1t⟩
  ·
    rintro ⟨x_3q, x_3r, x_3s, x_3t, x_3u, x_3v, x_3w, x_3x, x_3y, v_3z, v_40, e_41, v_42, e_43, v_44, v_45, v_46, e_47, v_48, e_49, I_4a⟩ w_4b ⟨hy, hp, r_6, a_w, r_4c, o_4d, o_4e, r_4f, r_4g, o_4h, o_4i⟩
    replace hy := hy.symm
    subst hy
    apply go
    apply go
    apply go
    apply go
    refine ev0 (rn_field rfl rfl FO82_2) ?_
    refine ev (rn_load rfl rfl (run_loadVar1 T3 (a_w.2 2 _ rfl))) ?_
    apply go
    refine sel_of (fun hc => ?_) (fun hc => ?_)
    ·
      have h := cond_t h hc
      apply go
      apply go
      apply go
      obtain rfl := Option.some.inj h
      have hp := hp.perm [2, 0, 1, 5, 3, 4] (by decide)
      exact ⟨I_4a, [some (g_1, [v_3z, v_40, v_42], 75), e_41, e_43], [some (g_8, [v_44, v_45, v_46, v_48], 78), e_47, e_49], rfl, hp, ⟨v_3z, v_40, e_41, v_42, e_43, rfl, r_4c, o_4d, o_4e⟩, ⟨v_44, v_45, v_46, e_47, v_48, e_49, rfl, r_4f, r_4g, o_4h, o_4i⟩⟩
    ·
      have h := cond_f h hc
      apply go
      apply go
      refine ev0 (rn_field rfl rfl FO82_3) ?_
      refine ev (rn_load rfl rfl (run_loadVar1 T43 (a_w.2 3 _ rfl))) ?_
      refine ev0 (rn_len rfl rfl Tryd.underlying43 r_6) ?_
      refine ev0 (rn_field rfl rfl FO82_2) ?_
      refine ev (rn_load rfl rfl (run_loadVar1 T3 (a_w.2 2 _ rfl))) ?_
      apply go
      refine sel_of (fun hc => ?_) (fun hc => ?_)
      ·
        have h := cond_t h hc
        apply go
        apply go
        apply go
        obtain rfl := Option.some.inj h
        have hp := hp.perm [2, 0, 1, 5, 3, 4] (by decide)
        exact ⟨I_4a, [some (g_1, [v_3z, v_40, v_42], 75), e_41, e_43], [some (g_8, [v_44, v_45, v_46, v_48], 78), e_47, e_49], rfl, hp, ⟨v_3z, v_40, e_41, v_42, e_43, rfl, r_4c, o_4d, o_4e⟩, ⟨v_44, v_45, v_46, e_47, v_48, e_49, rfl, r_4f, r_4g, o_4h, o_4i⟩⟩
      ·
        have h := cond_f h hc
        apply go
        apply go
        apply go
        apply go
        obtain rfl := Option.some.inj h
        have hp := hp.perm [2, 0, 1, 5, 3, 4] (by decide)
        exact ⟨I_4a, [some (g_1, [v_3z, v_40, v_42], 75), e_41, e_43], [some (g_8, [v_44, v_45, v_46, v_48], 78), e_47, e_49], rfl, hp, ⟨v_3z, v_40, e_41, v_42, e_43, rfl, r_4c, o_4d, o_4e⟩, ⟨v_44, v_45, v_46, e_47, v_48, e_49, rfl, r_4f, r_4g, o_4h, o_4i⟩⟩

end Go.Proofs.YtkhmdpekfcahkaaDoor

namespace Go.Proofs.YtkhmdpekfcahkaaDoor
open Go Go.Proofs.YtkhmdpekfcahkaaDoor.Gw Go.RowKit
set_option linter.unusedVariables false
attribute [local irreducible] Ev EvQ EvS EvH
def tree_Runner_decorate_S (f : Runner → Int → Tick → Option (Int × Runner × Tick)) : Prop := ∀ (w0 : World) (I0 : Nat → Prop) (x_0 : Runner) (g_1 : Nat) (E_2 : List Ent) (q_3 : qR w0 I0 g_1 E_2 x_0) (x_4 : Int) (x_5 : Tick) (g_6 : Nat) (E_7 : List Ent) (q_8 : qK w0 I0 g_6 E_7 x_5) (hp : Hp ⟨w0, I0, blks (E_2 ++ E_7)⟩ I0 (E_2 ++ E_7) w0) (r : (Int × Runner × Tick)), f x_0 x_4 x_5 = some r →
    Ret Tryd.prog 42 #[(.pointer (some ⟨g_1, 0, none⟩)), (.int .i64 x_4), (.pointer (some ⟨g_6, 0, none⟩))] w0 fun v w1 => ∃ (I1 : Nat → Prop) (u_9 : List Ent) (u_a : List Ent), v = (.int .i64 r.1) ∧ Hp ⟨w0, I0, blks (E_2 ++ E_7)⟩ I1 (u_9 ++ u_a) w1 ∧ qR w1 I1 g_1 u_9 r.2.1 ∧ qK w1 I1 g_6 u_a r.2.2
theorem tree_Runner_decorate_ok (n : Nat) (f_tree_Runner_run : (Runner → Int → Tick → Option (Int × Runner × Tick))) (Hf_tree_Runner_run : tree_Runner_run_S f_tree_Runner_run) : tree_Runner_decorate_S (tree_Runner_decorate n f_tree_Runner_run) := by
  intro w0 I0 x_0 g_1 E_2 q_3 x_4 x_5 g_6 E_7 q_8 hp r h
  unfold tree_Runner_decorate at h
  refine enter Tryd.func42 rfl (Nat.le_of_ble_eq_true rfl) ?_
  generalize blks (E_2 ++ E_7) = B at hp ⊢
  obtain ⟨v_9, v_a, e_b, v_c, e_d, rfl, r_e, o_f, o_g⟩ := q_3
  obtain ⟨v_h, v_i, v_j, e_k, v_l, e_m, rfl, r_n, r_o, o_p, o_q⟩ := q_8
  have hp : Hp ⟨w0, I0, B⟩ I0 [some (g_1, [v_9, v_a, v_c], 75), e_b, e_d, some (g_6, [v_h, v_i, v_j, v_l], 78), e_k, e_m] w0 := hp
  apply go
  apply go
  apply go
  apply go
  refine ev0 (rn_field rfl rfl FO75_0) ?_
  refine ev (rn_load rfl rfl (run_loadVar1 T73 (hp.cell (i := 0) (off := 0) rfl rfl))) ?_
  obtain ⟨x_r, q_s, h⟩ := bind_some h
  refine ev_index rfl rfl rfl Tryd.underlying73 T82 r_e q_s ?_
  intro p_t c_u d_v a_w
  obtain ⟨v_x, rfl, r_y⟩ := dNode_2_o d_v
  refine ev (rn_load rfl rfl (run_loadVarA T82 rfl a_w)) ?_
  refine ev_alloc hp rfl T82 ?_
  intro g_z w_10 hp hs
  replace r_y := r_y.step hs
  replace r_e := r_e.step hs
  replace o_f := o_f.step hs
  replace o_g := o_g.step hs
  replace r_n := r_n.step hs
  replace r_o := r_o.step hs
  replace o_p := o_p.step hs
  replace o_q := o_q.step hs
  refine ev_storeA hp (i := 0) (off := 0) (vs := [(.int .i64 x_r.kind), (.int .i64 x_r.name), (.int .i64 x_r.count), v_x]) rfl rfl rfl rfl T82 rfl (Nat.le_of_ble_eq_true rfl) (ones_cons rfl (ones_cons rfl (ones_cons rfl (ones_cons r_y.one ones_nil)))) ?_
  intro w_11 hp hs
  replace r_y := r_y.step hs
  replace r_e := r_e.step hs
  replace o_f := o_f.step hs
  replace o_g := o_g.step hs
  replace r_n := r_n.step hs
  replace r_o := r_o.step hs
  replace o_p := o_p.step hs
  replace o_q := o_q.step hs
  apply go
  apply go
  refine ev0 (rn_field rfl rfl FO82_3) ?_
  refine ev (rn_load rfl rfl (run_loadVar1 T43 (hp.cell (i := 0) (off := 3) rfl rfl))) ?_
  obtain ⟨x_12, q_13, h⟩ := bind_some h
  refine ev_index rfl rfl rfl Tryd.underlying43 T3 r_y q_13 ?_
  intro p_14 c_15 d_16 a_17
  obtain rfl : c_15 = [(.int .i64 x_12)] := d_16
  refine ev (rn_load rfl rfl (run_loadVar1 T3 (a_17.2 0 _ rfl))) ?_
  obtain ⟨⟨x_18, x_19, x_1a⟩, q_1b, h⟩ := bind_some h
  refine ev_call rfl rfl C33 ((Hf_tree_Runner_run _ _  (Runner.mk x_0.nodes x_0.counters x_0.active) g_1 [some (g_1, [v_9, v_a, v_c], 75), e_b, e_d] ⟨v_9, v_a, e_b, v_c, e_d, rfl, r_e, o_f, o_g⟩ x_12 (Tick.mk x_5.actions x_5.tests x_5.status x_5.ticked) g_6 [some (g_6, [v_h, v_i, v_j, v_l], 78), e_k, e_m] ⟨v_h, v_i, v_j, e_k, v_l, e_m, rfl, r_n, r_o, o_p, o_q⟩ (hp.lendL [1, 2, 3, 4, 5, 6] (by decide)) _ q_1b).mono ?_)
  rintro _ w_1c ⟨I_1d, F_1e, F_1f, hv, hq2379, q_1g, q_1h⟩
  replace hv := hv.symm
  subst hv
  obtain ⟨v_1i, v_1j, e_1k, v_1l, e_1m, rfl, r_1n, o_1o, o_1p⟩ := q_1g
  obtain ⟨v_1q, v_1r, v_1s, e_1t, v_1u, e_1v, rfl, r_1w, r_1x, o_1y, o_1z⟩ := q_1h
  have hs := hq2379.st
  have hp := hp.backL [1, 2, 3, 4, 5, 6] [0] (by decide) hq2379
  replace r_y := r_y.step hs
  obtain ⟨y_20, q_21, h⟩ := bind_some h
  refine W.cut (γ := ((List Int) × Ent)) (fun g => [(8, (.int .i64 x_18))]) (fun g w' => y_20 = .go (g.1) ∧ Hp ⟨w0, I0, B⟩ I_1d [(g.2), e_1m, some (g_1, [v_1i, v_1j, v_1l], 75), e_1t, e_1v, some (g_6, [v_1q, v_1r, v_1s, v_1u], 78)] w' ∧ RepS dNode_2 w' I_1d v_1i x_19.nodes ∧ OwnS (dI .i64) 3 w' I_1d v_1j (g.2) (g.1) ∧ OwnS dB 4 w' I_1d v_1l e_1m x_19.active ∧ RepS (dI .i64) w' I_1d v_1q x_1a.actions ∧ RepS dB w' I_1d v_1r x_1a.tests ∧ OwnS (dI .i64) 3 w' I_1d v_1s e_1t x_1a.status ∧ OwnS (dI .i64) 3 w' I_1d v_1u e_1v x_1a.ticked) ?_ ?_
  ·
    apply go
    obtain ⟨y_22, q_23, q_21⟩ := bind_some q_21
    refine W.cut (γ := Bool) (fun g => [(0, (.pointer (some ⟨g_1, 0, none⟩))), (1, (.int .i64 x_4)), (7, (.pointer (some ⟨g_z, 0, none⟩))), (8, (.int .i64 x_18)), (23, (.bool (g)))]) (fun g w' => y_22 = (g) ∧ w_1c = w') ?_ ?_
    ·
      apply go
      refine ev0 (rn_field rfl rfl FO82_0) ?_
      refine ev (rn_load rfl rfl (run_loadVar1 T3 (hp.cell (i := 6) (off := 0) rfl rfl))) ?_
      refine sel_of (fun hc => ?_) (fun hc => ?_)
      ·
        have q_23 := cond_t q_23 hc
        obtain rfl := Option.some.inj q_23
        exact ⟨(x_18 != 1), (.c rfl (.c rfl (.c rfl (.c rfl (.c rfl .n))))), rfl, rfl⟩
      ·
        have q_23 := cond_f q_23 hc
        obtain rfl := Option.some.inj q_23
        exact ⟨false, (.c rfl (.c rfl (.c rfl (.c rfl (.c rfl .n))))), rfl, rfl⟩
    ·
      rintro x_24 _ ⟨hy, rfl⟩
      replace hy := hy.symm
      subst hy
      apply go
      refine sel_of (fun hc => ?_) (fun hc => ?_)
      ·
        have q_21 := cond_t q_21 hc
        apply go
        apply go
        apply go
        obtain rfl := Option.some.inj q_21
        obtain rfl := Option.some.inj h
        have hp := hp.sel [0, 1, 2, 3, 4, 5] (by decide)
        exact ⟨I_1d, [some (g_1, [v_1i, v_1j, v_1l], 75), e_1k, e_1m], [some (g_6, [v_1q, v_1r, v_1s, v_1u], 78), e_1t, e_1v], rfl, hp, ⟨v_1i, v_1j, e_1k, v_1l, e_1m, rfl, r_1n, o_1o, o_1p⟩, ⟨v_1q, v_1r, v_1s, e_1t, v_1u, e_1v, rfl, r_1w, r_1x, o_1y, o_1z⟩⟩
      ·
        have q_21 := cond_f q_21 hc
        obtain ⟨y_25, q_26, q_21⟩ := bind_some q_21
        refine W.cut (γ := Bool) (fun g => [(0, (.pointer (some ⟨g_1, 0, none⟩))), (1, (.int .i64 x_4)), (7, (.pointer (some ⟨g_z, 0, none⟩))), (8, (.int .i64 x_18)), (33, (.bool (g)))]) (fun g w' => y_25 = (g) ∧ w_1c = w') ?_ ?_
        ·
          apply go
          refine ev0 (rn_field rfl rfl FO82_0) ?_
          refine ev (rn_load rfl rfl (run_loadVar1 T3 (hp.cell (i := 6) (off := 0) rfl rfl))) ?_
          refine sel_of (fun hc => ?_) (fun hc => ?_)
          ·
            have q_26 := cond_t q_26 hc
            obtain rfl := Option.some.inj q_26
            exact ⟨(x_18 == 3), (.c rfl (.c rfl (.c rfl (.c rfl (.c rfl .n))))), rfl, rfl⟩
          ·
            have q_26 := cond_f q_26 hc
            obtain rfl := Option.some.inj q_26
            exact ⟨false, (.c rfl (.c rfl (.c rfl (.c rfl (.c rfl .n))))), rfl, rfl⟩
        ·
          rintro x_27 _ ⟨hy, rfl⟩
          replace hy := hy.symm
          subst hy
          apply go
          refine sel_of (fun hc => ?_) (fun hc => ?_)
          ·
            have q_21 := cond_t q_21 hc
            apply go
            apply go
            refine ev0 (rn_field rfl rfl FO75_1) ?_
            refine ev (rn_load rfl rfl (run_loadVar1 T43 (hp.cell (i := 0) (off := 1) rfl rfl))) ?_
            obtain ⟨x_28, q_29, q_21⟩ := bind_some q_21
            refine ev_indexO rfl rfl rfl Tryd.underlying43 T3 o_1o q_29 ?_
            intro g_2a c_2b h_2c d_2d l_2e
            refine ev (rn_load rfl rfl (run_loadVar1 T3 (hp.cellE (i := 1) rfl h_2c d_2d (j := 0) rfl))) ?_
            obtain ⟨x_2f, q_2g, q_21⟩ := bind_some q_21
            refine ev_indexO rfl rfl rfl Tryd.underlying43 T3 o_1o q_2g ?_
            intro g_2h c_2i h_2j d_2k l_2l
            refine ev_storeE hp (i := 1) rfl h_2j rfl rfl rfl T3 o_1o q_2g (x0 := (IntKind.i64.wrap (x_28 + 1))) rfl ?_
            intro e_2m w_2n hp hs o_2o
            replace r_1n := r_1n.step hs
            replace o_1p := o_1p.step hs
            replace r_1w := r_1w.step hs
            replace r_1x := r_1x.step hs
            replace o_1y := o_1y.step hs
            replace o_1z := o_1z.step hs
            replace r_y := r_y.step hs
            apply go
            refine W.quiet (fun w' => Ch [] w_2n w') MX (by kernel_rfl) (Ch.drew [] w_2n) ?_
            refine evq0 (rn_field rfl rfl FO75_1) ?_
            refine evq (fun w' hw => rn_load rfl rfl (run_loadVar1 T43 ((hp.ext hw).cell (i := 0) (off := 1) rfl rfl))) ?_
            obtain ⟨x_2p, q_2q, q_21⟩ := bind_some q_21
            refine evq_indexO rfl rfl rfl Tryd.underlying43 T3 o_2o q_2q ?_
            intro g_2r c_2s h_2t d_2u l_2v
            refine evq (fun w' hw => rn_load rfl rfl (run_loadVar1 T3 ((hp.ext hw).cellE (i := 1) rfl h_2t d_2u (j := 0) rfl))) ?_
            refine evq0 (rn_field rfl rfl FO82_2) ?_
            refine evq (fun w' hw => rn_load rfl rfl (run_loadVar1 T3 ((hp.ext hw).cell (i := 6) (off := 2) rfl rfl))) ?_
            intro w_2w hc
            have hs := hp.stp hc
            replace hp := hp.ext hc
            replace r_1n := r_1n.step hs
            replace o_2o := o_2o.step hs
            replace o_1p := o_1p.step hs
            replace r_1w := r_1w.step hs
            replace r_1x := r_1x.step hs
            replace o_1y := o_1y.step hs
            replace o_1z := o_1z.step hs
            replace r_y := r_y.step hs
            apply go
            refine sel_of (fun hc => ?_) (fun hc => ?_)
            ·
              have q_21 := cond_t q_21 hc
              apply go
              apply go
              apply go
              obtain rfl := Option.some.inj q_21
              obtain rfl := Option.some.inj h
              have hp := hp.sel [0, 1, 2, 3, 4, 5] (by decide)
              exact ⟨I_1d, [some (g_1, [v_1i, v_1j, v_1l], 75), e_2m, e_1m], [some (g_6, [v_1q, v_1r, v_1s, v_1u], 78), e_1t, e_1v], rfl, hp, ⟨v_1i, v_1j, e_2m, v_1l, e_1m, rfl, r_1n, o_2o, o_1p⟩, ⟨v_1q, v_1r, v_1s, e_1t, v_1u, e_1v, rfl, r_1w, r_1x, o_1y, o_1z⟩⟩
            ·
              have q_21 := cond_f q_21 hc
              apply go
              obtain rfl := Option.some.inj q_21
              have hp := hp.perm [1, 2, 0, 4, 5, 3] (by decide)
              exact ⟨((upd x_19.counters x_4 (IntKind.i64.wrap (x_28 + 1))), e_2m), (.c rfl .n), rfl, hp, r_1n, o_2o, o_1p, r_1w, r_1x, o_1y, o_1z⟩
          ·
            have q_21 := cond_f q_21 hc
            obtain ⟨y_2x, q_2y, q_21⟩ := bind_some q_21
            refine W.cut (γ := Bool) (fun g => [(0, (.pointer (some ⟨g_1, 0, none⟩))), (1, (.int .i64 x_4)), (7, (.pointer (some ⟨g_z, 0, none⟩))), (8, (.int .i64 x_18)), (60, (.bool (g)))]) (fun g w' => y_2x = (g) ∧ w_1c = w') ?_ ?_
            ·
              apply go
              refine ev0 (rn_field rfl rfl FO82_0) ?_
              refine ev (rn_load rfl rfl (run_loadVar1 T3 (hp.cell (i := 6) (off := 0) rfl rfl))) ?_
              refine sel_of (fun hc => ?_) (fun hc => ?_)
              ·
                have q_2y := cond_t q_2y hc
                obtain rfl := Option.some.inj q_2y
                exact ⟨(x_18 == 1), (.c rfl (.c rfl (.c rfl (.c rfl (.c rfl .n))))), rfl, rfl⟩
              ·
                have q_2y := cond_f q_2y hc
                obtain rfl := Option.some.inj q_2y
                exact ⟨false, (.c rfl (.c rfl (.c rfl (.c rfl (.c rfl .n))))), rfl, rfl⟩
            ·
              rintro x_2z _ ⟨hy, rfl⟩
              replace hy := hy.symm
              subst hy
              apply go
              refine sel_of (fun hc => ?_) (fun hc => ?_)
              ·
                have q_21 := cond_t q_21 hc
                apply go
                apply go
                refine ev0 (rn_field rfl rfl FO75_1) ?_
                refine ev (rn_load rfl rfl (run_loadVar1 T43 (hp.cell (i := 0) (off := 1) rfl rfl))) ?_
                obtain ⟨x_30, q_31, q_21⟩ := bind_some q_21
                refine ev_indexO rfl rfl rfl Tryd.underlying43 T3 o_1o q_31 ?_
                intro g_32 c_33 h_34 d_35 l_36
                refine ev (rn_load rfl rfl (run_loadVar1 T3 (hp.cellE (i := 1) rfl h_34 d_35 (j := 0) rfl))) ?_
                obtain ⟨x_37, q_38, q_21⟩ := bind_some q_21
                refine ev_indexO rfl rfl rfl Tryd.underlying43 T3 o_1o q_38 ?_
                intro g_39 c_3a h_3b d_3c l_3d
                refine ev_storeE hp (i := 1) rfl h_3b rfl rfl rfl T3 o_1o q_38 (x0 := (IntKind.i64.wrap (x_30 + 1))) rfl ?_
                intro e_3e w_3f hp hs o_3g
                replace r_1n := r_1n.step hs
                replace o_1p := o_1p.step hs
                replace r_1w := r_1w.step hs
                replace r_1x := r_1x.step hs
                replace o_1y := o_1y.step hs
                replace o_1z := o_1z.step hs
                replace r_y := r_y.step hs
                apply go
                refine W.quiet (fun w' => Ch [] w_3f w') MX (by kernel_rfl) (Ch.drew [] w_3f) ?_
                refine evq0 (rn_field rfl rfl FO75_1) ?_
                refine evq (fun w' hw => rn_load rfl rfl (run_loadVar1 T43 ((hp.ext hw).cell (i := 0) (off := 1) rfl rfl))) ?_
                obtain ⟨x_3h, q_3i, q_21⟩ := bind_some q_21
                refine evq_indexO rfl rfl rfl Tryd.underlying43 T3 o_3g q_3i ?_
                intro g_3j c_3k h_3l d_3m l_3n
                refine evq (fun w' hw => rn_load rfl rfl (run_loadVar1 T3 ((hp.ext hw).cellE (i := 1) rfl h_3l d_3m (j := 0) rfl))) ?_
                refine evq0 (rn_field rfl rfl FO82_2) ?_
                refine evq (fun w' hw => rn_load rfl rfl (run_loadVar1 T3 ((hp.ext hw).cell (i := 6) (off := 2) rfl rfl))) ?_
                intro w_3o hc
                have hs := hp.stp hc
                replace hp := hp.ext hc
                replace r_1n := r_1n.step hs
                replace o_3g := o_3g.step hs
                replace o_1p := o_1p.step hs
                replace r_1w := r_1w.step hs
                replace r_1x := r_1x.step hs
                replace o_1y := o_1y.step hs
                replace o_1z := o_1z.step hs
                replace r_y := r_y.step hs
                apply go
                refine sel_of (fun hc => ?_) (fun hc => ?_)
                ·
                  have q_21 := cond_t q_21 hc
                  apply go
                  apply go
                  apply go
                  obtain rfl := Option.some.inj q_21
                  obtain rfl := Option.some.inj h
                  have hp := hp.sel [0, 1, 2, 3, 4, 5] (by decide)
                  exact ⟨I_1d, [some (g_1, [v_1i, v_1j, v_1l], 75), e_3e, e_1m], [some (g_6, [v_1q, v_1r, v_1s, v_1u], 78), e_1t, e_1v], rfl, hp, ⟨v_1i, v_1j, e_3e, v_1l, e_1m, rfl, r_1n, o_3g, o_1p⟩, ⟨v_1q, v_1r, v_1s, e_1t, v_1u, e_1v, rfl, r_1w, r_1x, o_1y, o_1z⟩⟩
                ·
                  have q_21 := cond_f q_21 hc
                  apply go
                  obtain rfl := Option.some.inj q_21
                  have hp := hp.perm [1, 2, 0, 4, 5, 3] (by decide)
                  exact ⟨((upd x_19.counters x_4 (IntKind.i64.wrap (x_30 + 1))), e_3e), (.c rfl .n), rfl, hp, r_1n, o_3g, o_1p, r_1w, r_1x, o_1y, o_1z⟩
              ·
                have q_21 := cond_f q_21 hc
                apply go
                obtain rfl := Option.some.inj q_21
                have hp := hp.perm [1, 2, 0, 4, 5, 3] (by decide)
                exact ⟨(x_19.counters, e_1k), (.c rfl .n), rfl, hp, r_1n, o_1o, o_1p, r_1w, r_1x, o_1y, o_1z⟩
  ·
    rintro ⟨x_3p, e_3q⟩ w_3r ⟨hy, hp, r_1n, o_3s, o_1p, r_1w, r_1x, o_1y, o_1z⟩
    replace hy := hy.symm
    subst hy
    apply go
    apply go
    apply go
    obtain rfl := Option.some.inj h
    have hp := hp.perm [2, 0, 1, 5, 3, 4] (by decide)
    exact ⟨I_1d, [some (g_1, [v_1i, v_1j, v_1l], 75), e_3q, e_1m], [some (g_6, [v_1q, v_1r, v_1s, v_1u], 78), e_1t, e_1v], rfl, hp, ⟨v_1i, v_1j, e_3q, v_1l, e_1m, rfl, r_1n, o_3s, o_1p⟩, ⟨v_1q, v_1r, v_1s, e_1t, v_1u, e_1v, rfl, r_1w, r_1x, o_1y, o_1z⟩⟩

end Go.Proofs.YtkhmdpekfcahkaaDoor

namespace Go.Proofs.YtkhmdpekfcahkaaDoor
open Go Go.Proofs.YtkhmdpekfcahkaaDoor.Gw Go.RowKit
set_option linter.unusedVariables false
attribute [local irreducible] Ev EvQ EvS EvH
theorem tree_Runner_run_F_ok (n : Nat) (self : Runner → Int → Tick → Option (Int × Runner × Tick)) (ih : tree_Runner_run_S self) : tree_Runner_run_S (tree_Runner_run_F n self) := by
  intro w0 I0 x_0 g_1 E_2 q_3 x_4 x_5 g_6 E_7 q_8 hp r h
  unfold tree_Runner_run_F at h
  refine enter Tryd.func33 rfl (Nat.le_of_ble_eq_true rfl) ?_
  generalize blks (E_2 ++ E_7) = B at hp ⊢
  obtain ⟨v_9, v_a, e_b, v_c, e_d, rfl, r_e, o_f, o_g⟩ := q_3
  obtain ⟨v_h, v_i, v_j, e_k, v_l, e_m, rfl, r_n, r_o, o_p, o_q⟩ := q_8
  have hp : Hp ⟨w0, I0, B⟩ I0 [some (g_1, [v_9, v_a, v_c], 75), e_b, e_d, some (g_6, [v_h, v_i, v_j, v_l], 78), e_k, e_m] w0 := hp
  apply go
  apply go
  apply go
  apply go
  apply go
  apply go
  refine ev0 (rn_field rfl rfl FO75_0) ?_
  refine ev (rn_load rfl rfl (run_loadVar1 T73 (hp.cell (i := 0) (off := 0) rfl rfl))) ?_
  obtain ⟨x_r, q_s, h⟩ := bind_some h
  refine ev_index rfl rfl rfl Tryd.underlying73 T82 r_e q_s ?_
  intro p_t c_u d_v a_w
  obtain ⟨v_x, rfl, r_y⟩ := dNode_2_o d_v
  refine ev (rn_load rfl rfl (run_loadVarA T82 rfl a_w)) ?_
  refine ev_alloc hp rfl T82 ?_
  intro g_z w_10 hp hs
  replace r_y := r_y.step hs
  replace r_e := r_e.step hs
  replace o_f := o_f.step hs
  replace o_g := o_g.step hs
  replace r_n := r_n.step hs
  replace r_o := r_o.step hs
  replace o_p := o_p.step hs
  replace o_q := o_q.step hs
  refine ev_storeA hp (i := 0) (off := 0) (vs := [(.int .i64 x_r.kind), (.int .i64 x_r.name), (.int .i64 x_r.count), v_x]) rfl rfl rfl rfl T82 rfl (Nat.le_of_ble_eq_true rfl) (ones_cons rfl (ones_cons rfl (ones_cons rfl (ones_cons r_y.one ones_nil)))) ?_
  intro w_11 hp hs
  replace r_y := r_y.step hs
  replace r_e := r_e.step hs
  replace o_f := o_f.step hs
  replace o_g := o_g.step hs
  replace r_n := r_n.step hs
  replace r_o := r_o.step hs
  replace o_p := o_p.step hs
  replace o_q := o_q.step hs
  obtain ⟨y_12, q_13, h⟩ := bind_some h
  refine W.cut (γ := ((List Int) × (List Bool) × (List Int) × (List Int) × Int × (List Node_2) × (List Int) × (List Bool) × Value × Value × Value × Ent × Value × Ent × Value × Value × Ent × Value × Ent × (Nat → Prop))) (fun g => [(1, (.int .i64 x_4)), (2, (.pointer (some ⟨g_6, 0, none⟩))), (7, (.int .i64 (g.2.2.2.2.1)))]) (fun g w' => y_12 = ((g.1), (g.2.1), (g.2.2.1), (g.2.2.2.1), (g.2.2.2.2.1), (g.2.2.2.2.2.1), (g.2.2.2.2.2.2.1), (g.2.2.2.2.2.2.2.1)) ∧ Hp ⟨w0, I0, B⟩ (g.2.2.2.2.2.2.2.2.2.2.2.2.2.2.2.2.2.2.2) [(g.2.2.2.2.2.2.2.2.2.2.2.1), (g.2.2.2.2.2.2.2.2.2.2.2.2.2.1), some (g_6, [(g.2.2.2.2.2.2.2.2.1), (g.2.2.2.2.2.2.2.2.2.1), (g.2.2.2.2.2.2.2.2.2.2.1), (g.2.2.2.2.2.2.2.2.2.2.2.2.1)], 78), (g.2.2.2.2.2.2.2.2.2.2.2.2.2.2.2.2.1), (g.2.2.2.2.2.2.2.2.2.2.2.2.2.2.2.2.2.2.1), some (g_1, [(g.2.2.2.2.2.2.2.2.2.2.2.2.2.2.1), (g.2.2.2.2.2.2.2.2.2.2.2.2.2.2.2.1), (g.2.2.2.2.2.2.2.2.2.2.2.2.2.2.2.2.2.1)], 75)] w' ∧ RepS (dI .i64) w' (g.2.2.2.2.2.2.2.2.2.2.2.2.2.2.2.2.2.2.2) (g.2.2.2.2.2.2.2.2.1) (g.1) ∧ RepS dB w' (g.2.2.2.2.2.2.2.2.2.2.2.2.2.2.2.2.2.2.2) (g.2.2.2.2.2.2.2.2.2.1) (g.2.1) ∧ OwnS (dI .i64) 3 w' (g.2.2.2.2.2.2.2.2.2.2.2.2.2.2.2.2.2.2.2) (g.2.2.2.2.2.2.2.2.2.2.1) (g.2.2.2.2.2.2.2.2.2.2.2.1) (g.2.2.1) ∧ OwnS (dI .i64) 3 w' (g.2.2.2.2.2.2.2.2.2.2.2.2.2.2.2.2.2.2.2) (g.2.2.2.2.2.2.2.2.2.2.2.2.1) (g.2.2.2.2.2.2.2.2.2.2.2.2.2.1) (g.2.2.2.1) ∧ RepS dNode_2 w' (g.2.2.2.2.2.2.2.2.2.2.2.2.2.2.2.2.2.2.2) (g.2.2.2.2.2.2.2.2.2.2.2.2.2.2.1) (g.2.2.2.2.2.1) ∧ OwnS (dI .i64) 3 w' (g.2.2.2.2.2.2.2.2.2.2.2.2.2.2.2.2.2.2.2) (g.2.2.2.2.2.2.2.2.2.2.2.2.2.2.2.1) (g.2.2.2.2.2.2.2.2.2.2.2.2.2.2.2.2.1) (g.2.2.2.2.2.2.1) ∧ OwnS dB 4 w' (g.2.2.2.2.2.2.2.2.2.2.2.2.2.2.2.2.2.2.2) (g.2.2.2.2.2.2.2.2.2.2.2.2.2.2.2.2.2.1) (g.2.2.2.2.2.2.2.2.2.2.2.2.2.2.2.2.2.2.1) (g.2.2.2.2.2.2.2.1)) ?_ ?_
  ·
    apply go
    apply go
    refine ev0 (rn_field rfl rfl FO82_0) ?_
    refine ev (rn_load rfl rfl (run_loadVar1 T3 (hp.cell (i := 0) (off := 0) rfl rfl))) ?_
    apply go
    apply go
    apply go
    apply go
    refine sel_of (fun hc => ?_) (fun hc => ?_)
    ·
      have q_13 := cond_t q_13 hc
      apply go
      apply go
      refine ev0 (rn_field rfl rfl FO78_3) ?_
      refine ev (rn_load rfl rfl (run_loadVar1 T43 (hp.cell (i := 4) (off := 3) rfl rfl))) ?_
      refine ev_litN (d := (dI .i64)) (xs := [x_4]) (cs := [(.int .i64 x_4)]) hp rfl rfl Tryd.underlying43 T3 (by decide) rfl rfl (Elems.cons (d := (dI .i64)) (xs := _) rfl (Elems.nil _ _ _ _)) ?_
      intro v_14 I_15 w_16 hp hs r_17
      replace o_q := o_q.step hs
      replace r_y := r_y.step hs
      replace r_e := r_e.step hs
      replace o_f := o_f.step hs
      replace o_g := o_g.step hs
      replace r_n := r_n.step hs
      replace r_o := r_o.step hs
      replace o_p := o_p.step hs
      obtain ⟨x_18, q_19, q_13⟩ := bind_some q_13
      refine ev_append hp (i := 6) rfl rfl rfl rfl Tryd.underlying43 T3 rfl rfl o_q r_17 q_19 ?_
      rintro v_1a e_1b w_1c hp hs o_1d
      replace r_y := r_y.step hs
      replace r_e := r_e.step hs
      replace o_f := o_f.step hs
      replace o_g := o_g.step hs
      replace r_n := r_n.step hs
      replace r_o := r_o.step hs
      replace o_p := o_p.step hs
      replace o_q := o_q.step hs
      refine ev0 (rn_field rfl rfl FO78_3) ?_
      refine ev_store1 hp (i := 4) (off := 3) rfl rfl rfl rfl T43 o_1d.one (Nat.le_of_ble_eq_true rfl) ?_
      intro w_1e hp hs
      replace r_y := r_y.step hs
      replace r_e := r_e.step hs
      replace o_f := o_f.step hs
      replace o_g := o_g.step hs
      replace r_n := r_n.step hs
      replace r_o := r_o.step hs
      replace o_p := o_p.step hs
      replace o_1d := o_1d.step hs
      obtain ⟨y_1f, q_1g, q_13⟩ := bind_some q_13
      refine W.cut (γ := Bool) (fun g => [(1, (.int .i64 x_4)), (2, (.pointer (some ⟨g_6, 0, none⟩))), (7, (.int .i64 3)), (8, (.pointer (some ⟨g_z, 0, none⟩))), (63, (.bool (g)))]) (fun g w' => y_1f = (g) ∧ Hp ⟨w0, I0, B⟩ I_15 [e_k, e_1b, some (g_6, [v_h, v_i, v_j, v_1a], 78), some (g_z, [(.int .i64 x_r.kind), (.int .i64 x_r.name), (.int .i64 x_r.count), v_x], 82), e_b, e_d, some (g_1, [v_9, v_a, v_c], 75)] w' ∧ RepS (dI .i64) w' I_15 v_h x_5.actions ∧ RepS dB w' I_15 v_i x_5.tests ∧ OwnS (dI .i64) 3 w' I_15 v_j e_k x_5.status ∧ OwnS (dI .i64) 3 w' I_15 v_1a e_1b x_18 ∧ RepS (dI .i64) w' I_15 v_x x_r.kids ∧ RepS dNode_2 w' I_15 v_9 x_0.nodes ∧ OwnS (dI .i64) 3 w' I_15 v_a e_b x_0.counters ∧ OwnS dB 4 w' I_15 v_c e_d x_0.active) ?_ ?_
      ·
        refine W.quiet (fun w' => Ch [] w_1e w') MX (by kernel_rfl) (Ch.drew [] w_1e) ?_
        refine evq0 (rn_field rfl rfl FO82_1) ?_
        refine evq (fun w' hw => rn_load rfl rfl (run_loadVar1 T3 ((hp.ext hw).cell (i := 0) (off := 1) rfl rfl))) ?_
        refine evq0 (rn_field rfl rfl FO78_0) ?_
        refine evq (fun w' hw => rn_load rfl rfl (run_loadVar1 T43 ((hp.ext hw).cell (i := 4) (off := 0) rfl rfl))) ?_
        refine evq0 (rn_len rfl rfl Tryd.underlying43 r_n) ?_
        refine sel_of (fun hc => ?_) (fun hc => ?_)
        ·
          have q_1g := cond_t q_1g hc
          refine evq0 (rn_field rfl rfl FO78_0) ?_
          refine evq (fun w' hw => rn_load rfl rfl (run_loadVar1 T43 ((hp.ext hw).cell (i := 4) (off := 0) rfl rfl))) ?_
          refine evq0 (rn_field rfl rfl FO82_1) ?_
          refine evq (fun w' hw => rn_load rfl rfl (run_loadVar1 T3 ((hp.ext hw).cell (i := 0) (off := 1) rfl rfl))) ?_
          obtain ⟨x_1h, q_1i, q_1g⟩ := bind_some q_1g
          refine evq_index rfl rfl rfl Tryd.underlying43 T3 r_n q_1i ?_
          intro p_1j c_1k d_1l a_1m
          obtain rfl : c_1k = [(.int .i64 x_1h)] := d_1l
          refine evq (fun w' hw => rn_load rfl rfl (run_loadVar1 T3 ((a_1m.step (hp.stp hw)).2 0 _ rfl))) ?_
          refine sel_of (fun hc => ?_) (fun hc => ?_)
          ·
            have q_1g := cond_t q_1g hc
            refine evq0 (rn_field rfl rfl FO78_0) ?_
            refine evq (fun w' hw => rn_load rfl rfl (run_loadVar1 T43 ((hp.ext hw).cell (i := 4) (off := 0) rfl rfl))) ?_
            refine evq0 (rn_field rfl rfl FO82_1) ?_
            refine evq (fun w' hw => rn_load rfl rfl (run_loadVar1 T3 ((hp.ext hw).cell (i := 0) (off := 1) rfl rfl))) ?_
            obtain ⟨x_1n, q_1o, q_1g⟩ := bind_some q_1g
            refine evq_index rfl rfl rfl Tryd.underlying43 T3 r_n q_1o ?_
            intro p_1p c_1q d_1r a_1s
            obtain rfl : c_1q = [(.int .i64 x_1n)] := d_1r
            refine evq (fun w' hw => rn_load rfl rfl (run_loadVar1 T3 ((a_1s.step (hp.stp hw)).2 0 _ rfl))) ?_
            intro w_1t hc
            have hs := hp.stp hc
            replace hp := hp.ext hc
            replace r_y := r_y.step hs
            replace r_e := r_e.step hs
            replace o_f := o_f.step hs
            replace o_g := o_g.step hs
            replace r_n := r_n.step hs
            replace r_o := r_o.step hs
            replace o_p := o_p.step hs
            replace o_1d := o_1d.step hs
            obtain rfl := Option.some.inj q_1g
            have hp := hp.perm [5, 6, 4, 0, 2, 3, 1] (by decide)
            exact ⟨(decide (x_1n ≤ 3)), (.c rfl (.c rfl (.c rfl (.c rfl (.c rfl .n))))), rfl, hp, r_n, r_o, o_p, o_1d, r_y, r_e, o_f, o_g⟩
          ·
            have q_1g := cond_f q_1g hc
            intro w_1u hc
            have hs := hp.stp hc
            replace hp := hp.ext hc
            replace r_y := r_y.step hs
            replace r_e := r_e.step hs
            replace o_f := o_f.step hs
            replace o_g := o_g.step hs
            replace r_n := r_n.step hs
            replace r_o := r_o.step hs
            replace o_p := o_p.step hs
            replace o_1d := o_1d.step hs
            obtain rfl := Option.some.inj q_1g
            have hp := hp.perm [5, 6, 4, 0, 2, 3, 1] (by decide)
            exact ⟨false, (.c rfl (.c rfl (.c rfl (.c rfl (.c rfl .n))))), rfl, hp, r_n, r_o, o_p, o_1d, r_y, r_e, o_f, o_g⟩
        ·
          have q_1g := cond_f q_1g hc
          intro w_1v hc
          have hs := hp.stp hc
          replace hp := hp.ext hc
          replace r_y := r_y.step hs
          replace r_e := r_e.step hs
          replace o_f := o_f.step hs
          replace o_g := o_g.step hs
          replace r_n := r_n.step hs
          replace r_o := r_o.step hs
          replace o_p := o_p.step hs
          replace o_1d := o_1d.step hs
          obtain rfl := Option.some.inj q_1g
          have hp := hp.perm [5, 6, 4, 0, 2, 3, 1] (by decide)
          exact ⟨false, (.c rfl (.c rfl (.c rfl (.c rfl (.c rfl .n))))), rfl, hp, r_n, r_o, o_p, o_1d, r_y, r_e, o_f, o_g⟩
      ·
        rintro x_1w w_1x ⟨hy, hp, r_n, r_o, o_p, o_1d, r_y, r_e, o_f, o_g⟩
        replace hy := hy.symm
        subst hy
        apply go
        refine sel_of (fun hc => ?_) (fun hc => ?_)
        ·
          have q_13 := cond_t q_13 hc
          refine W.quiet (fun w' => Ch [] w_1x w') MX (by kernel_rfl) (Ch.drew [] w_1x) ?_
          refine evq0 (rn_field rfl rfl FO78_0) ?_
          refine evq (fun w' hw => rn_load rfl rfl (run_loadVar1 T43 ((hp.ext hw).cell (i := 2) (off := 0) rfl rfl))) ?_
          refine evq0 (rn_field rfl rfl FO82_1) ?_
          refine evq (fun w' hw => rn_load rfl rfl (run_loadVar1 T3 ((hp.ext hw).cell (i := 3) (off := 1) rfl rfl))) ?_
          obtain ⟨x_1y, q_1z, q_13⟩ := bind_some q_13
          refine evq_index rfl rfl rfl Tryd.underlying43 T3 r_n q_1z ?_
          intro p_20 c_21 d_22 a_23
          obtain rfl : c_21 = [(.int .i64 x_1y)] := d_22
          refine evq (fun w' hw => rn_load rfl rfl (run_loadVar1 T3 ((a_23.step (hp.stp hw)).2 0 _ rfl))) ?_
          intro w_24 hc
          have hs := hp.stp hc
          replace hp := hp.ext hc
          replace r_n := r_n.step hs
          replace r_o := r_o.step hs
          replace o_p := o_p.step hs
          replace o_1d := o_1d.step hs
          replace r_y := r_y.step hs
          replace r_e := r_e.step hs
          replace o_f := o_f.step hs
          replace o_g := o_g.step hs
          obtain rfl := Option.some.inj q_13
          have hp := hp.sel [0, 1, 2, 4, 5, 6] (by decide)
          exact ⟨(x_5.actions, x_5.tests, x_5.status, x_18, x_1y, x_0.nodes, x_0.counters, x_0.active, v_h, v_i, v_j, e_k, v_1a, e_1b, v_9, v_a, e_b, v_c, e_d, I_15), (.c rfl (.c rfl (.c rfl .n))), rfl, hp, r_n, r_o, o_p, o_1d, r_e, o_f, o_g⟩
        ·
          have q_13 := cond_f q_13 hc
          apply go
          obtain rfl := Option.some.inj q_13
          have hp := hp.sel [0, 1, 2, 4, 5, 6] (by decide)
          exact ⟨(x_5.actions, x_5.tests, x_5.status, x_18, 3, x_0.nodes, x_0.counters, x_0.active, v_h, v_i, v_j, e_k, v_1a, e_1b, v_9, v_a, e_b, v_c, e_d, I_15), (.c rfl (.c rfl (.c rfl .n))), rfl, hp, r_n, r_o, o_p, o_1d, r_e, o_f, o_g⟩
    ·
      have q_13 := cond_f q_13 hc
      apply go
      apply go
      apply go
      refine sel_of (fun hc => ?_) (fun hc => ?_)
      ·
        have q_13 := cond_t q_13 hc
        obtain ⟨y_25, q_26, q_13⟩ := bind_some q_13
        refine W.cut (γ := Bool) (fun g => [(1, (.int .i64 x_4)), (2, (.pointer (some ⟨g_6, 0, none⟩))), (7, (.int .i64 3)), (91, (.bool (g)))]) (fun g w' => y_25 = (g) ∧ Hp ⟨w0, I0, B⟩ I0 [e_k, e_m, some (g_6, [v_h, v_i, v_j, v_l], 78), e_b, e_d, some (g_1, [v_9, v_a, v_c], 75)] w' ∧ RepS (dI .i64) w' I0 v_h x_5.actions ∧ RepS dB w' I0 v_i x_5.tests ∧ OwnS (dI .i64) 3 w' I0 v_j e_k x_5.status ∧ OwnS (dI .i64) 3 w' I0 v_l e_m x_5.ticked ∧ RepS dNode_2 w' I0 v_9 x_0.nodes ∧ OwnS (dI .i64) 3 w' I0 v_a e_b x_0.counters ∧ OwnS dB 4 w' I0 v_c e_d x_0.active) ?_ ?_
        ·
          refine W.quiet (fun w' => Ch [] w_11 w') MX (by kernel_rfl) (Ch.drew [] w_11) ?_
          refine evq0 (rn_field rfl rfl FO82_1) ?_
          refine evq (fun w' hw => rn_load rfl rfl (run_loadVar1 T3 ((hp.ext hw).cell (i := 0) (off := 1) rfl rfl))) ?_
          refine evq0 (rn_field rfl rfl FO78_1) ?_
          refine evq (fun w' hw => rn_load rfl rfl (run_loadVar1 T57 ((hp.ext hw).cell (i := 4) (off := 1) rfl rfl))) ?_
          refine evq0 (rn_len rfl rfl Tryd.underlying57 r_o) ?_
          refine sel_of (fun hc => ?_) (fun hc => ?_)
          ·
            have q_26 := cond_t q_26 hc
            refine evq0 (rn_field rfl rfl FO78_1) ?_
            refine evq (fun w' hw => rn_load rfl rfl (run_loadVar1 T57 ((hp.ext hw).cell (i := 4) (off := 1) rfl rfl))) ?_
            refine evq0 (rn_field rfl rfl FO82_1) ?_
            refine evq (fun w' hw => rn_load rfl rfl (run_loadVar1 T3 ((hp.ext hw).cell (i := 0) (off := 1) rfl rfl))) ?_
            obtain ⟨x_27, q_28, q_26⟩ := bind_some q_26
            refine evq_index rfl rfl rfl Tryd.underlying57 T4 r_o q_28 ?_
            intro p_29 c_2a d_2b a_2c
            obtain rfl : c_2a = [(.bool x_27)] := d_2b
            refine evq (fun w' hw => rn_load rfl rfl (run_loadVar1 T4 ((a_2c.step (hp.stp hw)).2 0 _ rfl))) ?_
            intro w_2d hc
            have hs := hp.stp hc
            replace hp := hp.ext hc
            replace r_y := r_y.step hs
            replace r_e := r_e.step hs
            replace o_f := o_f.step hs
            replace o_g := o_g.step hs
            replace r_n := r_n.step hs
            replace r_o := r_o.step hs
            replace o_p := o_p.step hs
            replace o_q := o_q.step hs
            obtain rfl := Option.some.inj q_26
            have hp := hp.perm [5, 6, 4, 2, 3, 1] (by decide)
            exact ⟨x_27, (.c rfl (.c rfl (.c rfl (.c rfl .n)))), rfl, hp, r_n, r_o, o_p, o_q, r_e, o_f, o_g⟩
          ·
            have q_26 := cond_f q_26 hc
            intro w_2e hc
            have hs := hp.stp hc
            replace hp := hp.ext hc
            replace r_y := r_y.step hs
            replace r_e := r_e.step hs
            replace o_f := o_f.step hs
            replace o_g := o_g.step hs
            replace r_n := r_n.step hs
            replace r_o := r_o.step hs
            replace o_p := o_p.step hs
            replace o_q := o_q.step hs
            obtain rfl := Option.some.inj q_26
            have hp := hp.perm [5, 6, 4, 2, 3, 1] (by decide)
            exact ⟨false, (.c rfl (.c rfl (.c rfl (.c rfl .n)))), rfl, hp, r_n, r_o, o_p, o_q, r_e, o_f, o_g⟩
        ·
          rintro x_2f w_2g ⟨hy, hp, r_n, r_o, o_p, o_q, r_e, o_f, o_g⟩
          replace hy := hy.symm
          subst hy
          apply go
          refine sel_of (fun hc => ?_) (fun hc => ?_)
          ·
            have q_13 := cond_t q_13 hc
            apply go
            obtain rfl := Option.some.inj q_13
            exact ⟨(x_5.actions, x_5.tests, x_5.status, x_5.ticked, 2, x_0.nodes, x_0.counters, x_0.active, v_h, v_i, v_j, e_k, v_l, e_m, v_9, v_a, e_b, v_c, e_d, I0), (.c rfl (.c rfl (.c rfl .n))), rfl, hp, r_n, r_o, o_p, o_q, r_e, o_f, o_g⟩
          ·
            have q_13 := cond_f q_13 hc
            apply go
            obtain rfl := Option.some.inj q_13
            exact ⟨(x_5.actions, x_5.tests, x_5.status, x_5.ticked, 3, x_0.nodes, x_0.counters, x_0.active, v_h, v_i, v_j, e_k, v_l, e_m, v_9, v_a, e_b, v_c, e_d, I0), (.c rfl (.c rfl (.c rfl .n))), rfl, hp, r_n, r_o, o_p, o_q, r_e, o_f, o_g⟩
      ·
        have q_13 := cond_f q_13 hc
        apply go
        apply go
        apply go
        refine sel_of (fun hc => ?_) (fun hc => ?_)
        ·
          have q_13 := cond_t q_13 hc
          apply go
          refine ev0 (rn_field rfl rfl FO82_3) ?_
          refine ev (rn_load rfl rfl (run_loadVar1 T43 (hp.cell (i := 0) (off := 3) rfl rfl))) ?_
          obtain ⟨⟨x_2h, x_2i, x_2j⟩, q_2k, q_13⟩ := bind_some q_13
          refine ev_call rfl rfl C40 (((tree_Runner_chain_ok n _ ih) _ _  (Runner.mk x_0.nodes x_0.counters x_0.active) g_1 [some (g_1, [v_9, v_a, v_c], 75), e_b, e_d] ⟨v_9, v_a, e_b, v_c, e_d, rfl, r_e, o_f, o_g⟩ x_r.kids v_x r_y 2 (Tick.mk x_5.actions x_5.tests x_5.status x_5.ticked) g_6 [some (g_6, [v_h, v_i, v_j, v_l], 78), e_k, e_m] ⟨v_h, v_i, v_j, e_k, v_l, e_m, rfl, r_n, r_o, o_p, o_q⟩ (hp.lendL [1, 2, 3, 4, 5, 6] (by decide)) _ q_2k).mono ?_)
          rintro _ w_2l ⟨I_2m, F_2n, F_2o, hv, hq2883, q_2p, q_2q⟩
          replace hv := hv.symm
          subst hv
          obtain ⟨v_2r, v_2s, e_2t, v_2u, e_2v, rfl, r_2w, o_2x, o_2y⟩ := q_2p
          obtain ⟨v_2z, v_30, v_31, e_32, v_33, e_34, rfl, r_35, r_36, o_37, o_38⟩ := q_2q
          have hs := hq2883.st
          have hp := hp.backL [1, 2, 3, 4, 5, 6] [0] (by decide) hq2883
          replace r_y := r_y.step hs
          obtain rfl := Option.some.inj q_13
          have hp := hp.perm [4, 5, 3, 1, 2, 0] (by decide)
          exact ⟨(x_2j.actions, x_2j.tests, x_2j.status, x_2j.ticked, x_2h, x_2i.nodes, x_2i.counters, x_2i.active, v_2z, v_30, v_31, e_32, v_33, e_34, v_2r, v_2s, e_2t, v_2u, e_2v, I_2m), (.c rfl (.c rfl (.c rfl .n))), rfl, hp, r_35, r_36, o_37, o_38, r_2w, o_2x, o_2y⟩
        ·
          have q_13 := cond_f q_13 hc
          apply go
          apply go
          apply go
          refine sel_of (fun hc => ?_) (fun hc => ?_)
          ·
            have q_13 := cond_t q_13 hc
            apply go
            refine ev0 (rn_field rfl rfl FO82_3) ?_
            refine ev (rn_load rfl rfl (run_loadVar1 T43 (hp.cell (i := 0) (off := 3) rfl rfl))) ?_
            obtain ⟨⟨x_39, x_3a, x_3b⟩, q_3c, q_13⟩ := bind_some q_13
            refine ev_call rfl rfl C40 (((tree_Runner_chain_ok n _ ih) _ _  (Runner.mk x_0.nodes x_0.counters x_0.active) g_1 [some (g_1, [v_9, v_a, v_c], 75), e_b, e_d] ⟨v_9, v_a, e_b, v_c, e_d, rfl, r_e, o_f, o_g⟩ x_r.kids v_x r_y 3 (Tick.mk x_5.actions x_5.tests x_5.status x_5.ticked) g_6 [some (g_6, [v_h, v_i, v_j, v_l], 78), e_k, e_m] ⟨v_h, v_i, v_j, e_k, v_l, e_m, rfl, r_n, r_o, o_p, o_q⟩ (hp.lendL [1, 2, 3, 4, 5, 6] (by decide)) _ q_3c).mono ?_)
            rintro _ w_3d ⟨I_3e, F_3f, F_3g, hv, hq2912, q_3h, q_3i⟩
            replace hv := hv.symm
            subst hv
            obtain ⟨v_3j, v_3k, e_3l, v_3m, e_3n, rfl, r_3o, o_3p, o_3q⟩ := q_3h
            obtain ⟨v_3r, v_3s, v_3t, e_3u, v_3v, e_3w, rfl, r_3x, r_3y, o_3z, o_40⟩ := q_3i
            have hs := hq2912.st
            have hp := hp.backL [1, 2, 3, 4, 5, 6] [0] (by decide) hq2912
            replace r_y := r_y.step hs
            obtain rfl := Option.some.inj q_13
            have hp := hp.perm [4, 5, 3, 1, 2, 0] (by decide)
            exact ⟨(x_3b.actions, x_3b.tests, x_3b.status, x_3b.ticked, x_39, x_3a.nodes, x_3a.counters, x_3a.active, v_3r, v_3s, v_3t, e_3u, v_3v, e_3w, v_3j, v_3k, e_3l, v_3m, e_3n, I_3e), (.c rfl (.c rfl (.c rfl .n))), rfl, hp, r_3x, r_3y, o_3z, o_40, r_3o, o_3p, o_3q⟩
          ·
            have q_13 := cond_f q_13 hc
            apply go
            apply go
            apply go
            refine sel_of (fun hc => ?_) (fun hc => ?_)
            ·
              have q_13 := cond_t q_13 hc
              apply go
              refine ev (rn_load rfl rfl (run_loadVarA T82 rfl (hp.at_ (i := 0) rfl))) ?_
              obtain ⟨⟨x_41, x_42, x_43⟩, q_44, q_13⟩ := bind_some q_13
              refine ev_call rfl rfl C41 (((tree_Runner_parallel_ok n _ ih) _ _  (Runner.mk x_0.nodes x_0.counters x_0.active) g_1 [some (g_1, [v_9, v_a, v_c], 75), e_b, e_d] ⟨v_9, v_a, e_b, v_c, e_d, rfl, r_e, o_f, o_g⟩ (Node_2.mk x_r.kind x_r.name x_r.count x_r.kids) v_x r_y (Tick.mk x_5.actions x_5.tests x_5.status x_5.ticked) g_6 [some (g_6, [v_h, v_i, v_j, v_l], 78), e_k, e_m] ⟨v_h, v_i, v_j, e_k, v_l, e_m, rfl, r_n, r_o, o_p, o_q⟩ (hp.lendL [1, 2, 3, 4, 5, 6] (by decide)) _ q_44).mono ?_)
              rintro _ w_45 ⟨I_46, F_47, F_48, hv, hq2941, q_49, q_4a⟩
              replace hv := hv.symm
              subst hv
              obtain ⟨v_4b, v_4c, e_4d, v_4e, e_4f, rfl, r_4g, o_4h, o_4i⟩ := q_49
              obtain ⟨v_4j, v_4k, v_4l, e_4m, v_4n, e_4o, rfl, r_4p, r_4q, o_4r, o_4s⟩ := q_4a
              have hs := hq2941.st
              have hp := hp.backL [1, 2, 3, 4, 5, 6] [0] (by decide) hq2941
              replace r_y := r_y.step hs
              obtain rfl := Option.some.inj q_13
              have hp := hp.perm [4, 5, 3, 1, 2, 0] (by decide)
              exact ⟨(x_43.actions, x_43.tests, x_43.status, x_43.ticked, x_41, x_42.nodes, x_42.counters, x_42.active, v_4j, v_4k, v_4l, e_4m, v_4n, e_4o, v_4b, v_4c, e_4d, v_4e, e_4f, I_46), (.c rfl (.c rfl (.c rfl .n))), rfl, hp, r_4p, r_4q, o_4r, o_4s, r_4g, o_4h, o_4i⟩
            ·
              have q_13 := cond_f q_13 hc
              apply go
              obtain ⟨⟨x_4t, x_4u, x_4v⟩, q_4w, q_13⟩ := bind_some q_13
              refine ev_call rfl rfl C42 (((tree_Runner_decorate_ok n _ ih) _ _  (Runner.mk x_0.nodes x_0.counters x_0.active) g_1 [some (g_1, [v_9, v_a, v_c], 75), e_b, e_d] ⟨v_9, v_a, e_b, v_c, e_d, rfl, r_e, o_f, o_g⟩ x_4 (Tick.mk x_5.actions x_5.tests x_5.status x_5.ticked) g_6 [some (g_6, [v_h, v_i, v_j, v_l], 78), e_k, e_m] ⟨v_h, v_i, v_j, e_k, v_l, e_m, rfl, r_n, r_o, o_p, o_q⟩ (hp.lendL [1, 2, 3, 4, 5, 6] (by decide)) _ q_4w).mono ?_)
              rintro _ w_4x ⟨I_4y, F_4z, F_50, hv, hq2970, q_51, q_52⟩
              replace hv := hv.symm
              subst hv
              obtain ⟨v_53, v_54, e_55, v_56, e_57, rfl, r_58, o_59, o_5a⟩ := q_51
              obtain ⟨v_5b, v_5c, v_5d, e_5e, v_5f, e_5g, rfl, r_5h, r_5i, o_5j, o_5k⟩ := q_52
              have hs := hq2970.st
              have hp := hp.backL [1, 2, 3, 4, 5, 6] [0] (by decide) hq2970
              replace r_y := r_y.step hs
              obtain rfl := Option.some.inj q_13
              have hp := hp.perm [4, 5, 3, 1, 2, 0] (by decide)
              exact ⟨(x_4v.actions, x_4v.tests, x_4v.status, x_4v.ticked, x_4t, x_4u.nodes, x_4u.counters, x_4u.active, v_5b, v_5c, v_5d, e_5e, v_5f, e_5g, v_53, v_54, e_55, v_56, e_57, I_4y), (.c rfl (.c rfl (.c rfl .n))), rfl, hp, r_5h, r_5i, o_5j, o_5k, r_58, o_59, o_5a⟩
  ·
    rintro ⟨x_5l, x_5m, x_5n, x_5o, x_5p, x_5q, x_5r, x_5s, v_5t, v_5u, v_5v, e_5w, v_5x, e_5y, v_5z, v_60, e_61, v_62, e_63, I_64⟩ w_65 ⟨hy, hp, r_66, r_67, o_68, o_69, r_6a, o_6b, o_6c⟩
    replace hy := hy.symm
    subst hy
    apply go
    apply go
    refine ev0 (rn_field rfl rfl FO78_2) ?_
    refine ev (rn_load rfl rfl (run_loadVar1 T43 (hp.cell (i := 2) (off := 2) rfl rfl))) ?_
    obtain ⟨x_6d, q_6e, h⟩ := bind_some h
    refine ev_indexO rfl rfl rfl Tryd.underlying43 T3 o_68 q_6e ?_
    intro g_6f c_6g h_6h d_6i l_6j
    refine ev_storeE hp (i := 0) rfl h_6h rfl rfl rfl T3 o_68 q_6e (x0 := x_5p) rfl ?_
    intro e_6k w_6l hp hs o_6m
    replace r_66 := r_66.step hs
    replace r_67 := r_67.step hs
    replace o_69 := o_69.step hs
    replace r_6a := r_6a.step hs
    replace o_6b := o_6b.step hs
    replace o_6c := o_6c.step hs
    apply go
    apply go
    apply go
    obtain rfl := Option.some.inj h
    have hp := hp.perm [5, 3, 4, 2, 0, 1] (by decide)
    exact ⟨I_64, [some (g_1, [v_5z, v_60, v_62], 75), e_61, e_63], [some (g_6, [v_5t, v_5u, v_5v, v_5x], 78), e_6k, e_5y], rfl, hp, ⟨v_5z, v_60, e_61, v_62, e_63, rfl, r_6a, o_6b, o_6c⟩, ⟨v_5t, v_5u, v_5v, e_6k, v_5x, e_5y, rfl, r_66, r_67, o_6m, o_69⟩⟩
theorem tree_Runner_run_ok : ∀ n, tree_Runner_run_S (tree_Runner_run n)
  | 0 => by intro w0 I0 x_0 g_1 E_2 q_3 x_4 x_5 g_6 E_7 q_8 hp r h; cases h
  | n + 1 => tree_Runner_run_F_ok n _ (tree_Runner_run_ok n)

end Go.Proofs.YtkhmdpekfcahkaaDoor

namespace Go.Proofs.YtkhmdpekfcahkaaDoor
open Go Go.Proofs.YtkhmdpekfcahkaaDoor.Gw Go.RowKit
set_option linter.unusedVariables false
attribute [local irreducible] Ev EvQ EvS EvH vch
def tree_Runner_settle_S (f : Runner → Int → Bool → Tick → Option (Runner × Tick)) : Prop := ∀ (w0 : World) (I0 : Nat → Prop) (x_0 : Runner) (g_1 : Nat) (E_2 : List Ent) (q_3 : qR w0 I0 g_1 E_2 x_0) (x_4 : Int) (x_5 : Bool) (x_6 : Tick) (g_7 : Nat) (E_8 : List Ent) (q_9 : qK w0 I0 g_7 E_8 x_6) (hp : Hp ⟨w0, I0, blks (E_2 ++ E_8)⟩ I0 (E_2 ++ E_8) w0) (r : (Runner × Tick)), f x_0 x_4 x_5 x_6 = some r →
    Ret Tryd.prog 34 #[(.pointer (some ⟨g_1, 0, none⟩)), (.int .i64 x_4), (.bool x_5), (.pointer (some ⟨g_7, 0, none⟩))] w0 fun v w1 => ∃ (I1 : Nat → Prop) (u_a : List Ent) (u_b : List Ent), v = (.tuple #[]) ∧ Hp ⟨w0, I0, blks (E_2 ++ E_8)⟩ I1 (u_a ++ u_b) w1 ∧ qR w1 I1 g_1 u_a r.1 ∧ qK w1 I1 g_7 u_b r.2
theorem tree_Runner_settle_F_ok (n : Nat) (self : Runner → Int → Bool → Tick → Option (Runner × Tick)) (ih : tree_Runner_settle_S self) : tree_Runner_settle_S (tree_Runner_settle_F n self) := by
  intro w0 I0 x_0 g_1 E_2 q_3 x_4 x_5 x_6 g_7 E_8 q_9 hp r h
  unfold tree_Runner_settle_F at h
  refine enter Tryd.func34 rfl (Nat.le_of_ble_eq_true rfl) ?_
  generalize blks (E_2 ++ E_8) = B at hp ⊢
  obtain ⟨v_a, v_b, e_c, v_d, e_e, rfl, r_f, o_g, o_h⟩ := q_3
  obtain ⟨v_i, v_j, v_k, e_l, v_m, e_n, rfl, r_o, r_p, o_q, o_r⟩ := q_9
  have hp : Hp ⟨w0, I0, B⟩ I0 [some (g_1, [v_a, v_b, v_d], 75), e_c, e_e, some (g_7, [v_i, v_j, v_k, v_m], 78), e_l, e_n] w0 := hp
  obtain ⟨y_s, q_t, h⟩ := bind_some h
  refine W.cut (γ := Bool) (fun g => [(0, (.pointer (some ⟨g_1, 0, none⟩))), (1, (.int .i64 x_4)), (2, (.bool (g))), (3, (.pointer (some ⟨g_7, 0, none⟩)))]) (fun g w' => y_s = (g) ∧ w0 = w') ?_ ?_
  ·
    apply go
    refine sel_of (fun hc => ?_) (fun hc => ?_)
    ·
      have q_t := cond_t q_t hc
      refine ev0 (rn_field rfl rfl FO78_2) ?_
      refine ev (rn_load rfl rfl (run_loadVar1 T43 (hp.cell (i := 3) (off := 2) rfl rfl))) ?_
      obtain ⟨x_u, q_v, q_t⟩ := bind_some q_t
      refine ev_indexO rfl rfl rfl Tryd.underlying43 T3 o_q q_v ?_
      intro g_w c_x h_y d_z l_10
      refine ev (rn_load rfl rfl (run_loadVar1 T3 (hp.cellE (i := 4) rfl h_y d_z (j := 0) rfl))) ?_
      obtain rfl := Option.some.inj q_t
      exact ⟨(x_u == 1), (.c rfl (.c rfl (.c rfl (.c rfl .n)))), rfl, rfl⟩
    ·
      have q_t := cond_f q_t hc
      obtain rfl := Option.some.inj q_t
      exact ⟨false, (.c rfl (.c rfl (.c rfl (.c rfl .n)))), rfl, rfl⟩
  ·
    rintro x_11 _ ⟨hy, rfl⟩
    replace hy := hy.symm
    subst hy
    obtain ⟨y_12, q_13, h⟩ := bind_some h
    refine W.cut (γ := ((List Int) × Ent)) (fun g => [(0, (.pointer (some ⟨g_1, 0, none⟩))), (1, (.int .i64 x_4)), (2, (.bool x_11)), (3, (.pointer (some ⟨g_7, 0, none⟩)))]) (fun g w' => y_12 = (g.1) ∧ Hp ⟨w0, I0, B⟩ I0 [(g.2), e_e, some (g_1, [v_a, v_b, v_d], 75), e_l, e_n, some (g_7, [v_i, v_j, v_k, v_m], 78)] w' ∧ RepS dNode_2 w' I0 v_a x_0.nodes ∧ OwnS (dI .i64) 3 w' I0 v_b (g.2) (g.1) ∧ OwnS dB 4 w' I0 v_d e_e x_0.active ∧ RepS (dI .i64) w' I0 v_i x_6.actions ∧ RepS dB w' I0 v_j x_6.tests ∧ OwnS (dI .i64) 3 w' I0 v_k e_l x_6.status ∧ OwnS (dI .i64) 3 w' I0 v_m e_n x_6.ticked) ?_ ?_
    ·
      apply go
      apply go
      apply go
      refine sel_of (fun hc => ?_) (fun hc => ?_)
      ·
        have q_13 := cond_t q_13 hc
        apply go
        refine ev0 (rn_field rfl rfl FO75_1) ?_
        refine ev (rn_load rfl rfl (run_loadVar1 T43 (hp.cell (i := 0) (off := 1) rfl rfl))) ?_
        obtain ⟨x_14, q_15, q_13⟩ := bind_some q_13
        refine ev_indexO rfl rfl rfl Tryd.underlying43 T3 o_g q_15 ?_
        intro g_16 c_17 h_18 d_19 l_1a
        refine ev_storeE hp (i := 1) rfl h_18 rfl rfl rfl T3 o_g q_15 (x0 := 0) rfl ?_
        intro e_1b w_1c hp hs o_1d
        replace r_f := r_f.step hs
        replace o_h := o_h.step hs
        replace r_o := r_o.step hs
        replace r_p := r_p.step hs
        replace o_q := o_q.step hs
        replace o_r := o_r.step hs
        obtain rfl := Option.some.inj q_13
        have hp := hp.perm [1, 2, 0, 4, 5, 3] (by decide)
        exact ⟨((upd x_0.counters x_4 0), e_1b), (.c rfl (.c rfl (.c rfl (.c rfl .n)))), rfl, hp, r_f, o_1d, o_h, r_o, r_p, o_q, o_r⟩
      ·
        have q_13 := cond_f q_13 hc
        apply go
        obtain rfl := Option.some.inj q_13
        have hp := hp.perm [1, 2, 0, 4, 5, 3] (by decide)
        exact ⟨(x_0.counters, e_c), (.c rfl (.c rfl (.c rfl (.c rfl .n)))), rfl, hp, r_f, o_g, o_h, r_o, r_p, o_q, o_r⟩
    ·
      rintro ⟨x_1e, e_1f⟩ w_1g ⟨hy, hp, r_f, o_1h, o_h, r_o, r_p, o_q, o_r⟩
      replace hy := hy.symm
      subst hy
      obtain ⟨y_1i, q_1j, h⟩ := bind_some h
      refine W.cut (γ := ((List Bool) × Ent)) (fun g => [(0, (.pointer (some ⟨g_1, 0, none⟩))), (1, (.int .i64 x_4)), (2, (.bool x_11)), (3, (.pointer (some ⟨g_7, 0, none⟩)))]) (fun g w' => y_1i = (g.1) ∧ Hp ⟨w0, I0, B⟩ I0 [e_1f, (g.2), some (g_1, [v_a, v_b, v_d], 75), e_l, e_n, some (g_7, [v_i, v_j, v_k, v_m], 78)] w' ∧ RepS dNode_2 w' I0 v_a x_0.nodes ∧ OwnS (dI .i64) 3 w' I0 v_b e_1f x_1e ∧ OwnS dB 4 w' I0 v_d (g.2) (g.1) ∧ RepS (dI .i64) w' I0 v_i x_6.actions ∧ RepS dB w' I0 v_j x_6.tests ∧ OwnS (dI .i64) 3 w' I0 v_k e_l x_6.status ∧ OwnS (dI .i64) 3 w' I0 v_m e_n x_6.ticked) ?_ ?_
      ·
        have hs := hp.stp (Ch.drew [] w_1g)
        have hp := hp.drew
        replace r_f := r_f.step hs
        replace o_1h := o_1h.step hs
        replace o_h := o_h.step hs
        replace r_o := r_o.step hs
        replace r_p := r_p.step hs
        replace o_q := o_q.step hs
        replace o_r := o_r.step hs
        refine W.heldT [(0, true), (1, true), (2, true), (3, true), (4, true), (5, true), (6, true), (7, true), (8, true), (9, true), (10, true), (11, true), (12, true), (13, true), (14, true), (15, true), (16, true), (17, true), (18, false)] (fun x => Stp I0 w_1g.drew I0 x ∧ OwnK [(g_1, [v_a, v_b, v_d], 75)] x) MX (by kernel_rfl) ⟨Stp.refl _ _, (OwnK.cons (hp.own 2 _ _ _ rfl).1 OwnK.nil)⟩ ?_
        have hz := Stp.refl I0 w_1g.drew
        intro ops hops
        have e0 : nthO ops 0 = some _ := (hops 0).trans rfl
        have e1 : nthO ops 1 = some _ := (hops 1).trans rfl
        have e2 : nthO ops 2 = some _ := (hops 2).trans rfl
        have e3 : nthO ops 3 = some _ := (hops 3).trans rfl
        have e4 : nthO ops 4 = some _ := (hops 4).trans rfl
        have e5 : nthO ops 5 = some _ := (hops 5).trans rfl
        have e6 : nthO ops 6 = some _ := (hops 6).trans rfl
        have e7 : nthO ops 7 = some _ := (hops 7).trans rfl
        have e8 : nthO ops 8 = some _ := (hops 8).trans rfl
        have e9 : nthO ops 9 = some _ := (hops 9).trans rfl
        have e10 : nthO ops 10 = some _ := (hops 10).trans rfl
        have e11 : nthO ops 11 = some _ := (hops 11).trans rfl
        have e12 : nthO ops 12 = some _ := (hops 12).trans rfl
        have e13 : nthO ops 13 = some _ := (hops 13).trans rfl
        have e14 : nthO ops 14 = some _ := (hops 14).trans rfl
        have e15 : nthO ops 15 = some _ := (hops 15).trans rfl
        have e16 : nthO ops 16 = some _ := (hops 16).trans rfl
        have e17 : nthO ops 17 = some _ := (hops 17).trans rfl
        have e18 : nthO ops 18 = some _ := (hops 18).trans rfl
        clear hops
        refine vch_q e0 rfl ?_
        refine vch_q e1 rfl ?_
        refine vch_q e2 rfl ?_
        refine evh0 (rn_field rfl rfl FO75_2) ?_
        refine vch_q e3 rfl ?_
        refine evh (fun w' hw => rn_load rfl rfl (run_loadVar1 T57 (hw.2.cell (i := 0) (off := 2) rfl rfl))) ?_
        refine vch_q e4 rfl ?_
        refine vch_q e5 rfl ?_
        refine vch_q e6 rfl ?_
        rcases Bool.eq_false_or_eq_true x_11 with hc | hc
        ·
          have q_1j := cond_t q_1j hc
          refine vch_qt e7 rfl e6 rfl rfl hc ?_
          refine vch_qt e8 rfl e6 rfl rfl rfl ?_
          refine vch_qt e9 rfl e6 rfl rfl rfl ?_
          refine evh0 (rn_field rfl rfl FO75_0) ?_
          refine vch_qt e10 rfl e6 rfl rfl rfl ?_
          refine evh (fun w' hw => rn_load rfl rfl (run_loadVar1 T73 (hw.2.cell (i := 0) (off := 0) rfl rfl))) ?_
          refine vch_qt e11 rfl e6 rfl rfl rfl ?_
          refine vch_qt e12 rfl e6 rfl rfl rfl ?_
          obtain ⟨x_1k, q_1l, q_1j⟩ := bind_some q_1j
          refine evh_index rfl rfl rfl Tryd.underlying73 T82 r_f q_1l ?_
          intro p_1m c_1n d_1o a_1p
          obtain ⟨v_1q, rfl, r_1r⟩ := dNode_2_o d_1o
          refine vch_qt e13 rfl e6 rfl rfl rfl ?_
          refine evh0 (rn_field rfl rfl FO82_0) ?_
          refine vch_qt e14 rfl e6 rfl rfl rfl ?_
          refine evh (fun w' hw => rn_load rfl rfl (run_loadVar1 T3 ((a_1p.step hw.1).2 0 _ rfl))) ?_
          refine vch_qt e15 rfl e6 rfl rfl rfl ?_
          refine vch_q e16 rfl ?_
          refine vch_q e17 rfl ?_
          obtain ⟨x_1s, q_1t, q_1j⟩ := bind_some q_1j
          refine evh_indexO rfl rfl rfl Tryd.underlying57 T4 o_h q_1t ?_
          intro g_1u c_1v h_1w d_1x l_1y
          refine vch_l e18 rfl ?_
          refine ev_storeE hp (i := 1) rfl h_1w rfl rfl rfl T4 o_h q_1t (x0 := (x_1k.kind == 1)) rfl ?_
          intro e_1z w_20 hp hs o_21
          replace hz := hz.trans hs
          replace r_f := r_f.step hs
          replace o_1h := o_1h.step hs
          replace r_o := r_o.step hs
          replace r_p := r_p.step hs
          replace o_q := o_q.step hs
          replace o_r := o_r.step hs
          refine ⟨fun x => Stp I0 w_20 I0 x ∧ OwnK [(g_1, [v_a, v_b, v_d], 75)] x, ⟨Stp.refl _ _, (OwnK.cons (hp.own 2 _ _ _ rfl).1 OwnK.nil)⟩, fun x hx => ⟨hz.held hx.1, hx.2⟩, ?_⟩
          have hz := Stp.refl I0 w_20
          refine vch_end ?_
          obtain rfl := Option.some.inj q_1j
          exact ⟨((upd x_0.active x_4 (x_1k.kind == 1)), e_1z), (.c rfl (.c rfl (.c rfl (.c rfl .n)))), rfl, hp, r_f, o_1h, o_21, r_o, r_p, o_q, o_r⟩
        ·
          have q_1j := cond_f q_1j hc
          refine vch_qf e7 rfl e6 rfl rfl hc ?_
          refine vch_qf e8 rfl e6 rfl rfl rfl ?_
          refine vch_qf e9 rfl e6 rfl rfl rfl ?_
          refine vch_qf e10 rfl e6 rfl rfl rfl ?_
          refine vch_qf e11 rfl e6 rfl rfl rfl ?_
          refine vch_qf e12 rfl e6 rfl rfl rfl ?_
          refine vch_qf e13 rfl e6 rfl rfl rfl ?_
          refine vch_qf e14 rfl e6 rfl rfl rfl ?_
          refine vch_qf e15 rfl e6 rfl rfl rfl ?_
          refine vch_q e16 rfl ?_
          refine vch_q e17 rfl ?_
          obtain ⟨x_22, q_23, q_1j⟩ := bind_some q_1j
          refine evh_indexO rfl rfl rfl Tryd.underlying57 T4 o_h q_23 ?_
          intro g_24 c_25 h_26 d_27 l_28
          refine vch_l e18 rfl ?_
          refine ev_storeE hp (i := 1) rfl h_26 rfl rfl rfl T4 o_h q_23 (x0 := false) rfl ?_
          intro e_29 w_2a hp hs o_2b
          replace hz := hz.trans hs
          replace r_f := r_f.step hs
          replace o_1h := o_1h.step hs
          replace r_o := r_o.step hs
          replace r_p := r_p.step hs
          replace o_q := o_q.step hs
          replace o_r := o_r.step hs
          refine ⟨fun x => Stp I0 w_2a I0 x ∧ OwnK [(g_1, [v_a, v_b, v_d], 75)] x, ⟨Stp.refl _ _, (OwnK.cons (hp.own 2 _ _ _ rfl).1 OwnK.nil)⟩, fun x hx => ⟨hz.held hx.1, hx.2⟩, ?_⟩
          have hz := Stp.refl I0 w_2a
          refine vch_end ?_
          obtain rfl := Option.some.inj q_1j
          exact ⟨((upd x_0.active x_4 false), e_29), (.c rfl (.c rfl (.c rfl (.c rfl .n)))), rfl, hp, r_f, o_1h, o_2b, r_o, r_p, o_q, o_r⟩
      ·
        rintro ⟨x_2c, e_2d⟩ w_2e ⟨hy, hp, r_f, o_1h, o_2f, r_o, r_p, o_q, o_r⟩
        replace hy := hy.symm
        subst hy
        apply go
        apply go
        refine ev0 (rn_field rfl rfl FO75_0) ?_
        refine ev (rn_load rfl rfl (run_loadVar1 T73 (hp.cell (i := 2) (off := 0) rfl rfl))) ?_
        obtain ⟨x_2g, q_2h, h⟩ := bind_some h
        refine ev_index rfl rfl rfl Tryd.underlying73 T82 r_f q_2h ?_
        intro p_2i c_2j d_2k a_2l
        obtain ⟨v_2m, rfl, r_2n⟩ := dNode_2_o d_2k
        refine ev0 (rn_field rfl rfl FO82_3) ?_
        refine ev (rn_load rfl rfl (run_loadVar1 T43 (a_2l.2 3 _ rfl))) ?_
        refine ev0 (rn_len rfl rfl Tryd.underlying43 r_2n) ?_
        apply go
        refine W.loop h (γ := (Value × Value × Ent × Value × Ent × Value × Value × Value × Ent × Value × Ent × (Nat → Prop))) (fun s g => [(0, (.pointer (some ⟨g_1, 0, none⟩))), (2, (.bool x_11)), (3, (.pointer (some ⟨g_7, 0, none⟩))), (54, v_2m), (55, (.int .i64 (x_2g.kids.length : Int))), (56, (.int .i64 (s.2.2.2.2.2.2.2)))]) (fun s g w' => Hp ⟨w0, I0, B⟩ (g.2.2.2.2.2.2.2.2.2.2.2) [(g.2.2.1), (g.2.2.2.2.1), some (g_1, [(g.1), (g.2.1), (g.2.2.2.1)], 75), (g.2.2.2.2.2.2.2.2.1), (g.2.2.2.2.2.2.2.2.2.2.1), some (g_7, [(g.2.2.2.2.2.1), (g.2.2.2.2.2.2.1), (g.2.2.2.2.2.2.2.1), (g.2.2.2.2.2.2.2.2.2.1)], 78)] w' ∧ RepS dNode_2 w' (g.2.2.2.2.2.2.2.2.2.2.2) (g.1) (s.1) ∧ OwnS (dI .i64) 3 w' (g.2.2.2.2.2.2.2.2.2.2.2) (g.2.1) (g.2.2.1) (s.2.1) ∧ OwnS dB 4 w' (g.2.2.2.2.2.2.2.2.2.2.2) (g.2.2.2.1) (g.2.2.2.2.1) (s.2.2.1) ∧ RepS (dI .i64) w' (g.2.2.2.2.2.2.2.2.2.2.2) (g.2.2.2.2.2.1) (s.2.2.2.1) ∧ RepS dB w' (g.2.2.2.2.2.2.2.2.2.2.2) (g.2.2.2.2.2.2.1) (s.2.2.2.2.1) ∧ OwnS (dI .i64) 3 w' (g.2.2.2.2.2.2.2.2.2.2.2) (g.2.2.2.2.2.2.2.1) (g.2.2.2.2.2.2.2.2.1) (s.2.2.2.2.2.1) ∧ OwnS (dI .i64) 3 w' (g.2.2.2.2.2.2.2.2.2.2.2) (g.2.2.2.2.2.2.2.2.2.1) (g.2.2.2.2.2.2.2.2.2.2.1) (s.2.2.2.2.2.2.1) ∧ RepS (dI .i64) w' (g.2.2.2.2.2.2.2.2.2.2.2) v_2m x_2g.kids) (v_a, v_b, e_1f, v_d, e_2d, v_i, v_j, v_k, e_l, v_m, e_n, I0) (.c rfl (.c rfl (.c rfl (.c rfl (.c rfl (.c rfl .n)))))) ⟨hp, r_f, o_1h, o_2f, r_o, r_p, o_q, o_r, r_2n⟩ ?_
        rintro ⟨x_2o, x_2p, x_2q, x_2r, x_2s, x_2t, x_2u, x_2v⟩ ⟨v_2w, v_2x, e_2y, v_2z, e_30, v_31, v_32, v_33, e_34, v_35, e_36, I_37⟩ w_38 y_39 ⟨hp, r_3a, o_3b, o_3c, r_3d, r_3e, o_3f, o_3g, r_2n⟩ q_3h q_3i
        unfold tree_Runner_settle_L0 at q_3h
        apply go
        apply go
        apply go
        apply go
        refine sel_of (fun hc => ?_) (fun hc => ?_)
        ·
          have q_3h := cond_t q_3h hc
          apply go
          apply go
          apply go
          apply go
          apply go
          obtain ⟨x_3j, q_3k, q_3h⟩ := bind_some q_3h
          refine ev_index rfl rfl rfl Tryd.underlying43 T3 r_2n q_3k ?_
          intro p_3l c_3m d_3n a_3o
          obtain rfl : c_3m = [(.int .i64 x_3j)] := d_3n
          refine ev (rn_load rfl rfl (run_loadVar1 T3 (a_3o.2 0 _ rfl))) ?_
          apply go
          obtain ⟨⟨x_3p, x_3q⟩, q_3r, q_3h⟩ := bind_some q_3h
          refine ev_call rfl rfl C34 ((ih _ _  (Runner.mk x_2o x_2p x_2q) g_1 [some (g_1, [v_2w, v_2x, v_2z], 75), e_2y, e_30] ⟨v_2w, v_2x, e_2y, v_2z, e_30, rfl, r_3a, o_3b, o_3c⟩ x_3j x_11 (Tick.mk x_2r x_2s x_2t x_2u) g_7 [some (g_7, [v_31, v_32, v_33, v_35], 78), e_34, e_36] ⟨v_31, v_32, v_33, e_34, v_35, e_36, rfl, r_3d, r_3e, o_3f, o_3g⟩ (hp.lendL [2, 0, 1, 5, 3, 4] (by decide)) _ q_3r).mono ?_)
          rintro _ w_3s ⟨I_3t, F_3u, F_3v, hv, hq3376, q_3w, q_3x⟩
          replace hv := hv.symm
          subst hv
          obtain ⟨v_3y, v_3z, e_40, v_41, e_42, rfl, r_43, o_44, o_45⟩ := q_3w
          obtain ⟨v_46, v_47, v_48, e_49, v_4a, e_4b, rfl, r_4c, r_4d, o_4e, o_4f⟩ := q_3x
          have hs := hq3376.st
          have hp := hp.backL [2, 0, 1, 5, 3, 4] [] (by decide) hq3376
          replace r_2n := r_2n.step hs
          apply go
          have hp := hp.perm [1, 2, 0, 4, 5, 3] (by decide)
          exact ⟨_, (Option.some.inj q_3h).symm, (v_3y, v_3z, e_40, v_41, e_42, v_46, v_47, v_48, e_49, v_4a, e_4b, I_3t), (.c rfl (.c rfl (.c rfl (.c rfl (.c rfl (.c rfl .n)))))), ⟨hp, r_43, o_44, o_45, r_4c, r_4d, o_4e, o_4f, r_2n⟩⟩
        ·
          have q_3h := cond_f q_3h hc
          apply go
          have q_4g := congrArg some (q_3i _ (Option.some.inj q_3h).symm)
          obtain rfl := Option.some.inj q_4g
          have hp := hp.perm [2, 0, 1, 5, 3, 4] (by decide)
          exact ⟨I_37, [some (g_1, [v_2w, v_2x, v_2z], 75), e_2y, e_30], [some (g_7, [v_31, v_32, v_33, v_35], 78), e_34, e_36], rfl, hp, ⟨v_2w, v_2x, e_2y, v_2z, e_30, rfl, r_3a, o_3b, o_3c⟩, ⟨v_31, v_32, v_33, e_34, v_35, e_36, rfl, r_3d, r_3e, o_3f, o_3g⟩⟩
theorem tree_Runner_settle_ok : ∀ n, tree_Runner_settle_S (tree_Runner_settle n)
  | 0 => by intro w0 I0 x_0 g_1 E_2 q_3 x_4 x_5 x_6 g_7 E_8 q_9 hp r h; cases h
  | n + 1 => tree_Runner_settle_F_ok n _ (tree_Runner_settle_ok n)

end Go.Proofs.YtkhmdpekfcahkaaDoor

namespace Go.Proofs.YtkhmdpekfcahkaaDoor
open Go Go.Proofs.YtkhmdpekfcahkaaDoor.Gw Go.RowKit
set_option linter.unusedVariables false
attribute [local irreducible] Ev EvQ EvS EvH
def tree_Runner_Tick_S (f : Runner → (List Int) → (List Bool) → Option (Int × (List Int) × (List Int) × Runner)) : Prop := ∀ (w0 : World) (I0 : Nat → Prop) (x_0 : Runner) (g_1 : Nat) (E_2 : List Ent) (q_3 : qR w0 I0 g_1 E_2 x_0) (x_4 : (List Int)) (v_5 : Value) (r_6 : RepS (dI .i64) w0 I0 v_5 x_4) (x_7 : (List Bool)) (v_8 : Value) (r_9 : RepS dB w0 I0 v_8 x_7) (hp : Hp ⟨w0, I0, blks E_2⟩ I0 E_2 w0) (r : (Int × (List Int) × (List Int) × Runner)), f x_0 x_4 x_7 = some r →
    Ret Tryd.prog 21 #[(.pointer (some ⟨g_1, 0, none⟩)), v_5, v_8] w0 fun v w1 => ∃ (I1 : Nat → Prop) (u_a : Value) (u_b : Value) (u_c : List Ent), v = (.tuple #[(.int .i64 r.1), u_a, u_b]) ∧ Hp ⟨w0, I0, blks E_2⟩ I1 u_c w1 ∧ RepS (dI .i64) w1 I1 u_a r.2.1 ∧ RepS (dI .i64) w1 I1 u_b r.2.2.1 ∧ qR w1 I1 g_1 u_c r.2.2.2
theorem tree_Runner_Tick_ok (n : Nat) : tree_Runner_Tick_S (tree_Runner_Tick n) := by
  intro w0 I0 x_0 g_1 E_2 q_3 x_4 v_5 r_6 x_7 v_8 r_9 hp r h
  unfold tree_Runner_Tick at h
  refine enter Tryd.func21 rfl (Nat.le_of_ble_eq_true rfl) ?_
  generalize blks E_2 = B at hp ⊢
  obtain ⟨v_a, v_b, e_c, v_d, e_e, rfl, r_f, o_g, o_h⟩ := q_3
  have hp : Hp ⟨w0, I0, B⟩ I0 [some (g_1, [v_a, v_b, v_d], 75), e_c, e_e] w0 := hp
  apply go
  apply go
  apply go
  apply go
  apply go
  refine ev0 (rn_eqNilP rfl rfl rfl Tryd.underlying54 (b := false) rfl) ?_
  apply go
  apply go
  apply go
  apply go
  refine ev0 (rn_field rfl rfl FO75_0) ?_
  refine ev (rn_load rfl rfl (run_loadVar1 T73 (hp.cell (i := 0) (off := 0) rfl rfl))) ?_
  refine ev0 (rn_len rfl rfl Tryd.underlying73 r_f) ?_
  obtain ⟨x_i, q_j, h⟩ := bind_some h
  refine ev_make (d := (dI .i64)) (x0 := 0) hp rfl rfl rfl Tryd.underlying43 T3 (fun _ _ => rfl) (Nat.le_of_ble_eq_true rfl) q_j ?_
  intro v_k e_l w_m hp hs o_n
  replace r_6 := r_6.step hs
  replace r_9 := r_9.step hs
  replace r_f := r_f.step hs
  replace o_g := o_g.step hs
  replace o_h := o_h.step hs
  obtain ⟨A_o, m_p, m_q, rfl⟩ := r_6.isSl
  obtain ⟨A_r, m_s, m_t, rfl⟩ := r_9.isSl
  obtain ⟨A_u, m_v, m_w, rfl⟩ := o_n.isSl
  refine ev0 (fun w => rn_build (cs := [(.slice A_o m_p m_q), (.slice A_r m_s m_t), (.slice A_u m_v m_w), (.slice none 0 0)]) rfl rfl T78 PL78 rfl) ?_
  refine ev_box hp rfl rfl ?_
  intro g_x w_y hp hs
  replace r_6 := r_6.step hs
  replace r_9 := r_9.step hs
  replace o_n := o_n.step hs
  replace r_f := r_f.step hs
  replace o_g := o_g.step hs
  replace o_h := o_h.step hs
  apply go
  apply go
  have hp := hp.none_
  have o_z := OwnS.nil (dI .i64) 3 w_y I0
  obtain ⟨⟨x_10, x_11, x_12⟩, q_13, h⟩ := bind_some h
  refine ev_call rfl rfl C33 (((tree_Runner_run_ok n) _ _  (Runner.mk x_0.nodes x_0.counters x_0.active) g_1 [some (g_1, [v_a, v_b, v_d], 75), e_c, e_e] ⟨v_a, v_b, e_c, v_d, e_e, rfl, r_f, o_g, o_h⟩ 0 (Tick.mk x_4 x_7 x_i []) g_x [some (g_x, [(.slice A_o m_p m_q), (.slice A_r m_s m_t), (.slice A_u m_v m_w), (.slice none 0 0)], 78), e_l, none] ⟨(.slice A_o m_p m_q), (.slice A_r m_s m_t), (.slice A_u m_v m_w), e_l, (.slice none 0 0), none, rfl, r_6, r_9, o_n, o_z⟩ (hp.lendL [3, 4, 5, 1, 2, 0] (by decide)) _ q_13).mono ?_)
  rintro _ w_14 ⟨I_15, F_16, F_17, hv, hq3448, q_18, q_19⟩
  replace hv := hv.symm
  subst hv
  obtain ⟨v_1a, v_1b, e_1c, v_1d, e_1e, rfl, r_1f, o_1g, o_1h⟩ := q_18
  obtain ⟨v_1i, v_1j, v_1k, e_1l, v_1m, e_1n, rfl, r_1o, r_1p, o_1q, o_1r⟩ := q_19
  have hs := hq3448.st
  have hp := hp.backL [3, 4, 5, 1, 2, 0] [] (by decide) hq3448
  apply go
  apply go
  refine ev0 (rn_field rfl rfl FO75_2) ?_
  refine ev (rn_load rfl rfl (run_loadVar1 T57 (hp.cell (i := 0) (off := 2) rfl rfl))) ?_
  obtain ⟨⟨x_1s, x_1t⟩, q_1u, h⟩ := bind_some h
  refine ev_call rfl rfl C22 (((slices_Clonebool_bool__ok n) _ _  x_11.active v_1d e_1e o_1h (hp.lendL [2] (by decide)) _ q_1u).mono ?_)
  rintro _ w_1v ⟨I_1w, v_1x, e_1y, e_1z, hv, hq3477, o_20, o_21⟩
  replace hv := hv.symm
  subst hv
  have hs := hq3477.st
  have hp := hp.backL [2] [0, 1, 3, 4, 5] (by decide) hq3477
  replace r_1f := r_1f.step hs
  replace o_1g := o_1g.step hs
  replace r_1o := r_1o.step hs
  replace r_1p := r_1p.step hs
  replace o_1q := o_1q.step hs
  replace o_1r := o_1r.step hs
  apply go
  apply go
  obtain ⟨⟨x_22, x_23⟩, q_24, h⟩ := bind_some h
  refine ev_call rfl rfl C34 (((tree_Runner_settle_ok n) _ _  (Runner.mk x_11.nodes x_11.counters x_1t) g_1 [some (g_1, [v_1a, v_1b, v_1d], 75), e_1c, e_1z] ⟨v_1a, v_1b, e_1c, v_1d, e_1z, rfl, r_1f, o_1g, o_21⟩ 0 true (Tick.mk x_12.actions x_12.tests x_12.status x_12.ticked) g_x [some (g_x, [v_1i, v_1j, v_1k, v_1m], 78), e_1l, e_1n] ⟨v_1i, v_1j, v_1k, e_1l, v_1m, e_1n, rfl, r_1o, r_1p, o_1q, o_1r⟩ (hp.lendL [2, 3, 1, 4, 5, 6] (by decide)) _ q_24).mono ?_)
  rintro _ w_25 ⟨I_26, F_27, F_28, hv, hq3487, q_29, q_2a⟩
  replace hv := hv.symm
  subst hv
  obtain ⟨v_2b, v_2c, e_2d, v_2e, e_2f, rfl, r_2g, o_2h, o_2i⟩ := q_29
  obtain ⟨v_2j, v_2k, v_2l, e_2m, v_2n, e_2o, rfl, r_2p, r_2q, o_2r, o_2s⟩ := q_2a
  have hs := hq3487.st
  have hp := hp.backL [2, 3, 1, 4, 5, 6] [0] (by decide) hq3487
  replace o_20 := o_20.step hs
  apply go
  apply go
  obtain ⟨y_2t, q_2u, h⟩ := bind_some h
  refine W.cut (γ := ((List Int) × Value × Ent × (Nat → Prop))) (fun g => [(9, (.pointer (some ⟨g_x, 0, none⟩))), (10, (.int .i64 x_10)), (12, (g.2.1))]) (fun g w' => y_2t = (g.1) ∧ Hp ⟨w0, I0, B⟩ (g.2.2.2) [e_2m, e_2o, some (g_x, [v_2j, v_2k, v_2l, v_2n], 78), (g.2.2.1), e_2d, e_2f, some (g_1, [v_2b, v_2c, v_2e], 75)] w' ∧ RepS (dI .i64) w' (g.2.2.2) v_2j x_23.actions ∧ RepS dB w' (g.2.2.2) v_2k x_23.tests ∧ OwnS (dI .i64) 3 w' (g.2.2.2) v_2l e_2m x_23.status ∧ OwnS (dI .i64) 3 w' (g.2.2.2) v_2n e_2o x_23.ticked ∧ OwnS (dI .i64) 3 w' (g.2.2.2) (g.2.1) (g.2.2.1) (g.1) ∧ RepS dNode_2 w' (g.2.2.2) v_2b x_22.nodes ∧ OwnS (dI .i64) 3 w' (g.2.2.2) v_2c e_2d x_22.counters ∧ OwnS dB 4 w' (g.2.2.2) v_2e e_2f x_22.active) ?_ ?_
  ·
    apply go
    apply go
    refine ev0 (rn_field rfl rfl FO75_0) ?_
    refine ev (rn_load rfl rfl (run_loadVar1 T73 (hp.cell (i := 0) (off := 0) rfl rfl))) ?_
    refine ev0 (rn_len rfl rfl Tryd.underlying73 r_2g) ?_
    apply go
    have hp := hp.none_
    have o_2v := OwnS.nil (dI .i64) 3 w_25 I_26
    have hp := hp.perm [2, 3, 1, 5, 6, 4, 7, 0] (by decide)
    refine W.loop q_2u (γ := (Value × Ent × (Nat → Prop))) (fun s g => [(0, (.pointer (some ⟨g_1, 0, none⟩))), (9, (.pointer (some ⟨g_x, 0, none⟩))), (10, (.int .i64 x_10)), (11, v_1x), (12, (g.1)), (41, v_2b), (42, (.int .i64 (x_22.nodes.length : Int))), (43, (.int .i64 (s.2)))]) (fun s g w' => Hp ⟨w0, I0, B⟩ (g.2.2) [e_2d, e_2f, some (g_1, [v_2b, v_2c, v_2e], 75), e_2m, e_2o, some (g_x, [v_2j, v_2k, v_2l, v_2n], 78), e_1y, (g.2.1)] w' ∧ RepS dNode_2 w' (g.2.2) v_2b x_22.nodes ∧ OwnS (dI .i64) 3 w' (g.2.2) v_2c e_2d x_22.counters ∧ OwnS dB 4 w' (g.2.2) v_2e e_2f x_22.active ∧ RepS (dI .i64) w' (g.2.2) v_2j x_23.actions ∧ RepS dB w' (g.2.2) v_2k x_23.tests ∧ OwnS (dI .i64) 3 w' (g.2.2) v_2l e_2m x_23.status ∧ OwnS (dI .i64) 3 w' (g.2.2) v_2n e_2o x_23.ticked ∧ OwnS dB 4 w' (g.2.2) v_1x e_1y x_1s ∧ OwnS (dI .i64) 3 w' (g.2.2) (g.1) (g.2.1) (s.1)) ((.slice none 0 0), none, I_26) (.c rfl (.c rfl (.c rfl (.c rfl (.c rfl (.c rfl (.c rfl (.c rfl .n)))))))) ⟨hp, r_2g, o_2h, o_2i, r_2p, r_2q, o_2r, o_2s, o_20, o_2v⟩ ?_
    rintro ⟨x_2w, x_2x⟩ ⟨v_2y, e_2z, I_30⟩ w_31 y_32 ⟨hp, r_2g, o_2h, o_2i, r_2p, r_2q, o_2r, o_2s, o_20, o_33⟩ q_34 q_35
    unfold tree_Runner_Tick_L1 at q_34
    apply go
    apply go
    apply go
    apply go
    refine sel_of (fun hc => ?_) (fun hc => ?_)
    ·
      have q_34 := cond_t q_34 hc
      apply go
      obtain ⟨y_36, q_37, q_34⟩ := bind_some q_34
      refine W.cut (γ := ((List Int) × Value × Ent × (Nat → Prop))) (fun g => [(0, (.pointer (some ⟨g_1, 0, none⟩))), (9, (.pointer (some ⟨g_x, 0, none⟩))), (10, (.int .i64 x_10)), (11, v_1x), (12, (g.2.1)), (41, v_2b), (42, (.int .i64 (x_22.nodes.length : Int))), (43, (.int .i64 x_2x))]) (fun g w' => y_36 = (g.1) ∧ Hp ⟨w0, I0, B⟩ (g.2.2.2) [e_2d, e_2f, some (g_1, [v_2b, v_2c, v_2e], 75), e_2m, e_2o, some (g_x, [v_2j, v_2k, v_2l, v_2n], 78), e_1y, (g.2.2.1)] w' ∧ RepS dNode_2 w' (g.2.2.2) v_2b x_22.nodes ∧ OwnS (dI .i64) 3 w' (g.2.2.2) v_2c e_2d x_22.counters ∧ OwnS dB 4 w' (g.2.2.2) v_2e e_2f x_22.active ∧ RepS (dI .i64) w' (g.2.2.2) v_2j x_23.actions ∧ RepS dB w' (g.2.2.2) v_2k x_23.tests ∧ OwnS (dI .i64) 3 w' (g.2.2.2) v_2l e_2m x_23.status ∧ OwnS (dI .i64) 3 w' (g.2.2.2) v_2n e_2o x_23.ticked ∧ OwnS dB 4 w' (g.2.2.2) v_1x e_1y x_1s ∧ OwnS (dI .i64) 3 w' (g.2.2.2) (g.2.1) (g.2.2.1) (g.1)) ?_ ?_
      ·
        apply go
        apply go
        apply go
        obtain ⟨x_38, q_39, q_37⟩ := bind_some q_37
        refine ev_index rfl rfl rfl Tryd.underlying73 T82 r_2g q_39 ?_
        intro p_3a c_3b d_3c a_3d
        obtain ⟨v_3e, rfl, r_3f⟩ := dNode_2_o d_3c
        refine ev (rn_load rfl rfl (run_loadVarA T82 rfl a_3d)) ?_
        refine ev_alloc hp rfl T82 ?_
        intro g_3g w_3h hp hs
        replace o_20 := o_20.step hs
        replace o_33 := o_33.step hs
        replace r_2g := r_2g.step hs
        replace r_3f := r_3f.step hs
        replace o_2h := o_2h.step hs
        replace o_2i := o_2i.step hs
        replace r_2p := r_2p.step hs
        replace r_2q := r_2q.step hs
        replace o_2r := o_2r.step hs
        replace o_2s := o_2s.step hs
        refine ev_storeA hp (i := 0) (off := 0) (vs := [(.int .i64 x_38.kind), (.int .i64 x_38.name), (.int .i64 x_38.count), v_3e]) rfl rfl rfl rfl T82 rfl (Nat.le_of_ble_eq_true rfl) (ones_cons rfl (ones_cons rfl (ones_cons rfl (ones_cons r_3f.one ones_nil)))) ?_
        intro w_3i hp hs
        replace o_20 := o_20.step hs
        replace o_33 := o_33.step hs
        replace r_2g := r_2g.step hs
        replace r_3f := r_3f.step hs
        replace o_2h := o_2h.step hs
        replace o_2i := o_2i.step hs
        replace r_2p := r_2p.step hs
        replace r_2q := r_2q.step hs
        replace o_2r := o_2r.step hs
        replace o_2s := o_2s.step hs
        apply go
        apply go
        apply go
        refine ev0 (rn_field rfl rfl FO82_0) ?_
        refine ev (rn_load rfl rfl (run_loadVar1 T3 (hp.cell (i := 0) (off := 0) rfl rfl))) ?_
        apply go
        refine sel_of (fun hc => ?_) (fun hc => ?_)
        ·
          have q_37 := cond_t q_37 hc
          apply go
          obtain rfl := Option.some.inj q_37
          have hp := hp.sel [1, 2, 3, 4, 5, 6, 7, 8] (by decide)
          exact ⟨(x_2w, v_2y, e_2z, I_30), (.c rfl (.c rfl (.c rfl (.c rfl (.c rfl (.c rfl (.c rfl (.c rfl .n)))))))), rfl, hp, r_2g, o_2h, o_2i, r_2p, r_2q, o_2r, o_2s, o_20, o_33⟩
        ·
          have q_37 := cond_f q_37 hc
          apply go
          obtain ⟨y_3j, q_3k, q_37⟩ := bind_some q_37
          refine W.cut (γ := Bool) (fun g => [(0, (.pointer (some ⟨g_1, 0, none⟩))), (9, (.pointer (some ⟨g_x, 0, none⟩))), (10, (.int .i64 x_10)), (11, v_1x), (12, v_2y), (13, (.int .i64 x_2x)), (41, v_2b), (42, (.int .i64 (x_22.nodes.length : Int))), (43, (.int .i64 x_2x)), (84, (.bool (g)))]) (fun g w' => y_3j = (g) ∧ w_3i = w') ?_ ?_
          ·
            apply go
            obtain ⟨x_3l, q_3m, q_3k⟩ := bind_some q_3k
            refine ev_indexO rfl rfl rfl Tryd.underlying57 T4 o_20 q_3m ?_
            intro g_3n c_3o h_3p d_3q l_3r
            refine ev (rn_load rfl rfl (run_loadVar1 T4 (hp.cellE (i := 7) rfl h_3p d_3q (j := 0) rfl))) ?_
            refine sel_of (fun hc => ?_) (fun hc => ?_)
            ·
              have q_3k := cond_t q_3k hc
              refine ev0 (rn_field rfl rfl FO78_2) ?_
              refine ev (rn_load rfl rfl (run_loadVar1 T43 (hp.cell (i := 6) (off := 2) rfl rfl))) ?_
              obtain ⟨x_3s, q_3t, q_3k⟩ := bind_some q_3k
              refine ev_indexO rfl rfl rfl Tryd.underlying43 T3 o_2r q_3t ?_
              intro g_3u c_3v h_3w d_3x l_3y
              refine ev (rn_load rfl rfl (run_loadVar1 T3 (hp.cellE (i := 4) rfl h_3w d_3x (j := 0) rfl))) ?_
              refine sel_of (fun hc => ?_) (fun hc => ?_)
              ·
                have q_3k := cond_t q_3k hc
                obtain rfl := Option.some.inj q_3k
                exact ⟨true, (.c rfl (.c rfl (.c rfl (.c rfl (.c rfl (.c rfl (.c rfl (.c rfl (.c rfl (.c rfl .n)))))))))), rfl, rfl⟩
              ·
                have q_3k := cond_f q_3k hc
                refine ev0 (rn_field rfl rfl FO78_2) ?_
                refine ev (rn_load rfl rfl (run_loadVar1 T43 (hp.cell (i := 6) (off := 2) rfl rfl))) ?_
                obtain ⟨x_3z, q_40, q_3k⟩ := bind_some q_3k
                refine ev_indexO rfl rfl rfl Tryd.underlying43 T3 o_2r q_40 ?_
                intro g_41 c_42 h_43 d_44 l_45
                refine ev (rn_load rfl rfl (run_loadVar1 T3 (hp.cellE (i := 4) rfl h_43 d_44 (j := 0) rfl))) ?_
                refine sel_of (fun hc => ?_) (fun hc => ?_)
                ·
                  have q_3k := cond_t q_3k hc
                  refine ev0 (rn_field rfl rfl FO75_2) ?_
                  refine ev (rn_load rfl rfl (run_loadVar1 T57 (hp.cell (i := 3) (off := 2) rfl rfl))) ?_
                  obtain ⟨x_46, q_47, q_3k⟩ := bind_some q_3k
                  refine ev_indexO rfl rfl rfl Tryd.underlying57 T4 o_2i q_47 ?_
                  intro g_48 c_49 h_4a d_4b l_4c
                  refine ev (rn_load rfl rfl (run_loadVar1 T4 (hp.cellE (i := 2) rfl h_4a d_4b (j := 0) rfl))) ?_
                  obtain rfl := Option.some.inj q_3k
                  exact ⟨(!x_46), (.c rfl (.c rfl (.c rfl (.c rfl (.c rfl (.c rfl (.c rfl (.c rfl (.c rfl (.c rfl .n)))))))))), rfl, rfl⟩
                ·
                  have q_3k := cond_f q_3k hc
                  obtain rfl := Option.some.inj q_3k
                  exact ⟨false, (.c rfl (.c rfl (.c rfl (.c rfl (.c rfl (.c rfl (.c rfl (.c rfl (.c rfl (.c rfl .n)))))))))), rfl, rfl⟩
            ·
              have q_3k := cond_f q_3k hc
              refine ev0 (rn_field rfl rfl FO78_2) ?_
              refine ev (rn_load rfl rfl (run_loadVar1 T43 (hp.cell (i := 6) (off := 2) rfl rfl))) ?_
              obtain ⟨x_4d, q_4e, q_3k⟩ := bind_some q_3k
              refine ev_indexO rfl rfl rfl Tryd.underlying43 T3 o_2r q_4e ?_
              intro g_4f c_4g h_4h d_4i l_4j
              refine ev (rn_load rfl rfl (run_loadVar1 T3 (hp.cellE (i := 4) rfl h_4h d_4i (j := 0) rfl))) ?_
              refine sel_of (fun hc => ?_) (fun hc => ?_)
              ·
                have q_3k := cond_t q_3k hc
                refine ev0 (rn_field rfl rfl FO75_2) ?_
                refine ev (rn_load rfl rfl (run_loadVar1 T57 (hp.cell (i := 3) (off := 2) rfl rfl))) ?_
                obtain ⟨x_4k, q_4l, q_3k⟩ := bind_some q_3k
                refine ev_indexO rfl rfl rfl Tryd.underlying57 T4 o_2i q_4l ?_
                intro g_4m c_4n h_4o d_4p l_4q
                refine ev (rn_load rfl rfl (run_loadVar1 T4 (hp.cellE (i := 2) rfl h_4o d_4p (j := 0) rfl))) ?_
                obtain rfl := Option.some.inj q_3k
                exact ⟨(!x_4k), (.c rfl (.c rfl (.c rfl (.c rfl (.c rfl (.c rfl (.c rfl (.c rfl (.c rfl (.c rfl .n)))))))))), rfl, rfl⟩
              ·
                have q_3k := cond_f q_3k hc
                obtain rfl := Option.some.inj q_3k
                exact ⟨false, (.c rfl (.c rfl (.c rfl (.c rfl (.c rfl (.c rfl (.c rfl (.c rfl (.c rfl (.c rfl .n)))))))))), rfl, rfl⟩
          ·
            rintro x_4r _ ⟨hy, rfl⟩
            replace hy := hy.symm
            subst hy
            apply go
            refine sel_of (fun hc => ?_) (fun hc => ?_)
            ·
              have q_37 := cond_t q_37 hc
              apply go
              refine ev_litN (d := (dI .i64)) (xs := [x_2x]) (cs := [(.int .i64 x_2x)]) hp rfl rfl Tryd.underlying43 T3 (by decide) rfl rfl (Elems.cons (d := (dI .i64)) (xs := _) rfl (Elems.nil _ _ _ _)) ?_
              intro v_4s I_4t w_4u hp hs r_4v
              replace o_20 := o_20.step hs
              replace r_2g := r_2g.step hs
              replace o_33 := o_33.step hs
              replace r_3f := r_3f.step hs
              replace o_2h := o_2h.step hs
              replace o_2i := o_2i.step hs
              replace r_2p := r_2p.step hs
              replace r_2q := r_2q.step hs
              replace o_2r := o_2r.step hs
              replace o_2s := o_2s.step hs
              obtain ⟨x_4w, q_4x, q_37⟩ := bind_some q_37
              refine ev_append hp (i := 8) rfl rfl rfl rfl Tryd.underlying43 T3 rfl rfl o_33 r_4v q_4x ?_
              rintro v_4y e_4z w_50 hp hs o_51
              replace o_20 := o_20.step hs
              replace r_2g := r_2g.step hs
              replace r_3f := r_3f.step hs
              replace o_2h := o_2h.step hs
              replace o_2i := o_2i.step hs
              replace r_2p := r_2p.step hs
              replace r_2q := r_2q.step hs
              replace o_2r := o_2r.step hs
              replace o_2s := o_2s.step hs
              obtain rfl := Option.some.inj q_37
              have hp := hp.sel [1, 2, 3, 4, 5, 6, 7, 8] (by decide)
              exact ⟨(x_4w, v_4y, e_4z, I_4t), (.c rfl (.c rfl (.c rfl (.c rfl (.c rfl (.c rfl (.c rfl (.c rfl .n)))))))), rfl, hp, r_2g, o_2h, o_2i, r_2p, r_2q, o_2r, o_2s, o_20, o_51⟩
            ·
              have q_37 := cond_f q_37 hc
              apply go
              obtain rfl := Option.some.inj q_37
              have hp := hp.sel [1, 2, 3, 4, 5, 6, 7, 8] (by decide)
              exact ⟨(x_2w, v_2y, e_2z, I_30), (.c rfl (.c rfl (.c rfl (.c rfl (.c rfl (.c rfl (.c rfl (.c rfl .n)))))))), rfl, hp, r_2g, o_2h, o_2i, r_2p, r_2q, o_2r, o_2s, o_20, o_33⟩
      ·
        rintro ⟨x_52, v_53, e_54, I_55⟩ w_56 ⟨hy, hp, r_2g, o_2h, o_2i, r_2p, r_2q, o_2r, o_2s, o_20, o_57⟩
        replace hy := hy.symm
        subst hy
        apply go
        exact ⟨_, (Option.some.inj q_34).symm, (v_53, e_54, I_55), (.c rfl (.c rfl (.c rfl (.c rfl (.c rfl (.c rfl (.c rfl (.c rfl .n)))))))), ⟨hp, r_2g, o_2h, o_2i, r_2p, r_2q, o_2r, o_2s, o_20, o_57⟩⟩
    ·
      have q_34 := cond_f q_34 hc
      apply go
      have q_58 := congrArg some (q_35 _ (Option.some.inj q_34).symm)
      obtain rfl := Option.some.inj q_58
      have hp := hp.perm [3, 4, 5, 7, 0, 1, 2] (by decide)
      exact ⟨(x_2w, v_2y, e_2z, I_30), (.c rfl (.c rfl (.c rfl .n))), rfl, hp, r_2p, r_2q, o_2r, o_2s, o_33, r_2g, o_2h, o_2i⟩
  ·
    rintro ⟨x_59, v_5a, e_5b, I_5c⟩ w_5d ⟨hy, hp, r_2p, r_2q, o_2r, o_2s, o_5e, r_2g, o_2h, o_2i⟩
    replace hy := hy.symm
    subst hy
    apply go
    refine W.quiet (fun w' => Ch [] w_5d w') MX (by kernel_rfl) (Ch.drew [] w_5d) ?_
    refine evq0 (rn_field rfl rfl FO78_3) ?_
    refine evq (fun w' hw => rn_load rfl rfl (run_loadVar1 T43 ((hp.ext hw).cell (i := 2) (off := 3) rfl rfl))) ?_
    intro w_5f hc
    have hs := hp.stp hc
    replace hp := hp.ext hc
    replace o_2s := o_2s.step hs
    replace o_5e := o_5e.step hs
    replace r_2p := r_2p.step hs
    replace r_2q := r_2q.step hs
    replace o_2r := o_2r.step hs
    replace r_2g := r_2g.step hs
    replace o_2h := o_2h.step hs
    replace o_2i := o_2i.step hs
    apply go
    obtain rfl := Option.some.inj h
    have r_5g := o_2s.frz hp (i := 1) rfl
    obtain ⟨hp, hs⟩ := freeze_hp hp (i := 1) rfl
    replace o_5e := o_5e.step hs
    replace r_2p := r_2p.step hs
    replace r_2q := r_2q.step hs
    replace o_2r := o_2r.step hs
    replace r_2g := r_2g.step hs
    replace o_2h := o_2h.step hs
    replace o_2i := o_2i.step hs
    have hp := hp.sel [0, 2, 3, 4, 5, 6] (by decide)
    have r_5h := o_5e.frz hp (i := 2) rfl
    obtain ⟨hp, hs⟩ := freeze_hp hp (i := 2) rfl
    replace r_5g := r_5g.step hs
    replace r_2p := r_2p.step hs
    replace r_2q := r_2q.step hs
    replace o_2r := o_2r.step hs
    replace r_2g := r_2g.step hs
    replace o_2h := o_2h.step hs
    replace o_2i := o_2i.step hs
    have hp := hp.sel [0, 1, 3, 4, 5] (by decide)
    have hp := hp.perm [4, 2, 3] (by decide)
    exact ⟨(Ad (Ad I_5c e_2o) e_5b), v_2n, v_5a, [some (g_1, [v_2b, v_2c, v_2e], 75), e_2d, e_2f], rfl, hp, r_5g, r_5h, ⟨v_2b, v_2c, e_2d, v_2e, e_2f, rfl, r_2g, o_2h, o_2i⟩⟩

end Go.Proofs.YtkhmdpekfcahkaaDoor

namespace Go.Proofs.YtkhmdpekfcahkaaDoor
open Go Go.Proofs.YtkhmdpekfcahkaaDoor.Gw Go.RowKit
set_option linter.unusedVariables false
attribute [local irreducible] Ev EvQ EvS EvH vch
def mission_Mission_Tick_S (f : Mission → (List Int) → Option (Int × Int × Int × Mission)) : Prop := ∀ (w0 : World) (I0 : Nat → Prop) (x_0 : Mission) (g_1 : Nat) (E_2 : List Ent) (q_3 : qM w0 I0 g_1 E_2 x_0) (x_4 : (List Int)) (v_5 : Value) (r_6 : RepS (dI .i64) w0 I0 v_5 x_4) (hp : Hp ⟨w0, I0, blks E_2⟩ I0 E_2 w0) (r : (Int × Int × Int × Mission)), f x_0 x_4 = some r →
    Ret Tryd.prog 11 #[(.pointer (some ⟨g_1, 0, none⟩)), v_5] w0 fun v w1 => ∃ (I1 : Nat → Prop) (u_7 : List Ent), v = (.tuple #[(.int .i64 r.1), (.int .i64 r.2.1), (.int .i64 r.2.2.1)]) ∧ Hp ⟨w0, I0, blks E_2⟩ I1 u_7 w1 ∧ qM w1 I1 g_1 u_7 r.2.2.2
theorem mission_Mission_Tick_ok (n : Nat) : mission_Mission_Tick_S (mission_Mission_Tick n) := by
  intro w0 I0 x_0 g_1 E_2 q_3 x_4 v_5 r_6 hp r h
  unfold mission_Mission_Tick at h
  refine enter Tryd.func11 rfl (Nat.le_of_ble_eq_true rfl) ?_
  generalize blks E_2 = B at hp ⊢
  obtain ⟨g_7, E_8, v_9, e_a, rfl, q_b, o_c⟩ := q_3
  obtain ⟨v_d, v_e, e_f, v_g, e_h, rfl, r_i, o_j, o_k⟩ := q_b
  have hp : Hp ⟨w0, I0, B⟩ I0 [some (g_1, [(.pointer (some ⟨g_7, 0, none⟩)), v_9, (.int .i64 x_0.status), (.int .i64 x_0.ticks)], 59), some (g_7, [v_d, v_e, v_g], 75), e_f, e_h, e_a] w0 := hp
  apply go
  apply go
  apply go
  apply go
  apply go
  apply go
  refine ev0 (rn_eqNilP rfl rfl rfl Tryd.underlying34 (b := false) rfl) ?_
  apply go
  apply go
  apply go
  refine ev0 (rn_field rfl rfl FO59_2) ?_
  refine ev (rn_load rfl rfl (run_loadVar1 T3 (hp.cell (i := 0) (off := 2) rfl rfl))) ?_
  apply go
  refine sel_of (fun hc => ?_) (fun hc => ?_)
  ·
    have h := cond_t h hc
    apply go
    apply go
    apply go
    obtain rfl := Option.some.inj h
    exact ⟨I0, [some (g_1, [(.pointer (some ⟨g_7, 0, none⟩)), v_9, (.int .i64 x_0.status), (.int .i64 x_0.ticks)], 59), some (g_7, [v_d, v_e, v_g], 75), e_f, e_h, e_a], rfl, hp, ⟨g_7, [some (g_7, [v_d, v_e, v_g], 75), e_f, e_h], v_9, e_a, rfl, ⟨v_d, v_e, e_f, v_g, e_h, rfl, r_i, o_j, o_k⟩, o_c⟩⟩
  ·
    have h := cond_f h hc
    apply go
    apply go
    have hs := hp.stp (Ch.drew [] w0)
    have hp := hp.drew
    replace r_6 := r_6.step hs
    replace o_c := o_c.step hs
    replace r_i := r_i.step hs
    replace o_j := o_j.step hs
    replace o_k := o_k.step hs
    refine W.heldT [(0, true), (1, true), (2, true), (3, true), (4, true), (5, true), (6, true), (7, true), (8, true), (9, false), (10, false), (11, true), (12, true), (13, true), (14, true), (15, true), (16, true), (17, true)] (fun x => Stp I0 w0.drew I0 x ∧ OwnK [(g_1, [(.pointer (some ⟨g_7, 0, none⟩)), v_9, (.int .i64 x_0.status), (.int .i64 x_0.ticks)], 59)] x) MX (by kernel_rfl) ⟨Stp.refl _ _, (OwnK.cons (hp.own 0 _ _ _ rfl).1 OwnK.nil)⟩ ?_
    have hz := Stp.refl I0 w0.drew
    intro ops hops
    have e0 : nthO ops 0 = some _ := (hops 0).trans rfl
    have e1 : nthO ops 1 = some _ := (hops 1).trans rfl
    have e2 : nthO ops 2 = some _ := (hops 2).trans rfl
    have e3 : nthO ops 3 = some _ := (hops 3).trans rfl
    have e4 : nthO ops 4 = some _ := (hops 4).trans rfl
    have e5 : nthO ops 5 = some _ := (hops 5).trans rfl
    have e6 : nthO ops 6 = some _ := (hops 6).trans rfl
    have e7 : nthO ops 7 = some _ := (hops 7).trans rfl
    have e8 : nthO ops 8 = some _ := (hops 8).trans rfl
    have e9 : nthO ops 9 = some _ := (hops 9).trans rfl
    have e10 : nthO ops 10 = some _ := (hops 10).trans rfl
    have e11 : nthO ops 11 = some _ := (hops 11).trans rfl
    have e12 : nthO ops 12 = some _ := (hops 12).trans rfl
    have e13 : nthO ops 13 = some _ := (hops 13).trans rfl
    have e14 : nthO ops 14 = some _ := (hops 14).trans rfl
    have e15 : nthO ops 15 = some _ := (hops 15).trans rfl
    have e16 : nthO ops 16 = some _ := (hops 16).trans rfl
    have e17 : nthO ops 17 = some _ := (hops 17).trans rfl
    clear hops
    refine vch_q e0 rfl ?_
    refine vch_q e1 rfl ?_
    refine vch_q e2 rfl ?_
    refine evh0 (rn_field rfl rfl FO59_0) ?_
    refine vch_q e3 rfl ?_
    refine evh (fun w' hw => rn_load rfl rfl (run_loadVar1 T54 (hw.2.cell (i := 0) (off := 0) rfl rfl))) ?_
    refine vch_q e4 rfl ?_
    refine vch_q e5 rfl ?_
    refine vch_q e6 rfl ?_
    refine vch_q e7 rfl ?_
    refine evh0 (rn_field rfl rfl FO59_1) ?_
    refine vch_q e8 rfl ?_
    refine evh (fun w' hw => rn_load rfl rfl (run_loadVar1 T57 (hw.2.cell (i := 0) (off := 1) rfl rfl))) ?_
    refine vch_l e9 rfl ?_
    obtain ⟨⟨x_l, x_m⟩, q_n, h⟩ := bind_some h
    refine ev_call rfl rfl C22 (((slices_Clonebool_bool__ok n) _ _  x_0.done v_9 e_a o_c (hp.lendL [4] (by decide)) _ q_n).mono ?_)
    rintro _ w_o ⟨I_p, v_q, e_r, e_s, hv, hq5115, o_t, o_u⟩
    replace hv := hv.symm
    subst hv
    have hs := hq5115.st
    have hp := hp.backL [4] [0, 1, 2, 3] (by decide) hq5115
    replace hz := hz.trans hs
    replace r_6 := r_6.step hs
    replace r_i := r_i.step hs
    replace o_j := o_j.step hs
    replace o_k := o_k.step hs
    refine ⟨fun x => Stp I_p w_o I_p x ∧ OwnK [(g_1, [(.pointer (some ⟨g_7, 0, none⟩)), v_9, (.int .i64 x_0.status), (.int .i64 x_0.ticks)], 59)] x, ⟨Stp.refl _ _, (OwnK.cons (hp.own 2 _ _ _ rfl).1 OwnK.nil)⟩, fun x hx => ⟨hz.held hx.1, hx.2⟩, ?_⟩
    have hz := Stp.refl I_p w_o
    refine vch_l e10 rfl ?_
    have r_v := o_t.frz hp (i := 0) rfl
    obtain ⟨hp, hs⟩ := freeze_hp hp (i := 0) rfl
    replace hz := hz.trans hs
    replace r_6 := r_6.step hs
    replace o_u := o_u.step hs
    replace r_i := r_i.step hs
    replace o_j := o_j.step hs
    replace o_k := o_k.step hs
    have hp := hp.sel [1, 2, 3, 4, 5] (by decide)
    obtain ⟨⟨x_w, x_x, x_y, x_z⟩, q_10, h⟩ := bind_some h
    refine ev_call rfl rfl C21 (((tree_Runner_Tick_ok n) _ _  (Runner.mk x_0.run.nodes x_0.run.counters x_0.run.active) g_7 [some (g_7, [v_d, v_e, v_g], 75), e_f, e_h] ⟨v_d, v_e, e_f, v_g, e_h, rfl, r_i, o_j, o_k⟩ x_4 v_5 r_6 x_l v_q r_v (hp.lendL [2, 3, 4] (by decide)) _ q_10).mono ?_)
    rintro _ w_11 ⟨I_12, v_13, v_14, F_15, hv, hq5130, r_16, r_17, q_18⟩
    replace hv := hv.symm
    subst hv
    obtain ⟨v_19, v_1a, e_1b, v_1c, e_1d, rfl, r_1e, o_1f, o_1g⟩ := q_18
    have hs := hq5130.st
    have hp := hp.backL [2, 3, 4] [0, 1] (by decide) hq5130
    replace hz := hz.trans hs
    replace r_6 := r_6.step hs
    replace o_u := o_u.step hs
    refine ⟨fun x => Stp I_12 w_11 I_12 x ∧ OwnK [(g_1, [(.pointer (some ⟨g_7, 0, none⟩)), v_9, (.int .i64 x_0.status), (.int .i64 x_0.ticks)], 59)] x, ⟨Stp.refl _ _, (OwnK.cons (hp.own 4 _ _ _ rfl).1 OwnK.nil)⟩, fun x hx => ⟨hz.held hx.1, hx.2⟩, ?_⟩
    have hz := Stp.refl I_12 w_11
    refine vch_q e11 rfl ?_
    refine vch_q e12 rfl ?_
    refine vch_q e13 rfl ?_
    refine vch_q e14 rfl ?_
    refine vch_q e15 rfl ?_
    refine vch_q e16 rfl ?_
    refine vch_q e17 rfl ?_
    refine vch_end ?_
    apply go
    apply go
    obtain ⟨y_1h, q_1i, h⟩ := bind_some h
    refine W.cut (γ := ((List Bool) × Int × Ent)) (fun g => [(0, (.pointer (some ⟨g_1, 0, none⟩))), (7, (.int .i64 x_w)), (10, (.int .i64 (g.2.1)))]) (fun g w' => y_1h = ((g.1), (g.2.1)) ∧ Hp ⟨w0, I0, B⟩ I_12 [e_1b, e_1d, some (g_7, [v_19, v_1a, v_1c], 75), (g.2.2), some (g_1, [(.pointer (some ⟨g_7, 0, none⟩)), v_9, (.int .i64 x_0.status), (.int .i64 x_0.ticks)], 59)] w' ∧ RepS dNode_2 w' I_12 v_19 x_z.nodes ∧ OwnS (dI .i64) 3 w' I_12 v_1a e_1b x_z.counters ∧ OwnS dB 4 w' I_12 v_1c e_1d x_z.active ∧ OwnS dB 4 w' I_12 v_9 (g.2.2) (g.1)) ?_ ?_
    ·
      apply go
      apply go
      refine ev0 (rn_len rfl rfl Tryd.underlying43 r_16) ?_
      apply go
      have hp := hp.perm [1, 2, 0, 3, 4] (by decide)
      refine W.loop q_1i (γ := Ent) (fun s g => [(0, (.pointer (some ⟨g_1, 0, none⟩))), (1, v_5), (7, (.int .i64 x_w)), (10, (.int .i64 (s.2.1))), (38, v_13), (39, (.int .i64 (x_x.length : Int))), (40, (.int .i64 (s.2.2)))]) (fun s g w' => Hp ⟨w0, I0, B⟩ I_12 [e_1b, e_1d, some (g_7, [v_19, v_1a, v_1c], 75), (g), some (g_1, [(.pointer (some ⟨g_7, 0, none⟩)), v_9, (.int .i64 x_0.status), (.int .i64 x_0.ticks)], 59)] w' ∧ RepS dNode_2 w' I_12 v_19 x_z.nodes ∧ OwnS (dI .i64) 3 w' I_12 v_1a e_1b x_z.counters ∧ OwnS dB 4 w' I_12 v_1c e_1d x_z.active ∧ OwnS dB 4 w' I_12 v_9 (g) (s.1) ∧ RepS (dI .i64) w' I_12 v_5 x_4 ∧ RepS (dI .i64) w' I_12 v_13 x_x) e_s (.c rfl (.c rfl (.c rfl (.c rfl (.c rfl (.c rfl (.c rfl .n))))))) ⟨hp, r_1e, o_1f, o_1g, o_u, r_6, r_16⟩ ?_
      rintro ⟨x_1j, x_1k, x_1l⟩ e_1m w_1n y_1o ⟨hp, r_1e, o_1f, o_1g, o_1p, r_6, r_16⟩ q_1q q_1r
      unfold mission_Mission_Tick_L1 at q_1q
      apply go
      apply go
      apply go
      apply go
      refine sel_of (fun hc => ?_) (fun hc => ?_)
      ·
        have q_1q := cond_t q_1q hc
        apply go
        obtain ⟨y_1s, q_1t, q_1q⟩ := bind_some q_1q
        refine W.cut (γ := ((List Bool) × Int × Ent)) (fun g => [(0, (.pointer (some ⟨g_1, 0, none⟩))), (1, v_5), (7, (.int .i64 x_w)), (10, (.int .i64 (g.2.1))), (38, v_13), (39, (.int .i64 (x_x.length : Int))), (40, (.int .i64 x_1l))]) (fun g w' => y_1s = ((g.1), (g.2.1)) ∧ Hp ⟨w0, I0, B⟩ I_12 [e_1b, e_1d, some (g_7, [v_19, v_1a, v_1c], 75), (g.2.2), some (g_1, [(.pointer (some ⟨g_7, 0, none⟩)), v_9, (.int .i64 x_0.status), (.int .i64 x_0.ticks)], 59)] w' ∧ RepS dNode_2 w' I_12 v_19 x_z.nodes ∧ OwnS (dI .i64) 3 w' I_12 v_1a e_1b x_z.counters ∧ OwnS dB 4 w' I_12 v_1c e_1d x_z.active ∧ OwnS dB 4 w' I_12 v_9 (g.2.2) (g.1) ∧ RepS (dI .i64) w' I_12 v_5 x_4 ∧ RepS (dI .i64) w' I_12 v_13 x_x) ?_ ?_
        ·
          apply go
          apply go
          apply go
          obtain ⟨x_1u, q_1v, q_1t⟩ := bind_some q_1t
          refine ev_index rfl rfl rfl Tryd.underlying43 T3 r_16 q_1v ?_
          intro p_1w c_1x d_1y a_1z
          obtain rfl : c_1x = [(.int .i64 x_1u)] := d_1y
          refine ev (rn_load rfl rfl (run_loadVar1 T3 (a_1z.2 0 _ rfl))) ?_
          apply go
          apply go
          refine ⟨by decide, ?_⟩
          apply go
          apply go
          refine ⟨by decide, ?_⟩
          apply go
          apply go
          apply go
          apply go
          refine sel_of (fun hc => ?_) (fun hc => ?_)
          ·
            have q_1t := cond_t q_1t hc
            apply go
            apply go
            obtain ⟨y_20, q_21, q_1t⟩ := bind_some q_1t
            refine W.cut (γ := Bool) (fun g => [(0, (.pointer (some ⟨g_1, 0, none⟩))), (1, v_5), (7, (.int .i64 x_w)), (10, (.int .i64 (IntKind.i64.wrap ((IntKind.i64.wrap (x_1u - 1)).tdiv 8)))), (13, (.int .i64 (IntKind.i64.wrap ((IntKind.i64.wrap (x_1u - 1)).tdiv 8)))), (38, v_13), (39, (.int .i64 (x_x.length : Int))), (40, (.int .i64 x_1l)), (63, (.bool (g)))]) (fun g w' => y_20 = (g) ∧ w_1n = w') ?_ ?_
            ·
              apply go
              refine ev0 (rn_len rfl rfl Tryd.underlying43 r_6) ?_
              refine sel_of (fun hc => ?_) (fun hc => ?_)
              ·
                have q_21 := cond_t q_21 hc
                obtain ⟨x_22, q_23, q_21⟩ := bind_some q_21
                refine ev_index rfl rfl rfl Tryd.underlying43 T3 r_6 q_23 ?_
                intro p_24 c_25 d_26 a_27
                obtain rfl : c_25 = [(.int .i64 x_22)] := d_26
                refine ev (rn_load rfl rfl (run_loadVar1 T3 (a_27.2 0 _ rfl))) ?_
                obtain rfl := Option.some.inj q_21
                exact ⟨(x_22 == 2), (.c rfl (.c rfl (.c rfl (.c rfl (.c rfl (.c rfl (.c rfl (.c rfl (.c rfl .n))))))))), rfl, rfl⟩
              ·
                have q_21 := cond_f q_21 hc
                obtain rfl := Option.some.inj q_21
                exact ⟨false, (.c rfl (.c rfl (.c rfl (.c rfl (.c rfl (.c rfl (.c rfl (.c rfl (.c rfl .n))))))))), rfl, rfl⟩
            ·
              rintro x_28 _ ⟨hy, rfl⟩
              replace hy := hy.symm
              subst hy
              apply go
              refine sel_of (fun hc => ?_) (fun hc => ?_)
              ·
                have q_1t := cond_t q_1t hc
                apply go
                refine ev0 (rn_field rfl rfl FO59_1) ?_
                refine ev (rn_load rfl rfl (run_loadVar1 T57 (hp.cell (i := 4) (off := 1) rfl rfl))) ?_
                obtain ⟨x_29, q_2a, q_1t⟩ := bind_some q_1t
                refine ev_indexO rfl rfl rfl Tryd.underlying57 T4 o_1p q_2a ?_
                intro g_2b c_2c h_2d d_2e l_2f
                refine ev_storeE hp (i := 3) rfl h_2d rfl rfl rfl T4 o_1p q_2a (x0 := true) rfl ?_
                intro e_2g w_2h hp hs o_2i
                replace r_6 := r_6.step hs
                replace r_16 := r_16.step hs
                replace r_1e := r_1e.step hs
                replace o_1f := o_1f.step hs
                replace o_1g := o_1g.step hs
                obtain rfl := Option.some.inj q_1t
                exact ⟨((upd x_1j (IntKind.i64.wrap ((IntKind.i64.wrap (x_1u - 1)).tdiv 8)) true), (IntKind.i64.wrap ((IntKind.i64.wrap (x_1u - 1)).tdiv 8)), e_2g), (.c rfl (.c rfl (.c rfl (.c rfl (.c rfl (.c rfl (.c rfl .n))))))), rfl, hp, r_1e, o_1f, o_1g, o_2i, r_6, r_16⟩
              ·
                have q_1t := cond_f q_1t hc
                apply go
                obtain rfl := Option.some.inj q_1t
                exact ⟨(x_1j, (IntKind.i64.wrap ((IntKind.i64.wrap (x_1u - 1)).tdiv 8)), e_1m), (.c rfl (.c rfl (.c rfl (.c rfl (.c rfl (.c rfl (.c rfl .n))))))), rfl, hp, r_1e, o_1f, o_1g, o_1p, r_6, r_16⟩
          ·
            have q_1t := cond_f q_1t hc
            apply go
            apply go
            apply go
            refine sel_of (fun hc => ?_) (fun hc => ?_)
            ·
              have q_1t := cond_t q_1t hc
              apply go
              obtain rfl := Option.some.inj q_1t
              exact ⟨(x_1j, (IntKind.i64.wrap (32 + (IntKind.i64.wrap ((IntKind.i64.wrap (x_1u - 1)).tdiv 8)))), e_1m), (.c rfl (.c rfl (.c rfl (.c rfl (.c rfl (.c rfl (.c rfl .n))))))), rfl, hp, r_1e, o_1f, o_1g, o_1p, r_6, r_16⟩
            ·
              have q_1t := cond_f q_1t hc
              apply go
              obtain rfl := Option.some.inj q_1t
              exact ⟨(x_1j, x_1k, e_1m), (.c rfl (.c rfl (.c rfl (.c rfl (.c rfl (.c rfl (.c rfl .n))))))), rfl, hp, r_1e, o_1f, o_1g, o_1p, r_6, r_16⟩
        ·
          rintro ⟨x_2j, x_2k, e_2l⟩ w_2m ⟨hy, hp, r_1e, o_1f, o_1g, o_2n, r_6, r_16⟩
          replace hy := hy.symm
          subst hy
          apply go
          exact ⟨_, (Option.some.inj q_1q).symm, e_2l, (.c rfl (.c rfl (.c rfl (.c rfl (.c rfl (.c rfl (.c rfl .n))))))), ⟨hp, r_1e, o_1f, o_1g, o_2n, r_6, r_16⟩⟩
      ·
        have q_1q := cond_f q_1q hc
        apply go
        have q_2o := congrArg some (q_1r _ (Option.some.inj q_1q).symm)
        obtain rfl := Option.some.inj q_2o
        exact ⟨(x_1j, x_1k, e_1m), (.c rfl (.c rfl (.c rfl .n))), rfl, hp, r_1e, o_1f, o_1g, o_1p⟩
    ·
      rintro ⟨x_2p, x_2q, e_2r⟩ w_2s ⟨hy, hp, r_1e, o_1f, o_1g, o_2t⟩
      replace hy := hy.symm
      subst hy
      apply go
      apply go
      refine ev0 (rn_field rfl rfl FO59_2) ?_
      refine ev_store1 hp (i := 4) (off := 2) rfl rfl rfl rfl T3 rfl (Nat.le_of_ble_eq_true rfl) ?_
      intro w_2u hp hs
      replace r_1e := r_1e.step hs
      replace o_1f := o_1f.step hs
      replace o_1g := o_1g.step hs
      replace o_2t := o_2t.step hs
      apply go
      apply go
      refine ev0 (rn_field rfl rfl FO59_3) ?_
      refine ev (rn_load rfl rfl (run_loadVar1 T3 (hp.cell (i := 4) (off := 3) rfl rfl))) ?_
      refine ev0 (rn_field rfl rfl FO59_3) ?_
      refine ev_store1 hp (i := 4) (off := 3) rfl rfl rfl rfl T3 rfl (Nat.le_of_ble_eq_true rfl) ?_
      intro w_2v hp hs
      replace r_1e := r_1e.step hs
      replace o_1f := o_1f.step hs
      replace o_1g := o_1g.step hs
      replace o_2t := o_2t.step hs
      apply go
      apply go
      apply go
      obtain rfl := Option.some.inj h
      have hp := hp.perm [4, 2, 0, 1, 3] (by decide)
      exact ⟨I_12, [some (g_1, [(.pointer (some ⟨g_7, 0, none⟩)), v_9, (.int .i64 x_w), (.int .i64 (IntKind.i64.wrap (x_0.ticks + 1)))], 59), some (g_7, [v_19, v_1a, v_1c], 75), e_1b, e_1d, e_2r], rfl, hp, ⟨g_7, [some (g_7, [v_19, v_1a, v_1c], 75), e_1b, e_1d], v_9, e_2r, rfl, ⟨v_19, v_1a, e_1b, v_1c, e_1d, rfl, r_1e, o_1f, o_1g⟩, o_2t⟩⟩

end Go.Proofs.YtkhmdpekfcahkaaDoor

namespace Go.Proofs.YtkhmdpekfcahkaaDoor
open Go Go.Proofs.YtkhmdpekfcahkaaDoor.Gw Go.RowKit
set_option linter.unusedVariables false
attribute [local irreducible] Ev EvQ EvS EvH
def law42_awake_S (f : Option Bool) : Prop := ∀ (w0 : World) (I0 : Nat → Prop)  (hI : ∀ g, I0 g → g < w0.heap.size) (r : Bool), f  = some r →
    Ret Tryd.prog 4 #[] w0 fun v w1 => v = (.bool r) ∧ Ch [] w0 w1
theorem law42_awake_ok (n : Nat) : law42_awake_S (law42_awake n) := by
  intro w0 I0 hI r h
  unfold law42_awake at h
  refine enter Tryd.func4 rfl (Nat.le_of_ble_eq_true rfl) ?_
  have hp : Hp ⟨w0, I0, []⟩ I0 [] w0 := Hp.start hI
  apply go
  apply go
  apply go
  apply go
  refine ev0 (fun w => rn_build (cs := [(.int .i64 2), (.int .i64 0), (.int .i64 0), (.int .i64 2), (.int .i64 1)]) rfl rfl T40 PL40 rfl) ?_
  refine ev_litN (d := dTask) (xs := [(Task.mk 2 (Cell.mk 0 0) 2 1)]) (cs := [(.int .i64 2), (.int .i64 0), (.int .i64 0), (.int .i64 2), (.int .i64 1)]) hp rfl rfl Tryd.underlying22 T40 (by decide) rfl rfl (Elems.cons (d := dTask) (xs := _) dTask_m (Elems.nil _ _ _ _)) ?_
  intro v_0 I_1 w_2 hp hs r_3
  obtain ⟨⟨x_4, x_5⟩, q_6, h⟩ := bind_some h
  refine ev_call rfl rfl C10 (((mission_New_ok n) _ _  [(Task.mk 2 (Cell.mk 0 0) 2 1)] v_0 r_3 hp.imm _ q_6).mono ?_)
  rintro _ w_7 ⟨I_8, v_9, F_a, hv, hq5651, q_b⟩
  replace hv := hv.symm
  subst hv
  rcases x_4 with _ | x_c
  ·
    obtain ⟨rfl, rfl⟩ := q_b
    have hs := hq5651.st
    have hp := hp.join0 hq5651
    apply go
    obtain ⟨y_d, q_e, h⟩ := bind_some h
    refine W.cut (γ := Unit) (fun _ => [(1, (.pointer none)), (23, (.bool true))]) (fun _ w' => y_d = () ∧ w_7 = w') ?_ ?_
    ·
      apply go
      refine sel_of (fun hc => ?_) (fun hc => ?_)
      ·
        have q_e := cond_t q_e hc
        obtain rfl := Option.some.inj q_e
        exact ⟨(), (.c rfl (.c rfl .n)), rfl, rfl⟩
      ·
        have q_e := cond_f q_e hc
        refine ev0 (rn_eqNilP rfl rfl rfl Tryd.underlying34 (b := true) rfl) ?_
        obtain rfl := Option.some.inj q_e
        exact ⟨(), (.c rfl (.c rfl .n)), rfl, rfl⟩
    ·
      rintro ⟨⟩ _ ⟨hy, rfl⟩
      replace hy := hy.symm
      subst hy
      apply go
      apply go
      apply go
      apply go
      obtain rfl := Option.some.inj h
      exact ⟨rfl, hp.ch⟩
  ·
    obtain ⟨g_f, rfl, g_g, E_h, v_i, e_j, rfl, q_k, o_l⟩ := q_b
    obtain ⟨v_m, v_n, e_o, v_p, e_q, rfl, r_r, o_s, o_t⟩ := q_k
    have hs := hq5651.st
    have hp := hp.join0 hq5651
    apply go
    obtain ⟨y_u, q_v, h⟩ := bind_some h
    refine W.cut (γ := Bool) (fun g => [(1, (.pointer (some ⟨g_f, 0, none⟩))), (23, (.bool (g)))]) (fun g w' => y_u = (g) ∧ w_7 = w') ?_ ?_
    ·
      apply go
      refine sel_of (fun hc => ?_) (fun hc => ?_)
      ·
        have q_v := cond_t q_v hc
        obtain rfl := Option.some.inj q_v
        exact ⟨true, (.c rfl (.c rfl .n)), rfl, rfl⟩
      ·
        have q_v := cond_f q_v hc
        refine ev0 (rn_eqNilP rfl rfl rfl Tryd.underlying34 (b := false) rfl) ?_
        obtain rfl := Option.some.inj q_v
        exact ⟨false, (.c rfl (.c rfl .n)), rfl, rfl⟩
    ·
      rintro x_w _ ⟨hy, rfl⟩
      replace hy := hy.symm
      subst hy
      apply go
      refine sel_of (fun hc => ?_) (fun hc => ?_)
      ·
        have h := cond_t h hc
        apply go
        apply go
        apply go
        obtain rfl := Option.some.inj h
        exact ⟨rfl, hp.ch⟩
      ·
        have h := cond_f h hc
        apply go
        apply go
        apply go
        refine ev_litN (d := (dI .i64)) (xs := [1]) (cs := [(.int .i64 1)]) hp rfl rfl Tryd.underlying43 T3 (by decide) rfl rfl (Elems.cons (d := (dI .i64)) (xs := _) rfl (Elems.nil _ _ _ _)) ?_
        intro v_x I_y w_z hp hs r_10
        replace o_l := o_l.step hs
        replace r_r := r_r.step hs
        replace o_s := o_s.step hs
        replace o_t := o_t.step hs
        obtain ⟨⟨x_11, x_12, x_13, x_14⟩, q_15, h⟩ := bind_some h
        refine ev_call rfl rfl C11 (((mission_Mission_Tick_ok n) _ _  (Mission.mk (Runner.mk x_c.run.nodes x_c.run.counters x_c.run.active) x_c.done x_c.status x_c.ticks) g_f [some (g_f, [(.pointer (some ⟨g_g, 0, none⟩)), v_i, (.int .i64 x_c.status), (.int .i64 x_c.ticks)], 59), some (g_g, [v_m, v_n, v_p], 75), e_o, e_q, e_j] ⟨g_g, [some (g_g, [v_m, v_n, v_p], 75), e_o, e_q], v_i, e_j, rfl, ⟨v_m, v_n, e_o, v_p, e_q, rfl, r_r, o_s, o_t⟩, o_l⟩ [1] v_x r_10 (hp.lendL [0, 1, 2, 3, 4] (by decide)) _ q_15).mono ?_)
        rintro _ w_16 ⟨I_17, F_18, hv, hq5686, q_19⟩
        replace hv := hv.symm
        subst hv
        obtain ⟨g_1a, E_1b, v_1c, e_1d, rfl, q_1e, o_1f⟩ := q_19
        obtain ⟨v_1g, v_1h, e_1i, v_1j, e_1k, rfl, r_1l, o_1m, o_1n⟩ := q_1e
        have hs := hq5686.st
        have hp := hp.backL [0, 1, 2, 3, 4] [] (by decide) hq5686
        apply go
        apply go
        refine ev_litN (d := (dI .i64)) (xs := [1]) (cs := [(.int .i64 1)]) hp rfl rfl Tryd.underlying43 T3 (by decide) rfl rfl (Elems.cons (d := (dI .i64)) (xs := _) rfl (Elems.nil _ _ _ _)) ?_
        intro v_1o I_1p w_1q hp hs r_1r
        replace o_1f := o_1f.step hs
        replace r_1l := r_1l.step hs
        replace o_1m := o_1m.step hs
        replace o_1n := o_1n.step hs
        obtain ⟨⟨x_1s, x_1t, x_1u, x_1v⟩, q_1w, h⟩ := bind_some h
        refine ev_call rfl rfl C11 (((mission_Mission_Tick_ok n) _ _  (Mission.mk (Runner.mk x_14.run.nodes x_14.run.counters x_14.run.active) x_14.done x_14.status x_14.ticks) g_f [some (g_f, [(.pointer (some ⟨g_1a, 0, none⟩)), v_1c, (.int .i64 x_14.status), (.int .i64 x_14.ticks)], 59), some (g_1a, [v_1g, v_1h, v_1j], 75), e_1i, e_1k, e_1d] ⟨g_1a, [some (g_1a, [v_1g, v_1h, v_1j], 75), e_1i, e_1k], v_1c, e_1d, rfl, ⟨v_1g, v_1h, e_1i, v_1j, e_1k, rfl, r_1l, o_1m, o_1n⟩, o_1f⟩ [1] v_1o r_1r (hp.lendL [0, 1, 2, 3, 4] (by decide)) _ q_1w).mono ?_)
        rintro _ w_1x ⟨I_1y, F_1z, hv, hq5714, q_20⟩
        replace hv := hv.symm
        subst hv
        obtain ⟨g_21, E_22, v_23, e_24, rfl, q_25, o_26⟩ := q_20
        obtain ⟨v_27, v_28, e_29, v_2a, e_2b, rfl, r_2c, o_2d, o_2e⟩ := q_25
        have hs := hq5714.st
        have hp := hp.backL [0, 1, 2, 3, 4] [] (by decide) hq5714
        apply go
        apply go
        refine ev_litN (d := (dI .i64)) (xs := [1]) (cs := [(.int .i64 1)]) hp rfl rfl Tryd.underlying43 T3 (by decide) rfl rfl (Elems.cons (d := (dI .i64)) (xs := _) rfl (Elems.nil _ _ _ _)) ?_
        intro v_2f I_2g w_2h hp hs r_2i
        replace o_26 := o_26.step hs
        replace r_2c := r_2c.step hs
        replace o_2d := o_2d.step hs
        replace o_2e := o_2e.step hs
        obtain ⟨⟨x_2j, x_2k, x_2l, x_2m⟩, q_2n, h⟩ := bind_some h
        refine ev_call rfl rfl C11 (((mission_Mission_Tick_ok n) _ _  (Mission.mk (Runner.mk x_1v.run.nodes x_1v.run.counters x_1v.run.active) x_1v.done x_1v.status x_1v.ticks) g_f [some (g_f, [(.pointer (some ⟨g_21, 0, none⟩)), v_23, (.int .i64 x_1v.status), (.int .i64 x_1v.ticks)], 59), some (g_21, [v_27, v_28, v_2a], 75), e_29, e_2b, e_24] ⟨g_21, [some (g_21, [v_27, v_28, v_2a], 75), e_29, e_2b], v_23, e_24, rfl, ⟨v_27, v_28, e_29, v_2a, e_2b, rfl, r_2c, o_2d, o_2e⟩, o_26⟩ [1] v_2f r_2i (hp.lendL [0, 1, 2, 3, 4] (by decide)) _ q_2n).mono ?_)
        rintro _ w_2o ⟨I_2p, F_2q, hv, hq5742, q_2r⟩
        replace hv := hv.symm
        subst hv
        obtain ⟨g_2s, E_2t, v_2u, e_2v, rfl, q_2w, o_2x⟩ := q_2r
        obtain ⟨v_2y, v_2z, e_30, v_31, e_32, rfl, r_33, o_34, o_35⟩ := q_2w
        have hs := hq5742.st
        have hp := hp.backL [0, 1, 2, 3, 4] [] (by decide) hq5742
        obtain ⟨y_36, q_37, h⟩ := bind_some h
        refine W.cut (γ := Bool) (fun g => [(0, (.bool (g)))]) (fun g w' => y_36 = (g) ∧ w_2o = w') ?_ ?_
        ·
          apply go
          refine sel_of (fun hc => ?_) (fun hc => ?_)
          ·
            have q_37 := cond_t q_37 hc
            refine sel_of (fun hc => ?_) (fun hc => ?_)
            ·
              have q_37 := cond_t q_37 hc
              refine sel_of (fun hc => ?_) (fun hc => ?_)
              ·
                have q_37 := cond_t q_37 hc
                refine sel_of (fun hc => ?_) (fun hc => ?_)
                ·
                  have q_37 := cond_t q_37 hc
                  refine sel_of (fun hc => ?_) (fun hc => ?_)
                  ·
                    have q_37 := cond_t q_37 hc
                    obtain rfl := Option.some.inj q_37
                    exact ⟨(x_2l == 9), (.c rfl .n), rfl, rfl⟩
                  ·
                    have q_37 := cond_f q_37 hc
                    obtain rfl := Option.some.inj q_37
                    exact ⟨false, (.c rfl .n), rfl, rfl⟩
                ·
                  have q_37 := cond_f q_37 hc
                  obtain rfl := Option.some.inj q_37
                  exact ⟨false, (.c rfl .n), rfl, rfl⟩
              ·
                have q_37 := cond_f q_37 hc
                obtain rfl := Option.some.inj q_37
                exact ⟨false, (.c rfl .n), rfl, rfl⟩
            ·
              have q_37 := cond_f q_37 hc
              obtain rfl := Option.some.inj q_37
              exact ⟨false, (.c rfl .n), rfl, rfl⟩
          ·
            have q_37 := cond_f q_37 hc
            obtain rfl := Option.some.inj q_37
            exact ⟨false, (.c rfl .n), rfl, rfl⟩
        ·
          rintro x_38 _ ⟨hy, rfl⟩
          replace hy := hy.symm
          subst hy
          apply go
          obtain rfl := Option.some.inj h
          exact ⟨rfl, hp.ch⟩

end Go.Proofs.YtkhmdpekfcahkaaDoor

namespace Go.Proofs.YtkhmdpekfcahkaaDoor
open Go Go.Proofs.YtkhmdpekfcahkaaDoor.Gw Go.RowKit
set_option linter.unusedVariables false
attribute [local irreducible] Ev EvQ EvS EvH
def ref42_Right_S (f : Task → Option Bool) : Prop := ∀ (w0 : World) (I0 : Nat → Prop) (x_0 : Task) (hI : ∀ g, I0 g → g < w0.heap.size) (r : Bool), f x_0 = some r →
    Ret Tryd.prog 14 #[(.agg #[(.int .i64 x_0.Kind), (.int .i64 x_0.Cell.X), (.int .i64 x_0.Cell.Y), (.int .i64 x_0.Limit), (.int .i64 x_0.Tries)])] w0 fun v w1 => v = (.bool r) ∧ Ch [] w0 w1
theorem ref42_Right_ok (n : Nat) : ref42_Right_S (ref42_Right n) := by
  intro w0 I0 x_0 hI r h
  unfold ref42_Right at h
  refine enter Tryd.func14 rfl (Nat.le_of_ble_eq_true rfl) ?_
  have hp : Hp ⟨w0, I0, []⟩ I0 [] w0 := Hp.start hI
  apply go
  apply go
  refine ev_boxI hp rfl rfl ?_
  intro p_1 I_2 w_3 hp hs a_4
  apply go
  obtain ⟨y_5, q_6, h⟩ := bind_some h
  refine W.cut (γ := Bool) (fun g => [(1, (.pointer (some (p_1)))), (20, (.bool (g)))]) (fun g w' => y_5 = (g) ∧ w_3 = w') ?_ ?_
  ·
    apply go
    refine ev0 (rn_field rfl rfl FO40_2) ?_
    refine ev (rn_load rfl rfl (run_loadVar1 T3 (a_4.2 3 _ rfl))) ?_
    refine sel_of (fun hc => ?_) (fun hc => ?_)
    ·
      have q_6 := cond_t q_6 hc
      obtain rfl := Option.some.inj q_6
      exact ⟨true, (.c rfl (.c rfl .n)), rfl, rfl⟩
    ·
      have q_6 := cond_f q_6 hc
      refine ev0 (rn_field rfl rfl FO40_2) ?_
      refine ev (rn_load rfl rfl (run_loadVar1 T3 (a_4.2 3 _ rfl))) ?_
      refine sel_of (fun hc => ?_) (fun hc => ?_)
      ·
        have q_6 := cond_t q_6 hc
        obtain rfl := Option.some.inj q_6
        exact ⟨true, (.c rfl (.c rfl .n)), rfl, rfl⟩
      ·
        have q_6 := cond_f q_6 hc
        refine ev0 (rn_field rfl rfl FO40_3) ?_
        refine ev (rn_load rfl rfl (run_loadVar1 T3 (a_4.2 4 _ rfl))) ?_
        refine sel_of (fun hc => ?_) (fun hc => ?_)
        ·
          have q_6 := cond_t q_6 hc
          obtain rfl := Option.some.inj q_6
          exact ⟨true, (.c rfl (.c rfl .n)), rfl, rfl⟩
        ·
          have q_6 := cond_f q_6 hc
          refine ev0 (rn_field rfl rfl FO40_3) ?_
          refine ev (rn_load rfl rfl (run_loadVar1 T3 (a_4.2 4 _ rfl))) ?_
          obtain rfl := Option.some.inj q_6
          exact ⟨(decide (x_0.Tries > 10)), (.c rfl (.c rfl .n)), rfl, rfl⟩
  ·
    rintro x_7 _ ⟨hy, rfl⟩
    replace hy := hy.symm
    subst hy
    apply go
    refine sel_of (fun hc => ?_) (fun hc => ?_)
    ·
      have h := cond_t h hc
      apply go
      apply go
      apply go
      obtain rfl := Option.some.inj h
      exact ⟨rfl, hp.ch⟩
    ·
      have h := cond_f h hc
      apply go
      apply go
      apply go
      apply go
      refine ev0 (rn_field rfl rfl FO40_0) ?_
      refine ev (rn_load rfl rfl (run_loadVar1 T3 (a_4.2 0 _ rfl))) ?_
      apply go
      apply go
      apply go
      apply go
      refine sel_of (fun hc => ?_) (fun hc => ?_)
      ·
        have h := cond_t h hc
        obtain ⟨y_8, q_9, h⟩ := bind_some h
        refine W.cut (γ := Bool) (fun g => [(2, (.bool (g)))]) (fun g w' => y_8 = (g) ∧ w_3 = w') ?_ ?_
        ·
          apply go
          refine ev0 (rn_field rfl rfl FO40_1) ?_
          refine ev0 (rn_fieldAt rfl rfl FO38_0) ?_
          refine ev (rn_load rfl rfl (run_loadVar1 T3 (a_4.2 1 _ rfl))) ?_
          refine sel_of (fun hc => ?_) (fun hc => ?_)
          ·
            have q_9 := cond_t q_9 hc
            refine ev0 (rn_field rfl rfl FO40_1) ?_
            refine ev0 (rn_fieldAt rfl rfl FO38_0) ?_
            refine ev (rn_load rfl rfl (run_loadVar1 T3 (a_4.2 1 _ rfl))) ?_
            refine sel_of (fun hc => ?_) (fun hc => ?_)
            ·
              have q_9 := cond_t q_9 hc
              refine ev0 (rn_field rfl rfl FO40_1) ?_
              refine ev0 (rn_fieldAt rfl rfl FO38_1) ?_
              refine ev (rn_load rfl rfl (run_loadVar1 T3 (a_4.2 2 _ rfl))) ?_
              refine sel_of (fun hc => ?_) (fun hc => ?_)
              ·
                have q_9 := cond_t q_9 hc
                refine ev0 (rn_field rfl rfl FO40_1) ?_
                refine ev0 (rn_fieldAt rfl rfl FO38_1) ?_
                refine ev (rn_load rfl rfl (run_loadVar1 T3 (a_4.2 2 _ rfl))) ?_
                obtain rfl := Option.some.inj q_9
                exact ⟨(decide (x_0.Cell.Y < 64)), (.c rfl .n), rfl, rfl⟩
              ·
                have q_9 := cond_f q_9 hc
                obtain rfl := Option.some.inj q_9
                exact ⟨false, (.c rfl .n), rfl, rfl⟩
            ·
              have q_9 := cond_f q_9 hc
              obtain rfl := Option.some.inj q_9
              exact ⟨false, (.c rfl .n), rfl, rfl⟩
          ·
            have q_9 := cond_f q_9 hc
            obtain rfl := Option.some.inj q_9
            exact ⟨false, (.c rfl .n), rfl, rfl⟩
        ·
          rintro x_a _ ⟨hy, rfl⟩
          replace hy := hy.symm
          subst hy
          apply go
          obtain rfl := Option.some.inj h
          exact ⟨rfl, hp.ch⟩
      ·
        have h := cond_f h hc
        obtain ⟨y_b, q_c, h⟩ := bind_some h
        refine W.cut (γ := Bool) (fun g => [(1, (.pointer (some (p_1)))), (47, (.bool (g)))]) (fun g w' => y_b = (g) ∧ w_3 = w') ?_ ?_
        ·
          apply go
          apply go
          apply go
          refine sel_of (fun hc => ?_) (fun hc => ?_)
          ·
            have q_c := cond_t q_c hc
            apply go
            obtain rfl := Option.some.inj q_c
            exact ⟨(x_0.Kind == 2), (.c rfl (.c rfl .n)), rfl, rfl⟩
          ·
            have q_c := cond_f q_c hc
            apply go
            obtain rfl := Option.some.inj q_c
            exact ⟨(x_0.Kind == 3), (.c rfl (.c rfl .n)), rfl, rfl⟩
        ·
          rintro x_d _ ⟨hy, rfl⟩
          replace hy := hy.symm
          subst hy
          apply go
          refine sel_of (fun hc => ?_) (fun hc => ?_)
          ·
            have h := cond_t h hc
            apply go
            apply go
            refine ev0 (rn_field rfl rfl FO40_1) ?_
            refine ev (rn_load rfl rfl (run_loadVarA T38 rfl ((a_4.drop 1).take 2))) ?_
            refine ev0 (fun w => rn_build (cs := [(.int .i64 0), (.int .i64 0)]) rfl rfl T38 PL38 rfl) ?_
            refine ev0 (rn_eqA rfl rfl rfl (EQ38 x_0.Cell.X x_0.Cell.Y 0 0)) ?_
            apply go
            obtain rfl := Option.some.inj h
            exact ⟨rfl, hp.ch⟩
          ·
            have h := cond_f h hc
            apply go
            apply go
            apply go
            apply go
            obtain rfl := Option.some.inj h
            exact ⟨rfl, hp.ch⟩

end Go.Proofs.YtkhmdpekfcahkaaDoor

namespace Go.Proofs.YtkhmdpekfcahkaaDoor
open Go Go.Proofs.YtkhmdpekfcahkaaDoor.Gw Go.RowKit
set_option linter.unusedVariables false
attribute [local irreducible] Ev EvQ EvS EvH
def ref42_Build_S (f : (List Task) → Option (Node × Int)) : Prop := ∀ (w0 : World) (I0 : Nat → Prop) (x_0 : (List Task)) (v_1 : Value) (r_2 : RepS dTask w0 I0 v_1 x_0) (hI : ∀ g, I0 g → g < w0.heap.size) (r : (Node × Int)), f x_0 = some r →
    Ret Tryd.prog 6 #[v_1] w0 fun v w1 => ∃ (I1 : Nat → Prop) (u_3 : Value), v = (.tuple #[(.agg #[(.int .i64 r.1.Kind), (.int .i64 r.1.Name), (.int .i64 r.1.Count), u_3]), (.int .i64 r.2)]) ∧ Hp ⟨w0, I0, []⟩ I1 [] w1 ∧ RepS dNode w1 I1 u_3 r.1.Kids
theorem ref42_Build_ok (n : Nat) : ref42_Build_S (ref42_Build n) := by
  intro w0 I0 x_0 v_1 r_2 hI r h
  unfold ref42_Build at h
  refine enter Tryd.func6 rfl (Nat.le_of_ble_eq_true rfl) ?_
  have hp : Hp ⟨w0, I0, []⟩ I0 [] w0 := Hp.start hI
  apply go
  apply go
  refine ev_alloc hp rfl T26 ?_
  intro g_3 w_4 hp hs
  replace r_2 := r_2.step hs
  apply go
  apply go
  apply go
  refine ev0 (rn_len rfl rfl Tryd.underlying22 r_2) ?_
  apply go
  refine sel_of (fun hc => ?_) (fun hc => ?_)
  ·
    have h := cond_t h hc
    apply go
    apply go
    refine ev0 (fun w => rn_build (cs := [(.int .i64 0), (.int .i64 0), (.int .i64 0), (.slice none 0 0)]) rfl rfl T26 PL26 rfl) ?_
    refine ev_storeA hp (i := 0) (off := 0) (vs := [(.int .i64 0), (.int .i64 0), (.int .i64 0), (.slice none 0 0)]) rfl rfl rfl rfl T26 rfl (Nat.le_of_ble_eq_true rfl) (ones_of rfl) ?_
    intro w_5 hp hs
    apply go
    obtain rfl := Option.some.inj h
    refine ⟨_, run_loadVarA T26 rfl (hp.at_ (i := 0) rfl), ?_⟩
    have hp := hp.sel [] (by decide)
    exact ⟨I0, .slice none 0 0, rfl, hp, RepS.nil _ _ _⟩
  ·
    have h := cond_f h hc
    apply go
    obtain ⟨y_6, q_7, h⟩ := bind_some h
    refine W.cut (γ := Unit) (fun _ => [(0, v_1), (2, (.pointer (some ⟨g_3, 0, none⟩)))]) (fun _ w' => y_6 = .go () ∧ Hp ⟨w0, I0, []⟩ I0 [some (g_3, [(.int .i64 0), (.int .i64 0), (.int .i64 0), (.slice none 0 0)], 26)] w' ∧ RepS dTask w' I0 v_1 x_0) ?_ ?_
    ·
      apply go
      apply go
      apply go
      refine W.loop q_7 (γ := Unit) (fun s _ => [(0, v_1), (2, (.pointer (some ⟨g_3, 0, none⟩))), (4, (.int .i64 (s)))]) (fun s _ w' => Hp ⟨w0, I0, []⟩ I0 [some (g_3, [(.int .i64 0), (.int .i64 0), (.int .i64 0), (.slice none 0 0)], 26)] w' ∧ RepS dTask w' I0 v_1 x_0) () (.c rfl (.c rfl (.c rfl .n))) ⟨hp, r_2⟩ ?_
      rintro x_8 ⟨⟩ w_9 y_a ⟨hp, r_2⟩ q_b q_c
      unfold ref42_Build_L1 at q_b
      apply go
      apply go
      apply go
      refine ev0 (rn_len rfl rfl Tryd.underlying22 r_2) ?_
      apply go
      refine sel_of (fun hc => ?_) (fun hc => ?_)
      ·
        have q_b := cond_t q_b hc
        apply go
        apply go
        apply go
        apply go
        apply go
        obtain ⟨x_d, q_e, q_b⟩ := bind_some q_b
        refine ev_index rfl rfl rfl Tryd.underlying22 T40 r_2 q_e ?_
        intro p_f c_g d_h a_i
        obtain rfl := dTask_o d_h
        refine ev (rn_load rfl rfl (run_loadVarA T40 rfl a_i)) ?_
        obtain ⟨x_j, q_k, q_b⟩ := bind_some q_b
        refine ev_call rfl rfl C14 (((ref42_Right_ok n) _ _  (Task.mk x_d.Kind (Cell.mk x_d.Cell.X x_d.Cell.Y) x_d.Limit x_d.Tries) hp.imm _ q_k).mono ?_)
        rintro _ w_l ⟨rfl, hc⟩
        have hs := hp.stp hc
        replace hp := hp.ext hc
        replace r_2 := r_2.step hs
        apply go
        refine sel_of (fun hc => ?_) (fun hc => ?_)
        ·
          have q_b := cond_t q_b hc
          apply go
          apply go
          refine ev0 (fun w => rn_build (cs := [(.int .i64 0), (.int .i64 0), (.int .i64 0), (.slice none 0 0)]) rfl rfl T26 PL26 rfl) ?_
          refine ev_storeA hp (i := 0) (off := 0) (vs := [(.int .i64 0), (.int .i64 0), (.int .i64 0), (.slice none 0 0)]) rfl rfl rfl rfl T26 rfl (Nat.le_of_ble_eq_true rfl) (ones_of rfl) ?_
          intro w_m hp hs
          apply go
          have q_n := congrArg some (q_c _ (Option.some.inj q_b).symm)
          obtain rfl := Option.some.inj q_n
          obtain rfl := Option.some.inj h
          refine ⟨_, run_loadVarA T26 rfl (hp.at_ (i := 0) rfl), ?_⟩
          have hp := hp.sel [] (by decide)
          exact ⟨I0, .slice none 0 0, rfl, hp, RepS.nil _ _ _⟩
        ·
          have q_b := cond_f q_b hc
          apply go
          apply go
          exact ⟨_, (Option.some.inj q_b).symm, (), (.c rfl (.c rfl (.c rfl .n))), ⟨hp, r_2⟩⟩
      ·
        have q_b := cond_f q_b hc
        apply go
        have q_o := congrArg some (q_c _ (Option.some.inj q_b).symm)
        obtain rfl := Option.some.inj q_o
        exact ⟨(), (.c rfl (.c rfl .n)), rfl, hp, r_2⟩
    ·
      rintro ⟨⟩ w_p ⟨hy, hp, r_2⟩
      replace hy := hy.symm
      subst hy
      apply go
      apply go
      refine ev0 (fun w => rn_build (cs := [(.int .i64 3), (.int .i64 0), (.int .i64 0), (.slice none 0 0)]) rfl rfl T26 PL26 rfl) ?_
      refine ev_alloc hp rfl T26 ?_
      intro g_q w_r hp hs
      replace r_2 := r_2.step hs
      refine ev_storeA hp (i := 0) (off := 0) (vs := [(.int .i64 3), (.int .i64 0), (.int .i64 0), (.slice none 0 0)]) rfl rfl rfl rfl T26 rfl (Nat.le_of_ble_eq_true rfl) (ones_of rfl) ?_
      intro w_s hp hs
      replace r_2 := r_2.step hs
      obtain ⟨y_t, q_u, h⟩ := bind_some h
      refine W.cut (γ := ((List Node) × Value × Ent × (Nat → Prop))) (fun g => [(2, (.pointer (some ⟨g_3, 0, none⟩))), (5, (.pointer (some ⟨g_q, 0, none⟩)))]) (fun g w' => y_t = (g.1) ∧ Hp ⟨w0, I0, []⟩ (g.2.2.2) [some (g_3, [(.int .i64 0), (.int .i64 0), (.int .i64 0), (.slice none 0 0)], 26), (g.2.2.1), some (g_q, [(.int .i64 3), (.int .i64 0), (.int .i64 0), (g.2.1)], 26)] w' ∧ OwnS dNode 26 w' (g.2.2.2) (g.2.1) (g.2.2.1) (g.1)) ?_ ?_
      ·
        apply go
        apply go
        apply go
        have hp := hp.none_
        have o_v := OwnS.nil dNode 26 w_s I0
        have hp := hp.perm [2, 0, 1] (by decide)
        refine W.loop q_u (γ := (Value × Ent × (Nat → Prop))) (fun s g => [(0, v_1), (2, (.pointer (some ⟨g_3, 0, none⟩))), (5, (.pointer (some ⟨g_q, 0, none⟩))), (6, (.int .i64 (s.2)))]) (fun s g w' => Hp ⟨w0, I0, []⟩ (g.2.2) [some (g_3, [(.int .i64 0), (.int .i64 0), (.int .i64 0), (.slice none 0 0)], 26), (g.2.1), some (g_q, [(.int .i64 3), (.int .i64 0), (.int .i64 0), (g.1)], 26)] w' ∧ RepS dTask w' (g.2.2) v_1 x_0 ∧ OwnS dNode 26 w' (g.2.2) (g.1) (g.2.1) (s.1)) ((.slice none 0 0), none, I0) (.c rfl (.c rfl (.c rfl (.c rfl .n)))) ⟨hp, r_2, o_v⟩ ?_
        rintro ⟨x_w, x_x⟩ ⟨v_y, e_z, I_10⟩ w_11 y_12 ⟨hp, r_2, o_13⟩ q_14 q_15
        unfold ref42_Build_L3 at q_14
        apply go
        apply go
        apply go
        refine ev0 (rn_len rfl rfl Tryd.underlying22 r_2) ?_
        apply go
        refine sel_of (fun hc => ?_) (fun hc => ?_)
        ·
          have q_14 := cond_t q_14 hc
          apply go
          apply go
          apply go
          apply go
          apply go
          refine ev0 (fun w => rn_build (cs := [(.int .i64 1), (.int .i64 (IntKind.i64.wrap (32 + x_x))), (.int .i64 0), (.slice none 0 0)]) rfl rfl T26 PL26 rfl) ?_
          refine ev0 (fun w => rn_build (cs := [(.int .i64 2), (.int .i64 63), (.int .i64 0), (.slice none 0 0)]) rfl rfl T26 PL26 rfl) ?_
          refine ev_litN (d := dNode) (xs := [(Node.mk 1 (IntKind.i64.wrap (32 + x_x)) 0 []), (Node.mk 2 63 0 [])]) (cs := [(.int .i64 1), (.int .i64 (IntKind.i64.wrap (32 + x_x))), (.int .i64 0), (.slice none 0 0), (.int .i64 2), (.int .i64 63), (.int .i64 0), (.slice none 0 0)]) hp rfl rfl Tryd.underlying24 T26 (by decide) (by kernel_rfl) rfl (Elems.cons (d := dNode) (xs := _) (dNode_m (x := (Node.mk 1 (IntKind.i64.wrap (32 + x_x)) 0 [])) (RepS.nil _ _ _)) (Elems.cons (d := dNode) (xs := _) (dNode_m (x := (Node.mk 2 63 0 [])) (RepS.nil _ _ _)) (Elems.nil _ _ _ _))) ?_
          intro v_16 I_17 w_18 hp hs r_19
          replace r_2 := r_2.step hs
          replace o_13 := o_13.step hs
          obtain ⟨A_1a, m_1b, m_1c, rfl⟩ := r_19.isSl
          refine ev0 (fun w => rn_build (cs := [(.int .i64 3), (.int .i64 0), (.int .i64 0), (.slice A_1a m_1b m_1c)]) rfl rfl T26 PL26 rfl) ?_
          refine ev_alloc hp rfl T26 ?_
          intro g_1d w_1e hp hs
          replace r_2 := r_2.step hs
          replace r_19 := r_19.step hs
          replace o_13 := o_13.step hs
          refine ev_storeA hp (i := 0) (off := 0) (vs := [(.int .i64 3), (.int .i64 0), (.int .i64 0), (.slice A_1a m_1b m_1c)]) rfl rfl rfl rfl T26 rfl (Nat.le_of_ble_eq_true rfl) (ones_cons rfl (ones_cons rfl (ones_cons rfl (ones_cons r_19.one ones_nil)))) ?_
          intro w_1f hp hs
          replace r_2 := r_2.step hs
          replace r_19 := r_19.step hs
          replace o_13 := o_13.step hs
          apply go
          apply go
          refine ev0 (fun w => rn_build (cs := [(.int .i64 2), (.int .i64 x_x), (.int .i64 0), (.slice none 0 0)]) rfl rfl T26 PL26 rfl) ?_
          refine ev0 (fun w => rn_build (cs := [(.int .i64 1), (.int .i64 x_x), (.int .i64 0), (.slice none 0 0)]) rfl rfl T26 PL26 rfl) ?_
          refine ev (rn_load rfl rfl (run_loadVarA T26 rfl (hp.at_ (i := 0) rfl))) ?_
          refine ev_litN (d := dNode) (xs := [(Node.mk 2 x_x 0 []), (Node.mk 1 x_x 0 []), (Node.mk 3 0 0 [(Node.mk 1 (IntKind.i64.wrap (32 + x_x)) 0 []), (Node.mk 2 63 0 [])])]) (cs := [(.int .i64 2), (.int .i64 x_x), (.int .i64 0), (.slice none 0 0), (.int .i64 1), (.int .i64 x_x), (.int .i64 0), (.slice none 0 0), (.int .i64 3), (.int .i64 0), (.int .i64 0), (.slice A_1a m_1b m_1c)]) hp rfl rfl Tryd.underlying24 T26 (by decide) (by kernel_rfl) rfl (Elems.cons (d := dNode) (xs := _) (dNode_m (x := (Node.mk 2 x_x 0 [])) (RepS.nil _ _ _)) (Elems.cons (d := dNode) (xs := _) (dNode_m (x := (Node.mk 1 x_x 0 [])) (RepS.nil _ _ _)) (Elems.cons (d := dNode) (xs := _) (dNode_m (x := (Node.mk 3 0 0 [(Node.mk 1 (IntKind.i64.wrap (32 + x_x)) 0 []), (Node.mk 2 63 0 [])])) r_19) (Elems.nil _ _ _ _)))) ?_
          intro v_1g I_1h w_1i hp hs r_1j
          replace r_2 := r_2.step hs
          replace r_19 := r_19.step hs
          replace o_13 := o_13.step hs
          obtain ⟨A_1k, m_1l, m_1m, rfl⟩ := r_1j.isSl
          refine ev0 (fun w => rn_build (cs := [(.int .i64 4), (.int .i64 0), (.int .i64 0), (.slice A_1k m_1l m_1m)]) rfl rfl T26 PL26 rfl) ?_
          refine ev_alloc hp rfl T26 ?_
          intro g_1n w_1o hp hs
          replace r_2 := r_2.step hs
          replace r_1j := r_1j.step hs
          replace r_19 := r_19.step hs
          replace o_13 := o_13.step hs
          refine ev_storeA hp (i := 0) (off := 0) (vs := [(.int .i64 4), (.int .i64 0), (.int .i64 0), (.slice A_1k m_1l m_1m)]) rfl rfl rfl rfl T26 rfl (Nat.le_of_ble_eq_true rfl) (ones_cons rfl (ones_cons rfl (ones_cons rfl (ones_cons r_1j.one ones_nil)))) ?_
          intro w_1p hp hs
          replace r_2 := r_2.step hs
          replace r_1j := r_1j.step hs
          replace r_19 := r_19.step hs
          replace o_13 := o_13.step hs
          obtain ⟨y_1q, q_1r, q_14⟩ := bind_some q_14
          refine W.cut (γ := (Int × (List Node) × Nat × Value × (Nat → Prop))) (fun g => [(0, v_1), (2, (.pointer (some ⟨g_3, 0, none⟩))), (5, (.pointer (some ⟨g_q, 0, none⟩))), (6, (.int .i64 x_x)), (9, (.pointer (some ⟨(g.2.2.1), 0, none⟩)))]) (fun g w' => y_1q = ((g.1), (g.2.1)) ∧ Hp ⟨w0, I0, []⟩ (g.2.2.2.2) [some (g_3, [(.int .i64 0), (.int .i64 0), (.int .i64 0), (.slice none 0 0)], 26), e_z, some (g_q, [(.int .i64 3), (.int .i64 0), (.int .i64 0), v_y], 26), some ((g.2.2.1), [(.int .i64 7), (.int .i64 0), (.int .i64 (g.1)), (g.2.2.2.1)], 26)] w' ∧ RepS dTask w' (g.2.2.2.2) v_1 x_0 ∧ OwnS dNode 26 w' (g.2.2.2.2) v_y e_z x_w ∧ RepS dNode w' (g.2.2.2.2) (g.2.2.2.1) (g.2.1)) ?_ ?_
          ·
            have hs := hp.stp (Ch.drew [] w_1p)
            have hp := hp.drew
            replace r_2 := r_2.step hs
            replace r_1j := r_1j.step hs
            replace r_19 := r_19.step hs
            replace o_13 := o_13.step hs
            refine W.heldG (.q 0 (.q 1 (.q 2 (.q 3 (.q 4 (.q 5 (.l 6 (.q 7 (.l 8 (.l 9 .done .no) .no)) (.l 8 (.l 6 (.q 7 (.l 9 .done .no)) .no) .no)))))))) (SK (Stp I_1h w_1p.drew I_1h) [(g_1n, [(.int .i64 4), (.int .i64 0), (.int .i64 0), (.slice A_1k m_1l m_1m)], 26)] [[]]) MX (by kernel_rfl) ⟨Stp.refl _ _, (kp_cons (fun _ => (hp.own 0 _ _ _ rfl).1) kp_nil)⟩ ?_
            have hz := Stp.refl I_1h w_1p.drew
            refine ⟨SK.same (by kernel_rfl), ?_⟩
            refine ⟨SK.same (by kernel_rfl), ?_⟩
            refine ⟨SK.same (by kernel_rfl), ?_⟩
            obtain ⟨x_1s, q_1t, q_1r⟩ := bind_some q_1r
            refine evh_index rfl rfl rfl Tryd.underlying22 T40 r_2 q_1t ?_
            intro p_1u c_1v d_1w a_1x
            obtain rfl := dTask_o d_1w
            refine ⟨SK.same (by kernel_rfl), ?_⟩
            refine evh0 (rn_field rfl rfl FO40_3) ?_
            refine ⟨SK.same (by kernel_rfl), ?_⟩
            refine evh (fun w' hw => rn_load rfl rfl (run_loadVar1 T3 ((a_1x.step (S0.si hw)).2 4 _ rfl))) ?_
            refine ⟨SK.same (by kernel_rfl), ?_⟩
            refine evh (fun w' hw => rn_load rfl rfl (run_loadVarA T26 rfl ((S0.keep (p := 0) hw rfl rfl (by kernel_rfl)).at_ (i := 0) rfl))) ?_
            refine ⟨?_, ?_⟩
            ·
              refine ev_litN (d := dNode) (xs := [(Node.mk 4 0 0 [(Node.mk 2 x_x 0 []), (Node.mk 1 x_x 0 []), (Node.mk 3 0 0 [(Node.mk 1 (IntKind.i64.wrap (32 + x_x)) 0 []), (Node.mk 2 63 0 [])])])]) (cs := [(.int .i64 4), (.int .i64 0), (.int .i64 0), (.slice A_1k m_1l m_1m)]) hp rfl rfl Tryd.underlying24 T26 (by decide) rfl rfl (Elems.cons (d := dNode) (xs := _) (dNode_m (x := (Node.mk 4 0 0 [(Node.mk 2 x_x 0 []), (Node.mk 1 x_x 0 []), (Node.mk 3 0 0 [(Node.mk 1 (IntKind.i64.wrap (32 + x_x)) 0 []), (Node.mk 2 63 0 [])])])) r_1j) (Elems.nil _ _ _ _)) ?_
              intro v_1y I_1z w_20 hp hs r_21
              replace hz := hz.trans hs
              replace r_2 := r_2.step hs
              replace r_1j := r_1j.step hs
              replace r_19 := r_19.step hs
              replace o_13 := o_13.step hs
              refine ⟨SK (Stp I_1z w_20 I_1z) [(g_1n, [(.int .i64 4), (.int .i64 0), (.int .i64 0), (.slice A_1k m_1l m_1m)], 26)] [[]], ⟨Stp.refl _ _, (kp_cons (fun _ => (hp.own 0 _ _ _ rfl).1) kp_nil)⟩, fun L x h => ⟨hz.held h.1, h.2⟩, ?_⟩
              have hz := Stp.refl I_1z w_20
              refine ⟨SK.same (by kernel_rfl), ?_⟩
              obtain ⟨A_22, m_23, m_24, rfl⟩ := r_21.isSl
              refine evh0 (fun w => rn_build (cs := [(.int .i64 7), (.int .i64 0), (.int .i64 x_1s.Tries), (.slice A_22 m_23 m_24)]) rfl rfl T26 PL26 rfl) ?_
              refine ⟨?_, trivial⟩
              refine ev_alloc hp rfl T26 ?_
              intro g_25 w_26 hp hs
              replace hz := hz.trans hs
              replace r_2 := r_2.step hs
              replace r_21 := r_21.step hs
              replace r_1j := r_1j.step hs
              replace r_19 := r_19.step hs
              replace o_13 := o_13.step hs
              refine ⟨SK (Stp I_1z w_26 I_1z) [(g_1n, [(.int .i64 4), (.int .i64 0), (.int .i64 0), (.slice A_1k m_1l m_1m)], 26)] [[]], ⟨Stp.refl _ _, (kp_cons (fun _ => (hp.own 1 _ _ _ rfl).1) kp_nil)⟩, fun L x h => ⟨hz.held h.1, h.2⟩, ?_⟩
              have hz := Stp.refl I_1z w_26
              refine ⟨?_, trivial⟩
              refine ev_storeA hp (i := 0) (off := 0) (vs := [(.int .i64 7), (.int .i64 0), (.int .i64 x_1s.Tries), (.slice A_22 m_23 m_24)]) rfl rfl rfl rfl T26 rfl (Nat.le_of_ble_eq_true rfl) (ones_cons rfl (ones_cons rfl (ones_cons rfl (ones_cons r_21.one ones_nil)))) ?_
              intro w_27 hp hs
              replace hz := hz.trans hs
              replace r_2 := r_2.step hs
              replace r_21 := r_21.step hs
              replace r_1j := r_1j.step hs
              replace r_19 := r_19.step hs
              replace o_13 := o_13.step hs
              refine ⟨SK (Stp I_1z w_27 I_1z) [(g_1n, [(.int .i64 4), (.int .i64 0), (.int .i64 0), (.slice A_1k m_1l m_1m)], 26)] [[]], ⟨Stp.refl _ _, (kp_cons (fun _ => (hp.own 1 _ _ _ rfl).1) kp_nil)⟩, fun L x h => ⟨hz.held h.1, h.2⟩, ?_⟩
              have hz := Stp.refl I_1z w_27
              obtain rfl := Option.some.inj q_1r
              have hp := hp.perm [3, 4, 5, 0] (by decide)
              exact ⟨(x_1s.Tries, [(Node.mk 4 0 0 [(Node.mk 2 x_x 0 []), (Node.mk 1 x_x 0 []), (Node.mk 3 0 0 [(Node.mk 1 (IntKind.i64.wrap (32 + x_x)) 0 []), (Node.mk 2 63 0 [])])])], g_25, (.slice A_22 m_23 m_24), I_1z), (.c rfl (.c rfl (.c rfl (.c rfl (.c rfl .n))))), rfl, hp, r_2, o_13, r_21⟩
            refine ⟨?_, trivial⟩
            refine ev_alloc hp rfl T26 ?_
            intro g_28 w_29 hp hs
            replace hz := hz.trans hs
            replace r_2 := r_2.step hs
            replace r_1j := r_1j.step hs
            replace r_19 := r_19.step hs
            replace o_13 := o_13.step hs
            refine ⟨SK (Stp I_1h w_29 I_1h) [(g_1n, [(.int .i64 4), (.int .i64 0), (.int .i64 0), (.slice A_1k m_1l m_1m)], 26)] [[]], ⟨Stp.refl _ _, (kp_cons (fun _ => (hp.own 1 _ _ _ rfl).1) kp_nil)⟩, fun L x h => ⟨hz.held h.1, h.2⟩, ?_⟩
            have hz := Stp.refl I_1h w_29
            refine ⟨?_, trivial⟩
            refine ev_litN (d := dNode) (xs := [(Node.mk 4 0 0 [(Node.mk 2 x_x 0 []), (Node.mk 1 x_x 0 []), (Node.mk 3 0 0 [(Node.mk 1 (IntKind.i64.wrap (32 + x_x)) 0 []), (Node.mk 2 63 0 [])])])]) (cs := [(.int .i64 4), (.int .i64 0), (.int .i64 0), (.slice A_1k m_1l m_1m)]) hp rfl rfl Tryd.underlying24 T26 (by decide) rfl rfl (Elems.cons (d := dNode) (xs := _) (dNode_m (x := (Node.mk 4 0 0 [(Node.mk 2 x_x 0 []), (Node.mk 1 x_x 0 []), (Node.mk 3 0 0 [(Node.mk 1 (IntKind.i64.wrap (32 + x_x)) 0 []), (Node.mk 2 63 0 [])])])) r_1j) (Elems.nil _ _ _ _)) ?_
            intro v_2a I_2b w_2c hp hs r_2d
            replace hz := hz.trans hs
            replace r_2 := r_2.step hs
            replace r_1j := r_1j.step hs
            replace r_19 := r_19.step hs
            replace o_13 := o_13.step hs
            refine ⟨SK (Stp I_2b w_2c I_2b) [(g_1n, [(.int .i64 4), (.int .i64 0), (.int .i64 0), (.slice A_1k m_1l m_1m)], 26)] [[]], ⟨Stp.refl _ _, (kp_cons (fun _ => (hp.own 1 _ _ _ rfl).1) kp_nil)⟩, fun L x h => ⟨hz.held h.1, h.2⟩, ?_⟩
            have hz := Stp.refl I_2b w_2c
            refine ⟨SK.same (by kernel_rfl), ?_⟩
            obtain ⟨A_2e, m_2f, m_2g, rfl⟩ := r_2d.isSl
            refine evh0 (fun w => rn_build (cs := [(.int .i64 7), (.int .i64 0), (.int .i64 x_1s.Tries), (.slice A_2e m_2f m_2g)]) rfl rfl T26 PL26 rfl) ?_
            refine ⟨?_, trivial⟩
            refine ev_storeA hp (i := 0) (off := 0) (vs := [(.int .i64 7), (.int .i64 0), (.int .i64 x_1s.Tries), (.slice A_2e m_2f m_2g)]) rfl rfl rfl rfl T26 rfl (Nat.le_of_ble_eq_true rfl) (ones_cons rfl (ones_cons rfl (ones_cons rfl (ones_cons r_2d.one ones_nil)))) ?_
            intro w_2h hp hs
            replace hz := hz.trans hs
            replace r_2 := r_2.step hs
            replace r_2d := r_2d.step hs
            replace r_1j := r_1j.step hs
            replace r_19 := r_19.step hs
            replace o_13 := o_13.step hs
            refine ⟨SK (Stp I_2b w_2h I_2b) [(g_1n, [(.int .i64 4), (.int .i64 0), (.int .i64 0), (.slice A_1k m_1l m_1m)], 26)] [[]], ⟨Stp.refl _ _, (kp_cons (fun _ => (hp.own 1 _ _ _ rfl).1) kp_nil)⟩, fun L x h => ⟨hz.held h.1, h.2⟩, ?_⟩
            have hz := Stp.refl I_2b w_2h
            obtain rfl := Option.some.inj q_1r
            have hp := hp.perm [3, 4, 5, 0] (by decide)
            exact ⟨(x_1s.Tries, [(Node.mk 4 0 0 [(Node.mk 2 x_x 0 []), (Node.mk 1 x_x 0 []), (Node.mk 3 0 0 [(Node.mk 1 (IntKind.i64.wrap (32 + x_x)) 0 []), (Node.mk 2 63 0 [])])])], g_28, (.slice A_2e m_2f m_2g), I_2b), (.c rfl (.c rfl (.c rfl (.c rfl (.c rfl .n))))), rfl, hp, r_2, o_13, r_2d⟩
          ·
            rintro ⟨x_2i, x_2j, g_2k, v_2l, I_2m⟩ w_2n ⟨hy, hp, r_2, o_13, r_2o⟩
            replace hy := hy.symm
            subst hy
            have hs := hp.stp (Ch.drew [] w_2n)
            have hp := hp.drew
            replace r_2 := r_2.step hs
            replace o_13 := o_13.step hs
            replace r_2o := r_2o.step hs
            refine W.heldG (.q 0 (.q 1 (.q 2 (.q 3 (.q 4 (.q 5 (.q 6 (.q 7 (.l 8 (.q 9 (.l 10 (.l 11 (.q 12 (.l 13 .done .no)) .no) .no)) .no))))))))) (SK (Stp I_2m w_2n.drew I_2m) [(g_q, [(.int .i64 3), (.int .i64 0), (.int .i64 0), v_y], 26), (g_2k, [(.int .i64 7), (.int .i64 0), (.int .i64 x_2i), v_2l], 26)] [[13], []]) MX (by kernel_rfl) ⟨Stp.refl _ _, (kp_cons (fun _ => (hp.own 2 _ _ _ rfl).1) (kp_cons (fun _ => (hp.own 3 _ _ _ rfl).1) kp_nil))⟩ ?_
            have hz := Stp.refl I_2m w_2n.drew
            refine ⟨SK.same (by kernel_rfl), ?_⟩
            refine evh0 (rn_field rfl rfl FO26_3) ?_
            refine ⟨SK.same (by kernel_rfl), ?_⟩
            refine evh (fun w' hw => rn_load rfl rfl (run_loadVar1 T24 ((S0.keep (p := 0) hw rfl rfl (by kernel_rfl)).cell (i := 0) (off := 3) rfl rfl))) ?_
            refine ⟨SK.same (by kernel_rfl), ?_⟩
            refine ⟨SK.same (by kernel_rfl), ?_⟩
            refine ⟨SK.same (by kernel_rfl), ?_⟩
            obtain ⟨x_2p, q_2q, q_14⟩ := bind_some q_14
            refine evh_index rfl rfl rfl Tryd.underlying22 T40 r_2 q_2q ?_
            intro p_2r c_2s d_2t a_2u
            obtain rfl := dTask_o d_2t
            refine ⟨SK.same (by kernel_rfl), ?_⟩
            refine evh0 (rn_field rfl rfl FO40_2) ?_
            refine ⟨SK.same (by kernel_rfl), ?_⟩
            refine evh (fun w' hw => rn_load rfl rfl (run_loadVar1 T3 ((a_2u.step (S0.si hw)).2 3 _ rfl))) ?_
            refine ⟨SK.same (by kernel_rfl), ?_⟩
            refine evh (fun w' hw => rn_load rfl rfl (run_loadVarA T26 rfl ((S0.keep (p := 1) hw rfl rfl (by kernel_rfl)).at_ (i := 0) rfl))) ?_
            refine ⟨?_, trivial⟩
            obtain ⟨A_2v, m_2w, m_2x, rfl⟩ := r_2o.isSl
            refine ev_litN (d := dNode) (xs := [(Node.mk 7 0 x_2i x_2j)]) (cs := [(.int .i64 7), (.int .i64 0), (.int .i64 x_2i), (.slice A_2v m_2w m_2x)]) hp rfl rfl Tryd.underlying24 T26 (by decide) rfl rfl (Elems.cons (d := dNode) (xs := _) (dNode_m (x := (Node.mk 7 0 x_2i x_2j)) r_2o) (Elems.nil _ _ _ _)) ?_
            intro v_2y I_2z w_30 hp hs r_31
            replace hz := hz.trans hs
            replace r_2 := r_2.step hs
            replace o_13 := o_13.step hs
            replace r_2o := r_2o.step hs
            refine ⟨SK (Stp I_2z w_30 I_2z) [(g_q, [(.int .i64 3), (.int .i64 0), (.int .i64 0), v_y], 26), (g_2k, [(.int .i64 7), (.int .i64 0), (.int .i64 x_2i), (.slice A_2v m_2w m_2x)], 26)] [[13], []], ⟨Stp.refl _ _, (kp_cons (fun _ => (hp.own 2 _ _ _ rfl).1) (kp_cons (fun _ => (hp.own 3 _ _ _ rfl).1) kp_nil))⟩, fun L x h => ⟨hz.held h.1, h.2⟩, ?_⟩
            have hz := Stp.refl I_2z w_30
            refine ⟨SK.same (by kernel_rfl), ?_⟩
            obtain ⟨A_32, m_33, m_34, rfl⟩ := r_31.isSl
            refine evh0 (fun w => rn_build (cs := [(.int .i64 8), (.int .i64 0), (.int .i64 x_2p.Limit), (.slice A_32 m_33 m_34)]) rfl rfl T26 PL26 rfl) ?_
            refine ⟨?_, trivial⟩
            refine ev_litN (d := dNode) (xs := [(Node.mk 8 0 x_2p.Limit [(Node.mk 7 0 x_2i x_2j)])]) (cs := [(.int .i64 8), (.int .i64 0), (.int .i64 x_2p.Limit), (.slice A_32 m_33 m_34)]) hp rfl rfl Tryd.underlying24 T26 (by decide) rfl rfl (Elems.cons (d := dNode) (xs := _) (dNode_m (x := (Node.mk 8 0 x_2p.Limit [(Node.mk 7 0 x_2i x_2j)])) r_31) (Elems.nil _ _ _ _)) ?_
            intro v_35 I_36 w_37 hp hs r_38
            replace hz := hz.trans hs
            replace r_2 := r_2.step hs
            replace o_13 := o_13.step hs
            replace r_2o := r_2o.step hs
            refine ⟨SK (Stp I_36 w_37 I_36) [(g_q, [(.int .i64 3), (.int .i64 0), (.int .i64 0), v_y], 26), (g_2k, [(.int .i64 7), (.int .i64 0), (.int .i64 x_2i), (.slice A_2v m_2w m_2x)], 26)] [[13], []], ⟨Stp.refl _ _, (kp_cons (fun _ => (hp.own 2 _ _ _ rfl).1) (kp_cons (fun _ => (hp.own 3 _ _ _ rfl).1) kp_nil))⟩, fun L x h => ⟨hz.held h.1, h.2⟩, ?_⟩
            have hz := Stp.refl I_36 w_37
            refine ⟨?_, trivial⟩
            obtain ⟨x_39, q_3a, q_14⟩ := bind_some q_14
            refine ev_append hp (i := 1) rfl rfl rfl rfl Tryd.underlying24 T26 rfl rfl o_13 r_38 q_3a ?_
            rintro v_3b e_3c w_3d hp hs o_3e
            replace hz := hz.trans hs
            replace r_2 := r_2.step hs
            replace o_13 := o_13.step hs
            replace r_2o := r_2o.step hs
            refine ⟨SK (Stp I_36 w_3d I_36) [(g_q, [(.int .i64 3), (.int .i64 0), (.int .i64 0), v_y], 26), (g_2k, [(.int .i64 7), (.int .i64 0), (.int .i64 x_2i), (.slice A_2v m_2w m_2x)], 26)] [[13], []], ⟨Stp.refl _ _, (kp_cons (fun _ => (hp.own 2 _ _ _ rfl).1) (kp_cons (fun _ => (hp.own 3 _ _ _ rfl).1) kp_nil))⟩, fun L x h => ⟨hz.held h.1, h.2⟩, ?_⟩
            have hz := Stp.refl I_36 w_3d
            refine ⟨SK.same (by kernel_rfl), ?_⟩
            refine evh0 (rn_field rfl rfl FO26_3) ?_
            refine ⟨?_, trivial⟩
            refine ev_store1 hp (i := 2) (off := 3) rfl rfl rfl rfl T24 o_3e.one (Nat.le_of_ble_eq_true rfl) ?_
            intro w_3f hp hs
            replace hz := hz.trans hs
            replace r_2 := r_2.step hs
            replace o_3e := o_3e.step hs
            replace r_2o := r_2o.step hs
            refine ⟨SK (Stp I_36 w_3f I_36) [(g_q, [(.int .i64 3), (.int .i64 0), (.int .i64 0), v_y], 26), (g_2k, [(.int .i64 7), (.int .i64 0), (.int .i64 x_2i), (.slice A_2v m_2w m_2x)], 26)] [[13], []], ⟨Stp.refl _ _, (kp_cons (kp_off (by kernel_rfl)) (kp_cons (fun _ => (hp.own 3 _ _ _ rfl).1) kp_nil))⟩, fun L x h => ⟨hz.held h.1, h.2⟩, ?_⟩
            have hz := Stp.refl I_36 w_3f
            apply go
            have hp := hp.sel [0, 1, 2] (by decide)
            exact ⟨_, (Option.some.inj q_14).symm, (v_3b, e_3c, I_36), (.c rfl (.c rfl (.c rfl (.c rfl .n)))), ⟨hp, r_2, o_3e⟩⟩
        ·
          have q_14 := cond_f q_14 hc
          apply go
          have q_3g := congrArg some (q_15 _ (Option.some.inj q_14).symm)
          obtain rfl := Option.some.inj q_3g
          exact ⟨(x_w, v_y, e_z, I_10), (.c rfl (.c rfl .n)), rfl, hp, o_13⟩
      ·
        rintro ⟨x_3h, v_3i, e_3j, I_3k⟩ w_3l ⟨hy, hp, o_3m⟩
        replace hy := hy.symm
        subst hy
        apply go
        apply go
        refine ev (rn_load rfl rfl (run_loadVarA T26 rfl (hp.at_ (i := 2) rfl))) ?_
        refine ev_storeA hp (i := 0) (off := 0) (vs := [(.int .i64 3), (.int .i64 0), (.int .i64 0), v_3i]) rfl rfl rfl rfl T26 rfl (Nat.le_of_ble_eq_true rfl) (ones_cons rfl (ones_cons rfl (ones_cons rfl (ones_cons o_3m.one ones_nil)))) ?_
        intro w_3n hp hs
        replace o_3m := o_3m.step hs
        apply go
        obtain rfl := Option.some.inj h
        have r_3o := o_3m.frz hp (i := 1) rfl
        obtain ⟨hp, hs⟩ := freeze_hp hp (i := 1) rfl
        have hp := hp.sel [0, 2] (by decide)
        refine ⟨_, run_loadVarA T26 rfl (hp.at_ (i := 0) rfl), ?_⟩
        have hp := hp.sel [] (by decide)
        exact ⟨(Ad I_3k e_3j), v_3i, rfl, hp, r_3o⟩

end Go.Proofs.YtkhmdpekfcahkaaDoor
